import Derived.Test.YtcmpkkapkdlfhaaGreatEngE
namespace Go.Proofs.YtcmpkkapkdlfhaaGreat
open Go.RowKit
def pushD(sl:List (Nat×Value))(d:Option Nat)(v:Value):List (Nat×Value):=
 match d with
 |none=>sl
 |some d=>(d,v)::sl
def pushS:List Oper->List Value->List (Nat×Value)->List (Nat×Value)
 |o::l,v::vs,sl=>pushS l vs (pushD sl o.dst v)
 |_,_,sl=>sl
def Calm(P:Program)(C:World->Prop)(x:Sem Next)(v:Value):Prop:=
 ∀w,C w->x.run P w=.ok (.value v) w∨∃f args,x.run P w=.ok (.enter f args) w∧Calls P f args w (RetK v w)
section
variable {D:List Deferred}{P:Program}{n:Nat}{w0:World}{S:Nat->Prop}{ops:Array Oper}
theorem qExec_calm{o:Oper}{st:St}{h:QH}{r:Out}(he:qExec P n w0 S o st h=some r)(ho:All r.ob)(hg:Good r.eqs) :
  ∃v,known st.sl o=true∧Calm P (MemC w0 S st.bk st.wn st.sz) (execOp (rho st.sl) o) v∧putS n st.sl o.dst v=some r.st.sl:=by
 unfold qExec at he
 split at he
 ·split at he
  ·cases he
  ·rename_i hk
   split at he
   ·split at he
    ·rename_i v bk sz es hr
     split at he
     ·rename_i sl hsl
      simp only[Option.some.injEq]at he
      subst he
      exact⟨v,hk,fun w hw=>.inl (runR_sound P _ _ _ hr hg _ w hw.2),hsl⟩
     ·cases he
    ·cases he
   ·split at he
    ·rename_i v p hov
     split at he
     ·rename_i sl hsl
      simp only[Option.some.injEq]at he
      subst he
      exact⟨v,hk,fun w _=>.inl (ov_sound hov ho.1 w),hsl⟩
     ·cases he
    ·cases he
 ·rename_i v
  split at he
  ·cases he
  ·rename_i hk
   split at he
   ·rename_i f args hr
    split at he
    ·rename_i sl hsl
     simp only[Option.some.injEq]at he
     subst he
     exact⟨v,hk,fun w hw=>.inr ⟨f,args,runP_sound P _ _ hr w,ho.1 w hw⟩,hsl⟩
    ·cases he
   ·cases he
theorem putS_push{sl sl':List (Nat×Value)}{d:Option Nat}{v:Value}(h:putS n sl d v=some sl'):sl'=pushD sl d v∧∀x,d=some x->x<n:=by
 cases d with
 |none=>
  simp only[putS,Option.some.injEq]at h
  exact⟨h.symm,fun x hx=>by cases hx⟩
 |some d=>
  simp only[putS]at h
  split at h
  ·rename_i hlt
   simp only[Option.some.injEq]at h
   exact⟨h.symm,fun x hx=>by cases hx; simpa[Nat.blt_eq]using hlt⟩
  ·cases h
theorem qList_vals:∀(l:List Oper)(st:St)(hs:List QH)(r:Out),qList P n w0 S l st hs=some r->All r.ob->Good r.eqs ->
  ∃vs,vs.length=l.length∧r.st.sl=pushS l vs st.sl∧∀i o,l[i]?=some o->o.guard=none∧(∀d,o.dst=some d->d<n)∧known (pushS (l.take i) (vs.take i) st.sl) o=true ∧
   ∃v,vs[i]?=some v∧Calm P (MemC w0 S st.bk st.wn st.sz) (execOp (rho (pushS (l.take i) (vs.take i) st.sl)) o) v
 |[],st,hs,r,he,_,_=>by
  simp only[qList,Option.some.injEq]at he
  subst he
  exact⟨[],rfl,rfl,fun i o h=>by simp at h⟩
 |o::l,st,[],r,he,_,_=>by cases he
 |o::l,st,h::hs,r,he,ho,hg=>by
  simp only[qList]at he
  split at he
  ·cases he
  ·rename_i hgd
   split at he
   ·cases he
   ·rename_i r1 h1
    split at he
    ·cases he
    ·rename_i r2 h2
     simp only[Option.some.injEq]at he
     subst he
     obtain⟨o1,o2⟩:=all_append ho
     obtain⟨e1,e2,e3⟩:=qExec_st h1
     obtain⟨v,k1,k2,k3⟩:=qExec_calm h1 o1 (fun e he=>hg e (List.mem_append_left _ he))
     obtain⟨k4,k5⟩:=putS_push k3
     obtain⟨vs,m1,m2,m3⟩:=qList_vals l r1.st hs r2 h2 o2 (fun e he=>hg e (List.mem_append_right _ he))
     refine⟨v::vs,by simp[m1],by rw[m2,k4]; rfl,fun i o' hi=>?_⟩
     cases i with
     |zero=>
      simp only[List.getElem?_cons_zero,Option.some.injEq]at hi
      subst hi
      exact⟨hgd,k5,k1,v,rfl,k2⟩
     |succ i=>
      simp only[List.getElem?_cons_succ]at hi
      obtain⟨q1,q2,q3,q4⟩:=m3 i o' hi
      rw[e1,e2,e3,k4]at q4
      rw[k4]at q3
      exact⟨q1,q2,q3,q4⟩
theorem getS_pushS:∀(l:List Oper)(vs:List Value)(sl:List (Nat×Value))(t:Nat)(v:Value),vs.length=l.length->getS (pushS l vs sl) t=some v ->
  (∃(i:Nat)(o:Oper),l[i]?=some o∧o.dst=some t∧vs[i]?=some v)∨((∀(i:Nat)(o:Oper),l[i]?=some o->o.dst≠some t)∧getS sl t=some v)
 |[],vs,sl,t,v,_,h=>.inr ⟨fun i o hi=>by simp at hi,by cases vs<;>exact h⟩
 |o::l,[],sl,t,v,hl,h=>by simp at hl
 |o::l,u::vs,sl,t,v,hl,h=>by
  simp only[pushS]at h
  rcases getS_pushS l vs _ t v (by simpa using hl) h with⟨i,o',h1,h2,h3⟩|⟨h1,h2⟩
  ·exact .inl ⟨i+1,o',by simpa using h1,h2,by simpa using h3⟩
  ·cases hd:o.dst with
   |none=>
    rw[hd]at h2
    simp only[pushD]at h2
    refine .inr ⟨fun i o' hi=>?_,h2⟩
    cases i with
    |zero=>simp only[List.getElem?_cons_zero,Option.some.injEq]at hi; subst hi; rw[hd]; simp
    |succ i=>exact h1 i o' (by simpa using hi)
   |some d=>
    rw[hd]at h2
    simp only[pushD,getS]at h2
    split at h2
    ·rename_i he
     have he':d=t:=Nat.eq_of_beq_eq_true he
     subst he'
     exact .inl ⟨0,o,rfl,hd,by simpa using h2⟩
    ·rename_i he
     have he':d≠t:=Nat.ne_of_beq_eq_false he
     refine .inr ⟨fun i o' hi=>?_,h2⟩
     cases i with
     |zero=>simp only[List.getElem?_cons_zero,Option.some.injEq]at hi; subst hi; rw[hd]; simpa using he'
     |succ i=>exact h1 i o' (by simpa using hi)
def reachB(ops:Array Oper):Nat->Nat->Nat->Bool
 |0,_,_=>false
 |f+1,t,i=>match ops[t]? with
  |none=>false
  |some o=>o.after.toList.any fun e=>Region.binds .any e&&(Nat.beq e.on i||reachB ops f e.on i)
def Closed(ops:Array Oper)(ls:Array Bool):Prop:=∀j o,ops[j]?=some o->ls.getD j false=true->∀e∈o.after,Region.binds .any e=true->ls.getD e.on false=true
theorem reach_listed{ls:Array Bool}(hc:Closed ops ls):∀(f t i:Nat)(o:Oper),ops[t]?=some o->(∀e∈o.after,Region.binds .any e=true->ls.getD e.on false=true)->reachB ops f t i=true->ls.getD i false=true
 |0,_,_,_,_,_,h=>by cases h
 |f+1,t,i,o,ho,ha,h=>by
  simp only[reachB,ho,List.any_eq_true,Bool.and_eq_true,Bool.or_eq_true]at h
  obtain⟨e,he,hb,h1⟩:=h
  have h2:=ha e (by simpa using he) hb
  rcases h1 with h1|h1
  ·have:e.on=i:=Nat.eq_of_beq_eq_true h1
   rw[<-this]; exact h2
  ·cases ho':ops[e.on]? with
   |none=>
    cases f with
    |zero=>cases h1
    |succ f=>simp[reachB,ho']at h1
   |some o'=>exact reach_listed hc f e.on i o' ho' (hc e.on o' ho' h2) h1
def floatB(ops:Array Oper)(n:Nat)(fl:Nat):Bool:=
 decide (n<=fl) &&
 ((List.range n).all fun i=>match ops[i]? with
  |none=>false
  |some o=>((List.range ops.size).all fun j=>match ops[j]? with
   |none=>false
   |some o'=>
    (Nat.beq i j||o.dst.isNone||o'.dst != o.dst) &&
    (o.op.operands.toList.all fun|.tmp t=>(o'.dst != some t||(Nat.blt j i&&o.after.toList.any fun e=>Region.binds .any e&&Nat.beq e.on j))|_=>true)) &&
   (o.after.toList.all fun e=>!Region.binds .any e||Nat.blt e.on i)) &&
 ((List.range ops.size).all fun t=>Nat.blt t n||Nat.beq t fl||(List.range n).all fun i=>reachB ops (ops.size+1) t i)
def flAt(P:Program)(ops:Array Oper)(fl:Nat):Option (TypeId×Nat×List Value):=
 match ops[fl]? with
 |some o=>match o.op,o.guard,o.dst with
  |.alloc t,none,some d=>match (P.info? t).bind (·.zero)with
   |some z=>some (t,d,z.cells.toList)
   |none=>none
  |_,_,_=>none
 |none=>none
def listedOf(size n:Nat)(b:Bool)(fl:Nat):Array Bool:=((List.range size).map fun i=>Nat.blt i n||(b&&Nat.beq i fl)).toArray
theorem flAt_run{fl:Nat}{t:TypeId}{d:Nat}{cs:List Value}(h:flAt P ops fl=some (t,d,cs)):∃o,ops[fl]?=some o∧o.guard=none∧o.dst=some d∧∀ρ w,(execOp ρ o).run P w=.ok (.value (.pointer (some ⟨w.heap.size,0,none⟩))) (w.alloc (.cells cs.toArray t)):=by
 unfold flAt at h
 split at h
 ·rename_i o ho
  split at h
  ·rename_i t' d' h1 h2 h3
   split at h
   ·rename_i z hz
    simp only[Option.some.injEq,Prod.mk.injEq]at h
    obtain⟨rfl,rfl,rfl⟩:=h
    refine⟨o,ho,h2,h3,fun ρ w=>?_⟩
    obtain⟨i,hi,hz'⟩:=Option.bind_eq_some_iff.1 hz
    obtain⟨dst,op,ty,pos,after,guard⟩:=o
    simp only at h1
    subst h1
    have h1:(zeroValue t').run P w=.ok z w:=by simp[zeroValue,typeInfo,hi,hz']
    have h2:(newVar t' z).run P w=.ok ⟨w.heap.size,0,none⟩ (w.alloc (.cells z.cells t')):=rfl
    have e:z.cells.toList.toArray=z.cells:=by simp
    rw[e]
    simp[execOp,Instr.alloc,h1,h2]
   ·cases h
  ·cases h
 ·cases h
theorem blkC{bk:List Bk}{wn:List Wn}{sz:Nat}{w w':World}(h:MemC w0 S bk wn sz w)(hk:Kept (fun _=>False) w w'):MemC w0 S bk wn sz w':=⟨Nat.le_trans h.1 hk.size,(h.2.same hk).2⟩
structure FInv(D:List Deferred)(P:Program)(N:Nat)(w0:World)(S:Nat->Prop)(ops:Array Oper)(n fl:Nat)(t:TypeId)(d:Nat)(cs:List Value)(vs:List Value)(st:St)(fuel:Nat)(ls:Array Bool)(a:Act)(w:World):Prop where
 size:ls.size=ops.size
 closed:Closed ops ls
 tail:∀i,n<=i->i≠fl->ls.getD i false=false
 cnt:fuel+((List.range ops.size).filter (fun i=>ls.getD i false)).length=ops.size
 fsize:a.tmps.size=N
 df:a.defers=D
 old:∀i v,getS st.sl i=some v->(∀j o,ls.getD j false=true->ops[j]?=some o->o.dst≠some i)->a.tmps[i]?=some v
 new:∀i o x v,i<n->ls.getD i false=true->ops[i]?=some o->o.dst=some x->vs[i]?=some v->a.tmps[x]?=some v
 flt:ls.getD fl false=true->∃g,st.sz<=g∧a.tmps[d]?=some (.pointer (some ⟨g,0,none⟩))∧Blk w g t cs
 mem:MemC w0 S st.bk st.wn st.sz w
theorem floatB_le{n fl:Nat}(h:floatB ops n fl=true):n<=fl:=by
 simp only[floatB,Bool.and_eq_true,decide_eq_true_eq]at h
 exact h.1.1
theorem floatB_head{n fl:Nat}(h:floatB ops n fl=true){i:Nat}(hi:i<n):∃o,ops[i]?=some o ∧
  (∀j o' d,j≠i->ops[j]?=some o'->o.dst=some d->o'.dst≠some d) ∧
  (∀t j o',.tmp t∈o.op.operands->ops[j]?=some o'->o'.dst=some t->j<i∧∃e∈o.after,Region.binds .any e=true∧e.on=j) ∧
  (∀e∈o.after,Region.binds .any e=true->e.on<i):=by
 simp only[floatB,Bool.and_eq_true,decide_eq_true_eq]at h
 have h1:=List.all_eq_true.1 h.1.2 i (List.mem_range.2 hi)
 cases ho:ops[i]? with
 |none=>simp[ho]at h1
 |some o=>
  simp only[ho,Bool.and_eq_true]at h1
  refine⟨o,rfl,fun j o' d hj ho' hd hd'=>?_,fun t j o' ht ho' hd=>?_,fun e he hb=>?_⟩
  ·have h2:=List.all_eq_true.1 h1.1 j (List.mem_range.2 (Array.getElem?_eq_some_iff.1 ho').1)
   simp only[ho',Bool.and_eq_true,Bool.or_eq_true]at h2
   rcases h2.1 with(h3|h3)|h3
   ·exact hj (Nat.eq_of_beq_eq_true h3).symm
   ·rw[hd]at h3; simp at h3
   ·rw[hd,hd']at h3; simp at h3
  ·have h2:=List.all_eq_true.1 h1.1 j (List.mem_range.2 (Array.getElem?_eq_some_iff.1 ho').1)
   simp only[ho',Bool.and_eq_true]at h2
   have h3:=List.all_eq_true.1 h2.2 (.tmp t) (by simpa using ht)
   simp only[hd,bne_self_eq_false,Bool.false_or,Bool.and_eq_true,List.any_eq_true]at h3
   obtain⟨h4,e,he,hb,hon⟩:=h3
   exact⟨by simpa[Nat.blt_eq]using h4,e,by simpa using he,hb,Nat.eq_of_beq_eq_true hon⟩
  ·have h3:=List.all_eq_true.1 h1.2 e (by simpa using he)
   simp only[hb,Bool.not_true,Bool.false_or]at h3
   simpa[Nat.blt_eq]using h3
theorem floatB_tail{n fl:Nat}(h:floatB ops n fl=true){t:Nat}(ht:t<ops.size)(h1:n<=t)(h2:t≠fl){i:Nat}(hi:i<n):reachB ops (ops.size+1) t i=true:=by
 simp only[floatB,Bool.and_eq_true,decide_eq_true_eq]at h
 have h3:=List.all_eq_true.1 h.2 t (List.mem_range.2 ht)
 simp only[Bool.or_eq_true]at h3
 rcases h3 with(h3|h3)|h3
 ·have:t<n:=by simpa[Nat.blt_eq]using h3
  omega
 ·exact absurd (Nat.eq_of_beq_eq_true h3) h2
 ·exact List.all_eq_true.1 h3 i (List.mem_range.2 hi)
theorem cnt_set{m:Nat}{ls:Array Bool}{i:Nat}(hi:i<ls.size)(hu:ls.getD i false=false)(him:i<m) :
  ((List.range m).filter (fun j=>(ls.setIfInBounds i true).getD j false)).length=((List.range m).filter (fun j=>ls.getD j false)).length+1:=by
 induction m with
 |zero=>omega
 |succ m ih=>
  rw[List.range_succ,List.filter_append,List.filter_append,List.length_append,List.length_append]
  by_cases hm:i=m
  ·subst hm
   have e:((List.range i).filter (fun j=>(ls.setIfInBounds i true).getD j false))=((List.range i).filter (fun j=>ls.getD j false)):=by
    apply List.filter_congr
    intro j hj
    rw[getD_set_ne false (by have:=List.mem_range.1 hj; omega)]
   have e2:(ls.setIfInBounds i true).getD i false=true:=by simp[hi]
   rw[e]
   simp only[List.filter_cons,List.filter_nil,e2,hu]
   rfl
  ·rw[ih (by omega)]
   have e2:(ls.setIfInBounds i true).getD m false=ls.getD m false:=getD_set_ne false hm
   simp only[List.filter_cons,List.filter_nil,e2]
   omega
section
variable {N n' fl d:Nat}{t:TypeId}{cs:List Value}{vs:List Value}{st:St}{Q:Exit->Act->World->Prop}
theorem FInv.put{fuel:Nat}{ls:Array Bool}{a:Act}{w w':World}{i:Nat}{o:Oper}{v:Value}(h:FInv D P N w0 S ops n fl t d cs vs st (fuel+1) ls a w)(hfb:floatB ops n fl=true)(hfd:∃o,ops[fl]?=some o∧o.dst=some d)
  (hi:i∈Region.ready .any ops ls) (ho:ops[i]?=some o) (hin:i<n) (hv:vs[i]?=some v) (hN:∀x,o.dst=some x->x<N) (hk:Kept (fun _=>False) w w') :
  FInv D P N w0 S ops n fl t d cs vs st fuel (ls.setIfInBounds i true) (a.put o.dst v) w':=by
 obtain⟨hun,o',ho',hall⟩:=mem_ready.1 hi
 have e:o'=o:=Option.some.inj (ho'.symm.trans ho)
 subst e
 obtain⟨o2,ho2,hd,hop,haf⟩:=floatB_head hfb hin
 have e:o2=o':=Option.some.inj (ho2.symm.trans ho)
 subst e
 have hle:=floatB_le hfb
 have his:i<ls.size:=by rw[h.size]; exact(Array.getElem?_eq_some_iff.1 ho).1
 have hun':=getD_both hun
 obtain⟨of,hof,hofd⟩:=hfd
 refine⟨by simp[h.size],fun j oj hj hl e he hb=>?_,fun j hj hne=>?_,?_,?_,?_,fun s u hs hno=>?_,fun j oj x u hj hl hoj hx hu=>?_,fun hl=>?_,blkC h.mem hk⟩
 ·by_cases hij:i=j
  ·subst hij
   have:oj=o2:=Option.some.inj (hj.symm.trans ho)
   subst this
   exact getD_set_true (hall e he hb)
  ·rw[getD_set_ne false hij]at hl
   exact getD_set_true (h.closed j oj hj hl e he hb)
 ·rw[getD_set_ne false (by omega)]
  exact h.tail j hj hne
 ·rw[cnt_set his hun' (by rw[<-h.size]; exact his)]
  have:=h.cnt
  omega
 ·cases hd':o2.dst with
  |none=>exact h.fsize
  |some x=>simpa[Act.put]using h.fsize
 ·rw[put_defers]; exact h.df
 ·have h1:=h.old s u hs (fun j oj hlj hoj=>hno j oj (getD_set_true hlj) hoj)
  have h2:o2.dst≠some s:=hno i o2 (by simp[his]) ho
  cases hd':o2.dst with
  |none=>exact h1
  |some x=>
   have hne:x≠s:=fun e=>h2 (by rw[hd',e])
   simp only[Act.put]
   rw[Array.getElem?_setIfInBounds_ne hne]
   exact h1
 ·by_cases hij:j=i
  ·subst hij
   have:oj=o2:=Option.some.inj (hoj.symm.trans ho)
   subst this
   have e:u=v:=Option.some.inj (hu.symm.trans hv)
   subst e
   have hlt:=hN x hx
   rw[hx]
   simp[Act.put,h.fsize,hlt]
  ·rw[getD_set_ne false (Ne.symm hij)]at hl
   have h1:=h.new j oj x u hj hl hoj hx hu
   cases hd':o2.dst with
   |none=>exact h1
   |some y=>
    have hne:y≠x:=fun e=>hd j oj y hij hoj hd' (by rw[hx,e])
    simp only[Act.put]
    rw[Array.getElem?_setIfInBounds_ne hne]
    exact h1
 ·rw[getD_set_ne false (by omega)]at hl
  obtain⟨g,g1,g2,g3⟩:=h.flt hl
  refine⟨g,g1,?_,g3.kept hk id⟩
  cases hd':o2.dst with
  |none=>exact g2
  |some y=>
   have hne:y≠d:=fun e=>hd fl of y (by omega) hof hd' (by rw[hofd,e])
   simp only[Act.put]
   rw[Array.getElem?_setIfInBounds_ne hne]
   exact g2
theorem FInv.make{fuel:Nat}{ls:Array Bool}{a:Act}{w:World}(h:FInv D P N w0 S ops n fl t d cs vs st (fuel+1) ls a w)(hfb:floatB ops n fl=true){o:Oper}(ho:ops[fl]?=some o)(hod:o.dst=some d)(hdN:d<N)
  (hi:fl∈Region.ready .any ops ls) :
  FInv D P N w0 S ops n fl t d cs vs st fuel (ls.setIfInBounds fl true) (a.put o.dst (.pointer (some ⟨w.heap.size,0,none⟩))) (w.alloc (.cells cs.toArray t)):=by
 obtain⟨hun,o',ho',hall⟩:=mem_ready.1 hi
 have e:o'=o:=Option.some.inj (ho'.symm.trans ho)
 subst e
 have hle:=floatB_le hfb
 have his:fl<ls.size:=by rw[h.size]; exact(Array.getElem?_eq_some_iff.1 ho).1
 have hun':=getD_both hun
 have hk:Kept (fun _=>False) w (w.alloc (.cells cs.toArray t)):=(Kept.refl _ w).alloc _
 refine⟨by simp[h.size],fun j oj hj hl e he hb=>?_,fun j hj hne=>?_,?_,?_,?_,fun s u hs hno=>?_,fun j oj x u hj hl hoj hx hu=>?_,fun _=>?_,blkC h.mem hk⟩
 ·by_cases hij:fl=j
  ·subst hij
   have:oj=o':=Option.some.inj (hj.symm.trans ho)
   subst this
   exact getD_set_true (hall e he hb)
  ·rw[getD_set_ne false hij]at hl
   exact getD_set_true (h.closed j oj hj hl e he hb)
 ·rw[getD_set_ne false (Ne.symm hne)]
  exact h.tail j hj hne
 ·rw[cnt_set his hun' (by rw[<-h.size]; exact his)]
  have:=h.cnt
  omega
 ·rw[hod]; simpa[Act.put]using h.fsize
 ·rw[put_defers]; exact h.df
 ·have h1:=h.old s u hs (fun j oj hlj hoj=>hno j oj (getD_set_true hlj) hoj)
  have h2:o'.dst≠some s:=hno fl o' (by simp[his]) ho
  have hne:d≠s:=fun e=>h2 (by rw[hod,e])
  rw[hod]
  simp only[Act.put]
  rw[Array.getElem?_setIfInBounds_ne hne]
  exact h1
 ·rw[getD_set_ne false (by omega)]at hl
  have h1:=h.new j oj x u hj hl hoj hx hu
  obtain⟨o2,ho2,hd,_⟩:=floatB_head hfb hj
  have e:o2=oj:=Option.some.inj (ho2.symm.trans hoj)
  subst e
  have hne:d≠x:=fun e=>hd fl o' x (by omega) ho hx (by rw[hod,e])
  rw[hod]
  simp only[Act.put]
  rw[Array.getElem?_setIfInBounds_ne hne]
  exact h1
 ·refine⟨w.heap.size,h.mem.1,?_,Blk.new _ _ _⟩
  rw[hod]
  simp[Act.put,h.fsize,hdN]
def HeadVals(P:Program)(N:Nat)(w0:World)(S:Nat->Prop)(ops:Array Oper)(n:Nat)(st:St)(vs:List Value):Prop:=
 vs.length=n∧∀(i:Nat)(o:Oper),(ops.toList.take n)[i]?=some o->o.guard=none∧(∀d,o.dst=some d->d<N)∧known (pushS ((ops.toList.take n).take i) (vs.take i) st.sl) o=true ∧
  ∃v,vs[i]?=some v∧Calm P (MemC w0 S st.bk st.wn st.sz) (execOp (rho (pushS ((ops.toList.take n).take i) (vs.take i) st.sl)) o) v
theorem take_get{i:Nat}{o:Oper}(hi:i<n)(ho:ops[i]?=some o):(ops.toList.take n)[i]?=some o:=by
 rw[List.getElem?_take,if_pos hi]
 simpa using ho
theorem FInv.exec{fuel:Nat}{ls:Array Bool}{a:Act}{w:World}{i:Nat}{o:Oper}(h:FInv D P N w0 S ops n fl t d cs vs st fuel ls a w)(hfb:floatB ops n fl=true)(hvs:vs.length=n)
  (hi:i∈Region.ready .any ops ls) (ho:ops[i]?=some o) (hin:i<n) (hk:known (pushS ((ops.toList.take n).take i) (vs.take i) st.sl) o=true) :
  execOp a.eval o=execOp (rho (pushS ((ops.toList.take n).take i) (vs.take i) st.sl)) o:=by
 obtain⟨hun,o',ho',hall⟩:=mem_ready.1 hi
 have e:o'=o:=Option.some.inj (ho'.symm.trans ho)
 subst e
 obtain⟨o2,ho2,hd,hop,haf⟩:=floatB_head hfb hin
 have e:o2=o':=Option.some.inj (ho2.symm.trans ho)
 subst e
 simp only[known,Bool.and_eq_true,List.all_eq_true]at hk
 refine execOp_congr o2 (fun c b he=>?_) fun x hx=>?_
 ·have:=hk.2
  simp[he]at this
 ·obtain⟨u,hu⟩:=Option.isSome_iff_exists.1 (hk.1 x (by simpa using hx))
  rw[Go.Proofs.YtcmpkkapkdlfhaaGreat.rho,hu,Option.getD_some]
  cases x with
  |const c=>simpa[opd,Act.eval]using hu
  |global g=>simpa[opd,Act.eval]using hu
  |func f=>simpa[opd,Act.eval]using hu
  |tmp s=>
   simp only[opd]at hu
   have key:a.tmps[s]?=some u:=by
    have hisz:=(Array.getElem?_eq_some_iff.1 ho).1
    rcases getS_pushS _ _ _ s u (by simp[hvs]; omega) hu with⟨j,oj,h1,h2,h3⟩|⟨h1,h2⟩
    ·rw[List.getElem?_take]at h1
     split at h1
     ·rename_i hji
      rw[List.getElem?_take,if_pos (by omega)]at h1
      have hoj:ops[j]?=some oj:=by simpa using h1
      obtain⟨_,e,he,hb,hon⟩:=hop s j oj hx hoj h2
      rw[List.getElem?_take,if_pos hji]at h3
      exact h.new j oj s u (by omega) (hon▸hall e he hb) hoj h2 h3
     ·cases h1
    ·refine h.old s u h2 (fun j oj _ hoj hoj2=>?_)
     obtain⟨hji,_⟩:=hop s j oj hx hoj hoj2
     refine h1 j oj ?_ hoj2
     rw[List.getElem?_take,if_pos hji]
     exact take_get (by omega) hoj
   simp[Act.eval,key]
theorem FInv.fr{fuel:Nat}{ls:Array Bool}{a:Act}{w:World}(h:FInv D P N w0 S ops n fl t d cs vs st fuel ls a w)(hfb:floatB ops n fl=true)(hv:HeadVals P N w0 S ops n st vs)(hall:∀i,i<n->ls.getD i false=true)(hfd:∃o,ops[fl]?=some o∧o.dst=some d) :
  (ls.getD fl false=false->FrOk D N (pushS (ops.toList.take n) vs st.sl) a) ∧
  (ls.getD fl false=true->∃g,st.sz<=g∧FrOk D N ((d,.pointer (some ⟨g,0,none⟩))::pushS (ops.toList.take n) vs st.sl) a∧Blk w g t cs):=by
 have hle:=floatB_le hfb
 have hnl:(ops.toList.take n).length=n:=by
  rcases Nat.lt_or_ge (ops.toList.take n).length n with hlt|hge
  ·exfalso
   simp only[List.length_take,Array.length_toList]at hlt
   have hn:ops.size<n:=by omega
   have h1:=hall ops.size hn
   have:ls.getD ops.size false=false:=by simp[h.size]
   rw[this]at h1
   cases h1
  ·have:=List.length_take_le n ops.toList
   omega
 have key:∀s u,getS (pushS (ops.toList.take n) vs st.sl) s=some u->(ls.getD fl false=true->s≠d)->a.tmps[s]?=some u:=by
  intro s u hs hne
  rcases getS_pushS _ _ _ s u (by rw[hnl]; exact hv.1) hs with⟨j,oj,h1,h2,h3⟩|⟨h1,h2⟩
  ·rw[List.getElem?_take]at h1
   split at h1
   ·rename_i hjn
    have hoj:ops[j]?=some oj:=by simpa using h1
    exact h.new j oj s u hjn (hall j hjn) hoj h2 h3
   ·cases h1
  ·refine h.old s u h2 (fun j oj hj hoj hoj2=>?_)
   rcases Nat.lt_or_ge j n with hjn|hjn
   ·exact h1 j oj (take_get hjn hoj) hoj2
   ·by_cases hjf:j=fl
    ·subst hjf
     obtain⟨of,hof,hofd⟩:=hfd
     have e:of=oj:=Option.some.inj (hof.symm.trans hoj)
     subst e
     rw[hofd]at hoj2
     exact hne hj (Option.some.inj hoj2).symm
    ·rw[h.tail j hjn hjf]at hj
     cases hj
 refine⟨fun hf=>⟨h.fsize,h.df,fun s u hs=>key s u hs (fun hf'=>by rw[hf]at hf'; cases hf')⟩,fun hf=>?_⟩
 obtain⟨g,g1,g2,g3⟩:=h.flt hf
 refine⟨g,g1,⟨h.fsize,h.df,fun s u hs=>?_⟩,g3⟩
 simp only[getS]at hs
 split at hs
 ·rename_i he
  have he':d=s:=Nat.eq_of_beq_eq_true he
  subst he'
  simp only[Option.some.injEq]at hs
  subst hs
  exact g2
 ·rename_i he
  have he':d≠s:=Nat.ne_of_beq_eq_false he
  exact key s u hs (fun _=>Ne.symm he')
theorem listed_is{fuel:Nat}{ls:Array Bool}{a:Act}{w:World}(h:FInv D P N w0 S ops n fl t d cs vs st fuel ls a w)(hfb:floatB ops n fl=true)(hall:∀i,i<n->ls.getD i false=true):ls=listedOf ops.size n (ls.getD fl false) fl:=by
 apply Array.ext_getElem?
 intro i
 by_cases hi:i<ops.size
 ·have hs:i<ls.size:=by rw[h.size]; exact hi
  have e1:ls[i]?=some (ls.getD i false):=by simp[hs]
  have e2:(listedOf ops.size n (ls.getD fl false) fl)[i]?=some (Nat.blt i n||(ls.getD fl false&&Nat.beq i fl)):=by
   simp[listedOf,hi]
  rw[e1,e2]
  congr 1
  have hle:=floatB_le hfb
  rcases Nat.lt_or_ge i n with hn|hn
  ·rw[hall i hn]
   have:Nat.blt i n=true:=by simpa[Nat.blt_eq]using hn
   rw[this]
   rfl
  ·have hb:Nat.blt i n=false:=by
    cases hb:Nat.blt i n with
    |false=>rfl
    |true=>
      have:i<n:=by simpa[Nat.blt_eq]using hb
      omega
   by_cases hif:i=fl
   ·subst hif
    rw[hb]
    simp
   ·rw[h.tail i hn hif,hb]
    have:Nat.beq i fl=false:=by
     cases hb2:Nat.beq i fl with
     |false=>rfl
     |true=>exact absurd (Nat.eq_of_beq_eq_true hb2) hif
    rw[this]
    simp
 ·have hs:¬i<ls.size:=by rw[h.size]; exact hi
  have e1:ls[i]?=none:=by simpa using Nat.le_of_not_lt hs
  rw[e1]
  symm
  simp only[listedOf,List.getElem?_toArray,List.getElem?_eq_none_iff,List.length_map,List.length_range]
  omega
theorem cnt_listed{m:Nat}{b:Bool}(hn:n<=fl)(hf:fl<m):((List.range m).filter (fun i=>(listedOf m n b fl).getD i false)).length=n+(if b then 1 else 0):=by
 have e:(List.range m).filter (fun i=>(listedOf m n b fl).getD i false)=(List.range m).filter (fun i=>Nat.blt i n||(b&&Nat.beq i fl)):=by
  apply List.filter_congr
  intro i hi
  have:=List.mem_range.1 hi
  simp[listedOf,this]
 rw[e]
 clear e
 induction m with
 |zero=>omega
 |succ m ih=>
  rw[List.range_succ,List.filter_append,List.length_append]
  have key:∀k,k<=fl->((List.range k).filter (fun i=>Nat.blt i n||(b&&Nat.beq i fl))).length=min k n:=by
   intro k
   induction k with
   |zero=>intro _; simp
   |succ k ihk=>
    intro hk
    rw[List.range_succ,List.filter_append,List.length_append,ihk (by omega)]
    have h1:Nat.beq k fl=false:=by
     cases hb2:Nat.beq k fl with
     |false=>rfl
     |true=>
       have:=Nat.eq_of_beq_eq_true hb2
       omega
    by_cases hkn:k<n
    ·have h2:Nat.blt k n=true:=by simpa[Nat.blt_eq]using hkn
     simp only[List.filter_cons,h2,Bool.true_or,if_true,List.filter_nil,List.length_cons,List.length_nil]
     omega
    ·have h2:Nat.blt k n=false:=by
      cases hb:Nat.blt k n with
      |false=>rfl
      |true=>
        have:k<n:=by simpa[Nat.blt_eq]using hb
        omega
     simp only[List.filter_cons,h2,h1,Bool.and_false,Bool.or_false,Bool.false_eq_true,if_false,List.filter_nil,List.length_nil]
     omega
  by_cases hm:fl=m
  ·subst hm
   rw[key fl (Nat.le_refl _)]
   have h2:Nat.blt fl n=false:=by
    cases hb:Nat.blt fl n with
    |false=>rfl
    |true=>
      have:fl<n:=by simpa[Nat.blt_eq]using hb
      omega
   have h3:Nat.beq fl fl=true:=Nat.beq_refl fl
   cases b
   ·simp only[List.filter_cons,h2,Bool.false_and,Bool.or_false,Bool.false_eq_true,if_false,List.filter_nil,List.length_nil]
    omega
   ·simp only[List.filter_cons,h2,h3,Bool.true_and,Bool.or_true,if_true,List.filter_nil,List.length_cons,List.length_nil]
    omega
  ·rw[ih (by omega)]
   have h1:Nat.beq m fl=false:=by
    cases hb2:Nat.beq m fl with
    |false=>rfl
    |true=>exact absurd (Nat.eq_of_beq_eq_true hb2).symm hm
   have h2:Nat.blt m n=false:=by
    cases hb:Nat.blt m n with
    |false=>rfl
    |true=>
      have:m<n:=by simpa[Nat.blt_eq]using hb
      omega
   simp[h1,h2]
theorem finv_any(hfb:floatB ops n fl=true)(hfl:flAt P ops fl=some (t,d,cs))(hdN:d<N)(hv:HeadVals P N w0 S ops n st vs)
  (T0:∀a w,FrOk D N (pushS (ops.toList.take n) vs st.sl) a->MemC w0 S st.bk st.wn st.sz w->wpAny P .any ops Q (ops.size-n) (listedOf ops.size n false fl) a w)
  (T1:∀g a w,st.sz<=g->FrOk D N ((d,.pointer (some ⟨g,0,none⟩))::pushS (ops.toList.take n) vs st.sl) a->MemC w0 S st.bk st.wn st.sz w->Blk w g t cs->wpAny P .any ops Q (ops.size-n-1) (listedOf ops.size n true fl) a w) :
  ∀(fuel:Nat)(ls:Array Bool)(a:Act)(w:World),FInv D P N w0 S ops n fl t d cs vs st fuel ls a w->wpAny P .any ops Q fuel ls a w:=by
 obtain⟨of,hof,hofg,hofd,hrun⟩:=flAt_run hfl
 have hfls:fl<ops.size:=(Array.getElem?_eq_some_iff.1 hof).1
 have hle:=floatB_le hfb
 intro fuel
 induction fuel with
 |zero=>
  intro ls a w h
  by_cases hall:∀i,i<n->ls.getD i false=true
  ·have hl:=listed_is h hfb hall
   have hc:=h.cnt
   rw[hl,cnt_listed hle hfls]at hc
   obtain⟨f0,f1⟩:=h.fr hfb hv hall ⟨of,hof,hofd⟩
   cases hb:ls.getD fl false with
   |false=>
    rw[hb]at hc hl
    have h1:=T0 a w (f0 hb) h.mem
    rw[<-hl]at h1
    simp only[Bool.false_eq_true,if_false]at hc
    rw[show ops.size-n=0 by omega]at h1
    exact h1
   |true=>
    rw[hb]at hc hl
    obtain⟨g,g1,g2,g3⟩:=f1 hb
    have h1:=T1 g a w g1 g2 h.mem g3
    rw[<-hl]at h1
    simp only[if_true]at hc
    rw[show ops.size-n-1=0 by omega]at h1
    exact h1
  ·exfalso
   have hc:=h.cnt
   obtain⟨i,hi⟩:=Classical.not_forall.1 hall
   obtain⟨hin,hi⟩:=Classical.not_imp.1 hi
   have h1:((List.range ops.size).filter (fun i=>ls.getD i false)).length<(List.range ops.size).length:=by
    refine List.length_filter_lt_length_iff_exists.2 ⟨i,List.mem_range.2 (by omega),hi⟩
   simp only[List.length_range]at h1
   omega
 |succ fuel ih=>
  intro ls a w h
  by_cases hall:∀i,i<n->ls.getD i false=true
  ·have hl:=listed_is h hfb hall
   have hc:=h.cnt
   rw[hl,cnt_listed hle hfls]at hc
   obtain⟨f0,f1⟩:=h.fr hfb hv hall ⟨of,hof,hofd⟩
   cases hb:ls.getD fl false with
   |false=>
    rw[hb]at hc hl
    have h1:=T0 a w (f0 hb) h.mem
    rw[<-hl]at h1
    simp only[Bool.false_eq_true,if_false]at hc
    rw[show ops.size-n=fuel+1 by omega]at h1
    exact h1
   |true=>
    rw[hb]at hc hl
    obtain⟨g,g1,g2,g3⟩:=f1 hb
    have h1:=T1 g a w g1 g2 h.mem g3
    rw[<-hl]at h1
    simp only[if_true]at hc
    rw[show ops.size-n-1=fuel+1 by omega]at h1
    exact h1
  ·obtain⟨i,hi⟩:=Classical.not_forall.1 hall
   obtain⟨hin,hi⟩:=Classical.not_imp.1 hi
   refine⟨fun hnil=>?_,fun j hj=>?_⟩
   ·exfalso
    obtain⟨m,⟨hmn,hmu⟩,hmin⟩:=exists_least (p:=fun i=>i<n∧ls.getD i false=false) ⟨i,hin,by simpa using hi⟩
    obtain⟨o2,ho2,hd2,hop2,haf2⟩:=floatB_head hfb hmn
    have hms:m<ls.size:=by rw[h.size]; exact(Array.getElem?_eq_some_iff.1 ho2).1
    have:m∈Region.ready .any ops ls:=mem_ready.2 ⟨getD_in hms hmu,o2,ho2,fun e he hb=>by
     have h1:=haf2 e he hb
     cases hg:ls.getD e.on false with
     |true=>rfl
     |false=>
       have:=hmin e.on ⟨by omega,hg⟩
       omega⟩
    rw[hnil]at this
    cases this
   ·obtain⟨hun,o,ho,haft⟩:=mem_ready.1 hj
    rcases Nat.lt_or_ge j n with hjn|hjn
    ·obtain⟨k1,k2,k3,v,k4,k5⟩:=hv.2 j o (take_get hjn ho)
     have he:=h.exec hfb hv.1 hj ho hjn k3
     have hw:Region.wanted o (yielded ops a.tmps)=true:=by simp[Region.wanted,k1]
     simp only[wpOp,ho,if_pos hw]
     refine .inl ?_
     unfold Oper.wp
     rw[he]
     rcases k5 w h.mem with h1|⟨f,args,h1,h2⟩
     ·rw[h1,Oper.upon_value]
      exact ih _ _ _ (h.put hfb ⟨of,hof,hofd⟩ hj ho hjn k4 k2 (Kept.refl _ _))
     ·rw[h1,Oper.upon_enter]
      refine h2.mono fun e w' hr=>?_
      obtain⟨rfl,hk⟩:=hr
      exact ih _ _ _ (h.put hfb ⟨of,hof,hofd⟩ hj ho hjn k4 k2 hk)
    ·by_cases hjf:j=fl
     ·subst hjf
      have e:o=of:=Option.some.inj (ho.symm.trans hof)
      subst e
      have hw:Region.wanted o (yielded ops a.tmps)=true:=by simp[Region.wanted,hofg]
      simp only[wpOp,ho,if_pos hw]
      refine .inl ?_
      simp only[Oper.wp,hrun,Oper.upon_value]
      exact ih _ _ _ (h.make hfb ho hofd hdN hj)
     ·exfalso
      have hjs:=(Array.getElem?_eq_some_iff.1 ho).1
      have h1:=floatB_tail hfb hjs hjn hjf hin
      exact hi (reach_listed h.closed _ j i o ho haft h1)
theorem holds_float{body:Code}{p:List Nat}{k:List KI}{st st':St}{Q:Exit->Act->World->Prop}{fl f:Nat}{t:TypeId}{d:Nat}{cs:List Value}{ls0 ls1:Array Bool}{ob:List Prop}{rs:List (Nat×Nat×Nat)}(m:Nat)(hs:List QH)(ks:List Nat)
  (hc:isDraw (getCode body p)=true) (hm:P.follows .mixedOrders=true) (hB:floatB (opsOf (getCode body p)) m fl=true) (hfl:flAt P (opsOf (getCode body p)) fl=some (t,d,cs)) (hdN:d<N)
  (hz:(opsOf (getCode body p)).size-m=f+1) (h0:listedOf (opsOf (getCode body p)).size m false fl=ls0) (h1:listedOf (opsOf (getCode body p)).size m true fl=ls1)
  (h:Out.prune ks (qList P N w0 S ((opsOf (getCode body p)).toList.take m) st hs)=some ⟨ob,dupR rs,st'⟩) (ho:All ob)
  (H1:∀g sz,st.sz<=g->st.sz<=sz->Holds D P body N w0 S Q (.any p f ls1::k) ⟨(d,.pointer (some ⟨g,0,none⟩))::st'.sl,st.bk++[⟨g,t,true,cs⟩],st.wn,sz⟩)
  (H0:∀sz,st.sz<=sz->Holds D P body N w0 S Q (.any p (f+1) ls0::k) ⟨st'.sl,st.bk,st.wn,sz⟩):Holds D P body N w0 S Q (.code p::k) st:=by
 intro a w hf hmm
 obtain⟨id,hc⟩:=draw_of hc
 generalize hops:opsOf (getCode body p)=ops at *
 subst h0 h1
 obtain⟨r,hr,e1,e2,e3⟩:=out_prune h
 dsimp only at e1 e2 e3
 obtain⟨vs,v1,v2,v3⟩:=qList_vals _ st hs r hr (by rw[e1]; exact ho) (by rw[e2]; exact dupR_good rs)
 have hle:=floatB_le hB
 obtain⟨of,hof,hofg,hofd,hrun⟩:=flAt_run hfl
 have hfls:fl<ops.size:=(Array.getElem?_eq_some_iff.1 hof).1
 have hv:HeadVals P N w0 S ops m st vs:=⟨by rw[v1]; simp; omega,fun i o hi=>by
  obtain⟨q1,q2,q3,q4⟩:=v3 i o hi
  exact⟨q1,q2,q3,q4⟩⟩
 have hkeep:∀(sl:List (Nat×Value))(a:Act),FrOk D N sl a->FrOk D N (keepS sl ks) a:=fun sl a h=>⟨h.size,h.df,fun i v hi=>h.val i v (getS_keepS ks i v hi)⟩
 have hsl:st'.sl=keepS (pushS (ops.toList.take m) vs st.sl) ks:=by rw[<-e3,<-v2]; rfl
 simp only[sem,hc]
 refine wp_region_any hm ?_
 refine finv_any (D:=D) hB hfl hdN hv (fun a w hfr hmc=>?_) (fun g a w hg hfr hmc hb=>?_) ops.size _ a _ ?_
 ·have h2:=H0 w.heap.size hmc.1 a w (by rw[hsl]; exact hkeep _ _ hfr) hmc.2
  simp only[sem,hops]at h2
  rw[hz]
  exact h2
 ·have hfr2:FrOk D N ((d,.pointer (some ⟨g,0,none⟩))::st'.sl) a:=by
   refine⟨hfr.size,hfr.df,fun i v hi=>hfr.val i v ?_⟩
   simp only[getS]at hi ⊢
   split at hi
   ·exact hi
   ·rw[hsl]at hi
    exact getS_keepS ks i v hi
  have hlt:∀b∈st.bk,b.g<st.sz:=fun b hb=>hmm.lt hb
  have hmem:MemOk w0 S (st.bk++[⟨g,t,true,cs⟩]) st.wn w.heap.size w:=by
   refine⟨rfl,fun b hb'=>?_,fun b hb' hr'=>?_,?_,hmc.2.kept,hmc.2.win⟩
   ·rcases List.mem_append.1 hb' with h3|h3
    ·exact hmc.2.blk b h3
    ·simp only[List.mem_singleton]at h3
     subst h3
     exact hb
   ·rcases List.mem_append.1 hb' with h3|h3
    ·exact hmc.2.own b h3 hr'
    ·simp only[List.mem_singleton]at h3
     subst h3
     right
     have h4:=hmm.kept.size
     have h5:=hmm.size
     show w0.heap.size<=g
     omega
   ·rw[List.map_append,List.nodup_append]
    refine⟨hmc.2.nd,by simp,fun x hx y hy=>?_⟩
    simp only[List.map_cons,List.map_nil,List.mem_singleton]at hy
    subst hy
    obtain⟨b,hb',rfl⟩:=List.mem_map.1 hx
    have:=hlt b hb'
    omega
  have h2:=H1 g w.heap.size hg hmc.1 a w hfr2 hmem
  simp only[sem,hops]at h2
  rw[hz]
  exact h2
 ·refine⟨by simp,fun j oj _ hl=>(by rw[getD_replicate_false]at hl; cases hl),fun i _ _=>getD_replicate_false _ _,?_,hf.size,hf.df,fun i v hs _=>hf.val i v hs,fun i oi x v _ hl=>(by rw[getD_replicate_false]at hl; cases hl),fun hl=>(by rw[getD_replicate_false]at hl; cases hl),?_⟩
  ·have:(List.range ops.size).filter (fun i=>(Array.replicate ops.size false).getD i false)=[]:=by
    rw[List.filter_eq_nil_iff]
    intro i _
    rw[getD_replicate_false]
    decide
   rw[this]
   simp
  ·exact⟨Nat.le_of_eq hmm.size.symm,rfl,hmm.blk,hmm.own,hmm.nd,hmm.kept.drew,hmm.win⟩
end
end
end Go.Proofs.YtcmpkkapkdlfhaaGreat
