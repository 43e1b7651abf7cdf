import Derived.Test.YtcmpkkapkdlfhaaGreatEngD
import Derived.StillTail
import Derived.Deep.Quiet
namespace Go.Proofs.YtcmpkkapkdlfhaaGreat
open Go.RowKit
section
variable {P:Program}{ops:Array Oper}{md:Region.Mode}{C:World->Prop}
def anyQL(P:Program)(md:Region.Mode)(ops:Array Oper)(C:World->Prop)(n:Nat)(L:Array Bool->Act->Prop):Nat->Array Bool->Act->Prop
 |0,listed,a=>L listed a
 |f+1,listed,a=>Region.ready md ops listed≠[]∧∀i∈Region.ready md ops listed,i<n∧qOp P ops C i (anyQL P md ops C n L f (listed.setIfInBounds i true)) a
theorem wpAny_of_anyQL{n g:Nat}{L:Array Bool->Act->Prop}{Q':Exit->Act->World->Prop}(hL:∀listed a w,C w->L listed a->wpAny P md ops Q' g listed a w) :
  ∀(f:Nat)(listed:Array Bool)(a:Act)(w:World),C w->anyQL P md ops C n L f listed a->wpAny P md ops Q' (f+g) listed a w
 |0,listed,a,w,hw,h=>by rw[Nat.zero_add]; exact hL _ _ _ hw h
 |f+1,listed,a,w,hw,h=>by
  rw[show f+1+g=(f+g)+1 by omega]
  exact⟨fun h0=>absurd h0 h.1,fun i hi=>wpOp_of_qOp hw (fun a' w' hw' h'=>wpAny_of_anyQL hL f _ a' w' hw' h') (h.2 i hi).2⟩
theorem head_waits{n:Nat}{listed:Array Bool}(hs:Region.sinkB md ops n=true)(hn:n<ops.size)(inv:HeadInv md ops n listed) :
  ∀(d i:Nat),n-i=d->i<n->listed.getD i true=false->n ∉ Region.ready md ops listed:=by
 intro d
 induction d using Nat.strongRecOn with
 |_ d ih=>
  intro i hd hi hun hr
  obtain⟨_,ot,hot,hall⟩:=mem_ready.1 hr
  have h1:=List.all_eq_true.1 hs i (List.mem_range.2 hi)
  obtain⟨j,hj,hj2⟩:=List.any_eq_true.1 h1
  simp only[Bool.and_eq_true,decide_eq_true_eq]at hj2
  obtain⟨oj,hoj,e,he,hb,hon⟩:=Region.waitsFor_spec hj2.2
  have hjle:j<=n:=by have:=List.mem_range.1 hj; omega
  by_cases hjt:j=n
  ·subst hjt
   have:oj=ot:=Option.some.inj (hoj.symm.trans hot)
   subst this
   have h2:=hall e he hb
   rw[hon,getD_both hun]at h2
   cases h2
  ·cases hl:listed.getD j false with
   |true=>
    have h2:=inv.closed j oj hoj hl e he hb
    rw[hon,getD_both hun]at h2
    cases h2
   |false=>
    have hjs:j<listed.size:=by rw[inv.size]; omega
    exact ih (n-j) (by omega) j rfl (by omega) (getD_in hjs hl) hr
def tailB(md:Region.Mode)(ops:Array Oper)(n:Nat):Bool:=
 (List.range ops.size).all fun t=>decide (t<=n)||(List.range t).any fun j=>decide (n<=j)&&Region.waitsFor md ops t j
theorem tail_waits2{n:Nat}{listed:Array Bool}(hs:Region.sinkB md ops n=true)(hc:tailB md ops n=true)(hn:n<ops.size)(inv:HeadInv md ops n listed){i:Nat}(hi:i<n)(hun:listed.getD i true=false) :
  ∀t,n<=t->t ∉ Region.ready md ops listed:=by
 intro t ht hr
 by_cases htn:t=n
 ·subst htn
  exact head_waits hs hn inv _ i rfl hi hun hr
 ·obtain⟨_,ot,hot,hall⟩:=mem_ready.1 hr
  have htlt:t<ops.size:=(Array.getElem?_eq_some_iff.1 hot).1
  have h1:=List.all_eq_true.1 hc t (List.mem_range.2 htlt)
  simp only[Bool.or_eq_true,decide_eq_true_eq]at h1
  rcases h1 with h1|h1
  ·omega
  ·obtain⟨j,hj,hj2⟩:=List.any_eq_true.1 h1
   simp only[Bool.and_eq_true,decide_eq_true_eq]at hj2
   obtain⟨o',ho',e,he,hb,hon⟩:=Region.waitsFor_spec hj2.2
   have:o'=ot:=Option.some.inj (ho'.symm.trans hot)
   subst this
   have h2:=hall e he hb
   have hjlt:j<ops.size:=by have:=List.mem_range.1 hj; omega
   rw[hon,getD_both (inv.tail j hj2.1 hjlt)]at h2
   cases h2
theorem anyQL_first{n i:Nat}{oi:Oper}{v:Value}{L:Array Bool->Act->Prop}(hi:ops[i]?=some oi)(hsel:∀(j:Nat)(o:Oper) cs b,ops[j]?=some o->o.op≠.select cs b)
  (hs:Region.sinkB md ops n=true) (hc:tailB md ops n=true) (hn:n<ops.size) (hin:i<n)
  (hdone:∀listed a,L listed a->∀j∈Region.ready md ops listed,n<=j) :
  ∀(f:Nat)(listed:Array Bool)(a:Act),HeadInv md ops n listed ->
   (∀j oj,ops[j]?=some oj->j≠i->listed.getD j true=false->(∀e∈oj.after,Region.binds md e=true->e.on≠i)->oi.apart ops oj=true) ->
   i∈Region.ready md ops listed->YieldsIn P ops C oi v a ->
   anyQL P md ops C n L f (listed.setIfInBounds i true) (a.put oi.dst v)->anyQL P md ops C n L (f+1) listed a:=by
 intro f
 induction f with
 |zero=>
  intro listed a inv _ hr hy H
  have hun:=(mem_ready.1 hr).1
  refine⟨fun h=>(by rw[h]at hr; cases hr),fun j hj=>?_⟩
  have hjn:j<n:=by
   rcases Nat.lt_or_ge j n with h|h
   ·exact h
   ·exact absurd hj (tail_waits2 hs hc hn inv hin hun j h)
  refine⟨hjn,?_⟩
  by_cases hji:j=i
  ·subst hji; exact hy.qOp hi H
  ·have:=hdone _ _ H j (ready_mono hj hji)
   omega
 |succ f ih=>
  intro listed a inv hfree hr hy H
  have hun:=(mem_ready.1 hr).1
  refine⟨fun h=>(by rw[h]at hr; cases hr),fun j hj=>?_⟩
  have hjn:j<n:=by
   rcases Nat.lt_or_ge j n with h|h
   ·exact h
   ·exact absurd hj (tail_waits2 hs hc hn inv hin hun j h)
  refine⟨hjn,?_⟩
  by_cases hji:j=i
  ·subst hji; exact hy.qOp hi H
  ·have h1:=(H.2 j (ready_mono hj hji)).2
   obtain⟨hjun,oj,hoj,hall⟩:=mem_ready.1 hj
   have hnot:∀e∈oj.after,Region.binds md e=true->e.on≠i:=fun e he hb heq=>by
    have h1:=hall e he hb
    rw[heq,getD_both hun]at h1
    cases h1
   have h2:=qOp_put hoj (hfree j oj hoj hji hjun hnot) (fun cs b=>hsel i oi cs b hi) (fun cs b=>hsel j oj cs b hoj) hy h1
   have hfree':∀k ok,ops[k]?=some ok->k≠i->(listed.setIfInBounds j true).getD k true=false ->
     (∀e∈ok.after,Region.binds md e=true->e.on≠i)->oi.apart ops ok=true:=fun k ok hk hki hun hno=>by
    refine hfree k ok hk hki ?_ hno
    by_cases hjk:j=k
    ·subst hjk; exact hjun
    ·rw[getD_set_ne true hjk]at hun; exact hun
   refine qOp_mono (fun a' h3=>ih (listed.setIfInBounds j true) a' (inv.set hj hjn) hfree' (ready_mono hr (Ne.symm hji)) h3.1 ?_) h2
   rw[Array.setIfInBounds_comm _ _ hji]
   exact h3.2
def headB(md:Region.Mode)(ops:Array Oper):Nat->Nat->Array Bool->Option (Array Bool)
 |0,_,listed=>some listed
 |f+1,k,listed=>match ((Region.ready md ops listed).contains k&&Region.free md ops listed k)with
  |true=>headB md ops f (k+1) (listed.setIfInBounds k true)
  |false=>none
theorem anyQL_lex{n:Nat}{Lq:Act->Prop}{ls:Array Bool}(hsel:Region.noSelect ops=true)(hs:Region.sinkB md ops n=true)(hc:tailB md ops n=true)(hn:n<ops.size)(hr:∀j∈Region.ready md ops ls,n<=j) :
  ∀(l:List Oper)(k:Nat)(listed:Array Bool)(a:Act),(∀j,j<l.length->l[j]?=ops[k+j]?)->k+l.length=n->HeadInv md ops n listed ->
  headB md ops l.length k listed=some ls->wpQuiet P ops C Lq l a ->
  anyQL P md ops C n (fun listed' a'=>listed'=ls∧Lq a') l.length listed a
 |[],k,listed,a,_,hk,_,hB,h=>by
  simp only[List.length_nil,headB,Option.some.injEq]at hB
  exact⟨hB,h⟩
 |o::l,k,listed,a,hl,hk,inv,hB,h=>by
  have h0:ops[k]?=some o:=by simpa using(hl 0 (by simp)).symm
  simp only[List.length_cons,headB]at hB
  split at hB
  ·rename_i hrf
   simp only[Bool.and_eq_true]at hrf
   have hkn:k<n:=by simp only[List.length_cons]at hk; omega
   have hr':k∈Region.ready md ops listed:=by simpa using hrf.1
   have hst:qOp P ops C k (wpQuiet P ops C Lq l) a:=by unfold qOp; simp only[h0]; exact h
   obtain⟨v,hy,hK⟩:=yieldsIn_of_qOp h0 hst
   exact anyQL_first h0 (Region.noSelect_spec hsel) hs hc hn hkn (fun listed' a' hL=>by rw[hL.1]; exact hr) l.length listed a inv (Region.free_spec h0 hrf.2) hr' hy
    (anyQL_lex hsel hs hc hn hr l (k+1) _ _ (fun j hj=>by have:=hl (j+1) (by simp; omega); simpa[Nat.add_assoc,Nat.add_comm 1 j]using this) (by simp only[List.length_cons]at hk; omega) (inv.set hr' hkn) hB hK)
  ·cases hB
def twoB(ops:Array Oper)(n:Nat):Option (Array Bool):=
 match (Region.noSelect ops&&Region.sinkB .any ops n&&tailB .any ops n&&decide (n<ops.size))with
 |true=>match headB .any ops n 0 (Array.replicate ops.size false)with
  |some ls=>match (Region.ready .any ops ls).all (fun j=>decide (n<=j))with
   |true=>some ls
   |false=>none
  |none=>none
 |false=>none
theorem wp_region_two{id n:Nat}{Q:Exit->Act->World->Prop}{a:Act}{w:World}{ls:Array Bool}(hm:P.follows .mixedOrders=true)(hB:twoB ops n=some ls)(hC:C { w with drawn:=w.drawn+1 })
  (h:wpQuiet P ops C (fun a'=>∀w',C w'->wpAny P .any ops Q (ops.size-n) ls a' w') (ops.toList.take n) a):(Code.region id ops true).wp P Q a w:=by
 unfold twoB at hB
 split at hB
 ·rename_i hb
  simp only[Bool.and_eq_true,decide_eq_true_eq]at hb
  obtain⟨⟨⟨hsel,hs⟩,hc⟩,hn⟩:=hb
  split at hB
  ·rename_i ls' hls
   split at hB
   ·rename_i hall
    simp only[Option.some.injEq]at hB
    subst hB
    have hr:∀j∈Region.ready .any ops ls',n<=j:=fun j hj=>by simpa using List.all_eq_true.1 hall j hj
    have htl:(ops.toList.take n).length=n:=by simp; omega
    have inv0:HeadInv .any ops n (Array.replicate ops.size false):=
     ⟨by simp,fun j oj _ hl=>(by rw[getD_replicate_false]at hl; cases hl),fun t _ ht=>getD_in (by simpa using ht) (getD_replicate_false _ _)⟩
    refine wp_region_any hm ?_
    have h1:=anyQL_lex (md:=.any) (n:=n) (ls:=ls') hsel hs hc hn hr (ops.toList.take n) 0 _ a (fun j hj=>by
     rw[htl]at hj
     rw[List.getElem?_take,if_pos hj]
     simp) (by rw[htl]; omega) inv0 (by rw[htl]; exact hls) h
    have h2:=wpAny_of_anyQL (g:=ops.size-n) (Q':=Q) (fun listed a w hw hL=>by rw[hL.1]; exact hL.2 w hw) _ _ a _ hC h1
    rw[htl,show n+(ops.size-n)=ops.size by omega]at h2
    exact h2
   ·cases hB
  ·cases hB
 ·cases hB
end
inductive QH where
 |op (h:OH)
 |call (v:Value)
def MemC(w0:World)(S:Nat->Prop)(bk:List Bk)(wn:List Wn)(sz:Nat)(w:World):Prop:=sz<=w.heap.size∧MemOk w0 S bk wn w.heap.size w
def qExec(P:Program)(n:Nat)(w0:World)(S:Nat->Prop)(o:Oper)(st:St):QH->Option Out
 |.op h=>match known st.sl o with
  |false=>none
  |true=>match h.ov with
   |0=>match runR P st.wn st.bk (execOp (rho st.sl) o) h.hs with
    |some ⟨.value v,_,_,es⟩=>match putS n st.sl o.dst v with
     |some sl=>some ⟨[],es,{ st with sl:=sl }⟩
     |none=>none
    |_=>none
   |k+1=>match ov P (rho st.sl) k o.op with
    |some (v,p)=>match putS n st.sl o.dst v with
     |some sl=>some ⟨[p],[],{ st with sl:=sl }⟩
     |none=>none
    |none=>none
 |.call v=>match known st.sl o with
  |false=>none
  |true=>match runP P (execOp (rho st.sl) o)with
   |some (.enter f args)=>match putS n st.sl o.dst v with
    |some sl=>some ⟨[∀w,MemC w0 S st.bk st.wn st.sz w->Calls P f args w (RetK v w)],[],{ st with sl:=sl }⟩
    |none=>none
   |_=>none
def qList(P:Program)(n:Nat)(w0:World)(S:Nat->Prop):List Oper->St->List QH->Option Out
 |[],st,_=>some ⟨[],[],st⟩
 |_::_,_,[]=>none
 |o::l,st,h::hs=>match o.guard with
  |some _=>none
  |none=>match qExec P n w0 S o st h with
   |none=>none
   |some r=>match qList P n w0 S l r.st hs with
    |none=>none
    |some r'=>some ⟨r.ob++r'.ob,r.eqs++r'.eqs,r'.st⟩
section
variable {D:List Deferred}{P:Program}{n:Nat}{w0:World}{S:Nat->Prop}{ops:Array Oper}
theorem qExec_st{o:Oper}{st:St}{h:QH}{r:Out}(he:qExec P n w0 S o st h=some r):r.st.bk=st.bk∧r.st.wn=st.wn∧r.st.sz=st.sz:=by
 unfold qExec at he
 split at he
 ·split at he
  ·cases he
  ·split at he
   ·split at he
    ·split at he
     ·simp only[Option.some.injEq]at he; subst he; exact⟨rfl,rfl,rfl⟩
     ·cases he
    ·cases he
   ·split at he
    ·split at he
     ·simp only[Option.some.injEq]at he; subst he; exact⟨rfl,rfl,rfl⟩
     ·cases he
    ·cases he
 ·split at he
  ·cases he
  ·split at he
   ·split at he
    ·simp only[Option.some.injEq]at he; subst he; exact⟨rfl,rfl,rfl⟩
    ·cases he
   ·cases he
theorem qExec_sound{o:Oper}{st:St}{h:QH}{r:Out}(he:qExec P n w0 S o st h=some r)(ho:All r.ob)(hg:Good r.eqs){a:Act}(hf:FrOk D n st.sl a){K:Act->Prop}
  (hK:∀a',FrOk D n r.st.sl a'->K a'):o.quiet P a (MemC w0 S st.bk st.wn st.sz) K:=by
 unfold qExec at he
 split at he
 ·rename_i h0
  split at he
  ·cases he
  ·rename_i hk
   have e:=hf.rho hk
   split at he
   ·split at he
    ·rename_i v bk sz es hr
     split at he
     ·rename_i sl hsl
      simp only[Option.some.injEq]at he
      subst he
      refine⟨v,fun w hw=>?_,hK _ (hf.put hsl)⟩
      have h1:=runR_sound P _ _ _ hr hg _ w hw.2
      simp only[Oper.quietAt,e,h1,Oper.quietUpon]
      exact⟨trivial,trivial⟩
     ·cases he
    ·cases he
   ·split at he
    ·rename_i v p hov
     split at he
     ·rename_i sl hsl
      simp only[Option.some.injEq]at he
      subst he
      refine⟨v,fun w hw=>?_,hK _ (hf.put hsl)⟩
      have h1:=ov_sound hov ho.1 w
      simp only[Oper.quietAt,e,h1,Oper.quietUpon]
      exact⟨trivial,trivial⟩
     ·cases he
    ·cases he
 ·rename_i v
  split at he
  ·cases he
  ·rename_i hk
   have e:=hf.rho hk
   split at he
   ·rename_i f args hr
    split at he
    ·rename_i sl hsl
     simp only[Option.some.injEq]at he
     subst he
     refine⟨v,fun w hw=>?_,hK _ (hf.put hsl)⟩
     have h1:=runP_sound P _ _ hr w
     simp only[Oper.quietAt,e,h1,Oper.quietUpon]
     exact⟨trivial,(ho.1 w hw).mono fun _ _ he=>⟨he.1,Nat.le_trans hw.1 he.2.size,(hw.2.same he.2).2⟩⟩
    ·cases he
   ·cases he
theorem qList_sound:∀(l:List Oper)(st:St)(hs:List QH)(r:Out),qList P n w0 S l st hs=some r->All r.ob->Good r.eqs->∀(a:Act),FrOk D n st.sl a->∀(K:Act->Prop),
  (∀a',FrOk D n r.st.sl a'->K a')->wpQuiet P ops (MemC w0 S st.bk st.wn st.sz) K l a∧r.st.bk=st.bk∧r.st.wn=st.wn∧r.st.sz=st.sz
 |[],st,hs,r,he,_,_,a,hf,K,hK=>by
  simp only[qList,Option.some.injEq]at he
  subst he
  exact⟨hK a hf,rfl,rfl,rfl⟩
 |o::l,st,[],r,he,_,_,_,_,_,_=>by cases he
 |o::l,st,h::hs,r,he,ho,hg,a,hf,K,hK=>by
  simp only[qList]at he
  split at he
  ·cases he
  ·rename_i hgd
   split at he
   ·cases he
   ·rename_i r1 h1
    split at he
    ·cases he
    ·rename_i r2 h2
     simp only[Option.some.injEq]at he
     subst he
     obtain⟨o1,o2⟩:=all_append ho
     obtain⟨e1,e2,e3⟩:=qExec_st h1
     have hw:Region.wanted o (yielded ops a.tmps)=true:=by simp[Region.wanted,hgd]
     have key:∀a',FrOk D n r1.st.sl a'->wpQuiet P ops (MemC w0 S st.bk st.wn st.sz) K l a'∧r2.st.bk=st.bk∧r2.st.wn=st.wn∧r2.st.sz=st.sz:=fun a' hf'=>by
      have h3:=qList_sound l r1.st hs r2 h2 o2 (fun e he=>hg e (List.mem_append_right _ he)) a' hf' K hK
      rw[e1,e2,e3]at h3
      exact h3
     have h4:=qExec_sound h1 o1 (fun e he=>hg e (List.mem_append_left _ he)) hf (K:=fun a'=>wpQuiet P ops (MemC w0 S st.bk st.wn st.sz) K l a'∧r2.st.bk=st.bk∧r2.st.wn=st.wn∧r2.st.sz=st.sz) key
     obtain⟨v,q1,q2⟩:=h4
     refine⟨?_,q2.2⟩
     simp only[wpQuiet,if_pos hw]
     exact⟨v,q1,q2.1⟩
variable {body:Code}{Q:Exit->Act->World->Prop}
def isDraw:Code->Bool
 |.region _ _ true=>true
 |_=>false
theorem draw_of{c:Code}(h:isDraw c=true):∃id,c=.region id (opsOf c) true:=by
 cases c<;>simp only[isDraw,Bool.false_eq_true]at h
 rename_i id ops d
 cases d
 ·cases h
 ·exact⟨id,rfl⟩
def Out.prune(ks:List Nat):Option Out->Option Out
 |some r=>some ⟨r.ob,r.eqs,Go.Proofs.YtcmpkkapkdlfhaaGreat.prune ks [] r.st⟩
 |none=>none
theorem out_prune{ks:List Nat}{x:Option Out}{o:Out}(h:Out.prune ks x=some o):∃r,x=some r∧r.ob=o.ob∧r.eqs=o.eqs∧Go.Proofs.YtcmpkkapkdlfhaaGreat.prune ks [] r.st=o.st:=by
 cases x with
 |none=>cases h
 |some r=>
  simp only[Out.prune,Option.some.injEq]at h
  subst h
  exact⟨r,rfl,rfl,rfl,rfl⟩
theorem holds_draw{p:List Nat}{k:List KI}{st st':St}{f:Nat}{ls:Array Bool}{ob:List Prop}{rs:List (Nat×Nat×Nat)}(m:Nat)(hs:List QH)(ks:List Nat)
  (hc:isDraw (getCode body p)=true) (hm:P.follows .mixedOrders=true) (hB:twoB (opsOf (getCode body p)) m=some ls) (hz:(opsOf (getCode body p)).size-m=f)
  (h:Out.prune ks (qList P n w0 S ((opsOf (getCode body p)).toList.take m) st hs)=some ⟨ob,dupR rs,st'⟩) (ho:All ob)
  (hh:∀sz,st.sz<=sz->Holds D P body n w0 S Q (.any p f ls::k) ⟨st'.sl,st.bk,st.wn,sz⟩):Holds D P body n w0 S Q (.code p::k) st:=by
 intro a w hf hmm
 obtain⟨id,hc⟩:=draw_of hc
 generalize opsOf (getCode body p)=ops at *
 subst hz
 obtain⟨r,hr,h1,h2,h3⟩:=out_prune h
 dsimp only at h1 h2 h3
 simp only[sem,hc]
 refine wp_region_two (C:=MemC w0 S st.bk st.wn st.sz) hm hB ⟨Nat.le_of_eq hmm.size.symm,?_⟩ ?_
 ·exact⟨rfl,hmm.blk,hmm.own,hmm.nd,hmm.kept.drew,hmm.win⟩
 ·refine(qList_sound _ st hs r hr (by rw[h1]; exact ho) (by rw[h2]; exact dupR_good rs) a hf _ fun a' hf' w' hw'=>?_).1
  have h4:=hh w'.heap.size hw'.1 a' w' ?_ hw'.2
  ·simpa only[sem,hc,opsOf]using h4
  ·rw[<-h3]
   exact⟨hf'.size,hf'.df,fun i v hi=>hf'.val i v (getS_keepS ks i v hi)⟩
theorem holds_quiet{p:List Nat}{k:List KI}{st st':St}{ob:List Prop}{rs:List (Nat×Nat×Nat)}(hs:List QH)(ks:List Nat)
  (hc:isDraw (getCode body p)=true) (hm:P.follows .mixedOrders=true) (hB:Region.lexB .any (opsOf (getCode body p))=true)
  (h:Out.prune ks (qList P n w0 S (opsOf (getCode body p)).toList st hs)=some ⟨ob,dupR rs,st'⟩) (ho:All ob)
  (hh:∀sz,st.sz<=sz->Holds D P body n w0 S Q k ⟨st'.sl,st.bk,st.wn,sz⟩):Holds D P body n w0 S Q (.code p::k) st:=by
 intro a w hf hmm
 obtain⟨id,hc⟩:=draw_of hc
 generalize opsOf (getCode body p)=ops at *
 obtain⟨r,hr,h1,h2,h3⟩:=out_prune h
 dsimp only at h1 h2 h3
 simp only[sem,hc]
 refine wp_region_quiet (C:=MemC w0 S st.bk st.wn st.sz) hm hB ⟨Nat.le_of_eq hmm.size.symm,?_⟩ ?_
 ·exact⟨rfl,hmm.blk,hmm.own,hmm.nd,hmm.kept.drew,hmm.win⟩
 ·refine(qList_sound _ st hs r hr (by rw[h1]; exact ho) (by rw[h2]; exact dupR_good rs) a hf _ fun a' hf' w' hw'=>?_).1
  refine hh w'.heap.size hw'.1 a' w' ?_ hw'.2
  rw[<-h3]
  exact⟨hf'.size,hf'.df,fun i v hi=>hf'.val i v (getS_keepS ks i v hi)⟩
def PanicOk(Q:Exit->Act->World->Prop):Prop:=∀c (a a':Act) w,a.defers=a'.defers->Q (.panic c) a w->Q (.panic c) a' w
theorem panicOk_body{fn:Func}{R:Ending->World->Prop}:PanicOk (bodyPost P fn R):=fun _ _ _ _ h hq=>⟨h▸hq.1,hq.2⟩
theorem panicOk_sem(h:PanicOk Q):∀(k:List KI),PanicOk (sem P body Q k)
 |[]=>h
 |x::k=>fun c a a' w hd hq=>by
  have ih:=panicOk_sem h k c a a' w hd
  cases x<;>exact ih hq
def takeS(P:Program)(n:Nat)(ops:Array Oper)(ls:Array Bool)(st:St)(i:Nat):Option (List (Nat×Value)):=
 match ops[i]? with
 |none=>none
 |some o=>match (Region.noSelect ops&&(Region.ready .any ops ls).contains i&&Region.free .any ops ls i&&o.guard.isNone&&known st.sl o)with
  |false=>none
  |true=>match runP P (execOp (rho st.sl) o)with
   |some (.value v)=>putS n st.sl o.dst v
   |_=>none
theorem put_defers(a:Act)(d:Option Nat)(v:Value):(a.put d v).defers=a.defers:=by cases d<;>rfl
theorem holds_take{p:List Nat}{k:List KI}{st:St}{f i:Nat}{ls:Array Bool}{sl:List (Nat×Value)}(hQ:PanicOk Q)
  (h:takeS P n (opsOf (getCode body p)) ls st i=some sl) (hh:Holds D P body n w0 S Q (.any p f (ls.setIfInBounds i true)::k) ⟨sl,st.bk,st.wn,st.sz⟩) :
  Holds D P body n w0 S Q (.any p (f+1) ls::k) st:=by
 intro a w hf hm
 unfold takeS at h
 split at h
 ·cases h
 ·rename_i o ho
  split at h
  ·cases h
  ·rename_i hb
   simp only[Bool.and_eq_true]at hb
   obtain⟨⟨⟨⟨b1,b2⟩,b3⟩,b4⟩,b5⟩:=hb
   split at h
   ·rename_i v hv
    have hrun:=runP_sound P _ _ hv
    have hg:o.guard=none:=by simpa using b4
    have hy:Yields P (opsOf (getCode body p)) o v a:=.inl ⟨by simp[Region.wanted,hg],fun w=>by rw[hf.rho b5]; exact hrun w⟩
    simp only[sem]
    refine wpAny_first ho (Region.noSelect_spec b1) (fun c a w hq=>panicOk_sem hQ k c _ _ w (put_defers a o.dst v) hq) f ls a w (Region.free_spec ho b3) (by simpa using b2) hy ?_
    exact hh _ w (hf.put h) hm
   ·cases h
def tailX(P:Program)(n:Nat)(ops:Array Oper):Nat->Array Bool->St->List (Nat×Bool×OH)->Option (Out×Nat×Array Bool)
 |f,ls,st,[]=>some (⟨[],[],st⟩,f,ls)
 |0,_,_,_::_=>none
 |f+1,ls,st,(i,true,_)::r=>match takeS P n ops ls st i with
  |some sl=>tailX P n ops f (ls.setIfInBounds i true) ⟨sl,st.bk,st.wn,st.sz⟩ r
  |none=>none
 |f+1,ls,st,(i,false,h)::r=>match Region.ready .any ops ls with
  |[j]=>match Nat.beq i j with
   |true=>match opStep P n ops st i h with
    |some o=>match tailX P n ops f (ls.setIfInBounds i true) o.st r with
     |some (o',f',ls')=>some (⟨o.ob++o'.ob,o.eqs++o'.eqs,o'.st⟩,f',ls')
     |none=>none
    |none=>none
   |false=>none
  |_=>none
theorem tailX_sound{p:List Nat}{k:List KI}(hQ:PanicOk Q):∀(r:List (Nat×Bool×OH))(f:Nat)(ls:Array Bool)(st:St)(o:Out)(f':Nat)(ls':Array Bool),tailX P n (opsOf (getCode body p)) f ls st r=some (o,f',ls')->All o.ob->Good o.eqs ->
  Holds D P body n w0 S Q (.any p f' ls'::k) o.st->Holds D P body n w0 S Q (.any p f ls::k) st
 |[],f,ls,st,o,f',ls',h,_,_,hh=>by
  cases f<;>(simp only[tailX,Option.some.injEq,Prod.mk.injEq]at h; obtain⟨rfl,rfl,rfl⟩:=h; exact hh)
 |(i,true,_)::r,0,ls,st,o,f',ls',h,_,_,hh=>by cases h
 |(i,true,_)::r,f+1,ls,st,o,f',ls',h,ho,hg,hh=>by
  simp only[tailX]at h
  split at h
  ·rename_i sl hsl
   exact holds_take hQ hsl (tailX_sound hQ r f _ _ o f' ls' h ho hg hh)
  ·cases h
 |(i,false,_)::r,0,ls,st,o,f',ls',h,_,_,hh=>by cases h
 |(i,false,h0)::r,f+1,ls,st,o,f',ls',h,ho,hg,hh=>by
  simp only[tailX]at h
  split at h
  ·rename_i j hr
   split at h
   ·rename_i hij
    have hij':i=j:=Nat.eq_of_beq_eq_true hij
    subst hij'
    split at h
    ·rename_i o1 h1
     split at h
     ·rename_i o2 f2 ls2 h2
      simp only[Option.some.injEq,Prod.mk.injEq]at h
      obtain⟨rfl,rfl,rfl⟩:=h
      obtain⟨q1,q2⟩:=all_append ho
      have h3:=tailX_sound (k:=k) hQ r f _ _ o2 f2 ls2 h2 q2 (fun e he=>hg e (List.mem_append_right _ he)) hh
      intro a w hf hm
      simp only[sem]
      refine⟨fun h=>by rw[hr]at h; (cases h),fun j hj=>?_⟩
      rw[hr,List.mem_singleton]at hj
      subst hj
      exact opStep_sound h1 q1 (fun e he=>hg e (List.mem_append_left _ he)) hf hm (fun a' w' hf' hm'=>h3 a' w' hf' hm')
     ·cases h
    ·cases h
   ·cases h
  ·cases h
def tailP(ks:List Nat):Option (Out×Nat×Array Bool)->Option (Out×Nat×Array Bool)
 |some (o,f,ls)=>some (⟨o.ob,o.eqs,prune ks [] o.st⟩,f,ls)
 |none=>none
theorem holds_tail{p:List Nat}{k:List KI}{st st':St}{f f':Nat}{ls ls':Array Bool}{ob:List Prop}{rs:List (Nat×Nat×Nat)}(hQ:PanicOk Q)(r:List (Nat×Bool×OH))(ks:List Nat)
  (h:tailP ks (tailX P n (opsOf (getCode body p)) f ls st r)=some (⟨ob,dupR rs,st'⟩,f',ls')) (ho:All ob)
  (hh:Holds D P body n w0 S Q (.any p f' ls'::k) st'):Holds D P body n w0 S Q (.any p f ls::k) st:=by
 cases hx:tailX P n (opsOf (getCode body p)) f ls st r with
 |none=>rw[hx]at h; cases h
 |some x=>
  obtain⟨o,f1,ls1⟩:=x
  rw[hx]at h
  simp only[tailP,Option.some.injEq,Prod.mk.injEq,Out.mk.injEq]at h
  obtain⟨⟨h1,h2,h3⟩,h4,h5⟩:=h
  subst h4 h5
  refine tailX_sound hQ r f ls st o f1 ls1 hx (by rw[h1]; exact ho) (by rw[h2]; exact dupR_good rs) ?_
  refine holds_prune ks [] ?_
  rw[h3]
  exact hh
theorem holds_done{p:List Nat}{k:List KI}{st:St}{f:Nat}{ls:Array Bool}(hr:Region.ready .any (opsOf (getCode body p)) ls=[])(hh:Holds D P body n w0 S Q k st):Holds D P body n w0 S Q (.any p f ls::k) st:=by
 intro a w hf hm
 simp only[sem]
 cases f with
 |zero=>exact⟨hr,hh a w hf hm⟩
 |succ f=>exact⟨fun _=>hh a w hf hm,fun j hj=>by rw[hr]at hj; (cases hj)⟩
end
end Go.Proofs.YtcmpkkapkdlfhaaGreat
