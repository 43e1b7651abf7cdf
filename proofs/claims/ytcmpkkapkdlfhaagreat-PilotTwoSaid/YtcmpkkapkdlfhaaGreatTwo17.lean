import Derived.Test.YtcmpkkapkdlfhaaGreatEngL
import Derived.Lib.SliceRun
import Derived.Test.YtcmpkkapkdlfhaaGreatProg
namespace Go.Proofs.YtcmpkkapkdlfhaaGreat
open Go.RowKit
theorem kept_or{S S' T:Nat->Prop}{a b c:World}(h:Kept S a b)(h':Kept S' b c)(hs:∀k,k<a.heap.size->S' k->T k)(hs':∀k,S k->T k):Kept T a c:=(h.mono (fun k _ h=>hs' k h)).trans h' hs
theorem panicOk_way:PanicOk NoWay:=fun _ _ _ _ _ h=>h
theorem grown_cells{B:Nat}{W W':World}{row:Option Nat}(hg:W.grownBy W' row)(hr:∀r,row=some r->B<=r∧∃o:Obj,W.heap[r]?=some o∧o.isCells=false){k:Nat}{o:Obj}(ho:W.heap[k]?=some o)(h1:k<B∨o.isCells=true):W'.heap[k]?=some o:=by
 refine(hg.block k (Array.getElem?_eq_some_iff.1 ho).1 (fun e=>?_)).trans ho
 obtain⟨h2,o',h3,h4⟩:=hr k e.symm
 rw[ho]at h3
 cases h3
 rcases h1 with h1|h1
 ·omega
 ·rw[h1]at h4
  cases h4
theorem memOk_grown{B:Nat}{w0 W W':World}{row:Option Nat}{S:Nat->Prop}{bk:List Bk}(hB:w0.heap.size<=B)(hm:MemOk w0 S bk [] W.heap.size W)(hg:W.grownBy W' row)(hr:∀r,row=some r->B<=r∧∃o:Obj,W.heap[r]?=some o∧o.isCells=false) :
  MemOk w0 S bk [] W'.heap.size W':=
 ⟨rfl,fun b hb=>grown_cells hg hr (hm.blk b hb) (.inr rfl),hm.own,hm.nd,⟨hg.os.trans hm.kept.os,hg.tape.trans hm.kept.tape,hg.output.trans hm.kept.output,Nat.le_trans hm.kept.size hg.size,fun k hlt hn=>by
  have h1:=hm.kept.block k hlt hn
  obtain⟨o,ho⟩:∃o,w0.heap[k]?=some o:=⟨_,Array.getElem?_eq_getElem hlt⟩
  rw[ho]at h1
  rw[ho]
  exact grown_cells hg hr h1 (.inl (by omega))⟩,fun _ hx=>by cases hx⟩
theorem ownR_grown{B:Nat}{W W':World}{row:Option Nat}{base:Nat}{e:TypeId}{z:Nat}{A:Option Addr}{n cp:Nat}{cs:List Value}(h:OwnR W base e z A n cp cs)(hg:W.grownBy W' row)(hr:∀r,row=some r->B<=r∧∃o:Obj,W.heap[r]?=some o∧o.isCells=false) :
  OwnR W' base e z A n cp cs:=by
 refine⟨h.1,h.2.imp_right ?_⟩
 rintro⟨g,cap,cur,hv,h1,h2,h3⟩
 exact⟨g,cap,cur,hv,h1,grown_cells hg hr h2 (.inr rfl),h3⟩
section
variable {W0:World}{S:Nat->Prop}{bks:Option Addr->Nat->Nat->List Bk}{eL:TypeId}{zL:Nat}{csL:List Nat->List Value}{base0:Nat}{tO:TypeId}{Ac:Option Addr}{n cpc:Nat}{opn:List Nat->List OneM}
end
theorem arr_own{W:World}{base0:Nat}{tO:TypeId}{A:Option Addr}{n cp:Nat}{l:List OneM}(h:OwnR W base0 tO 13 A n cp (onesV l)){j:Nat}{o:OneM}(ho:l[j]?=some o) :
  ∃g,A=some ⟨g,0,none⟩∧g<W.heap.size∧base0<=g∧∀(i:Nat)(v:Value),o.cells[i]?=some v->W.cell? ⟨g,0+j*13+i,none⟩=some v:=by
 obtain⟨g,hg,hb,hlt,_⟩:=h.cell (j:=j*13+0) (onesV_get ho (by omega))
 refine⟨g,hg,hlt,hb,fun i v hv=>?_⟩
 obtain⟨g',hg',_,_,hc⟩:=h.cell (j:=j*13+i) ((onesV_get ho (by have h5:=(List.getElem?_eq_some_iff.1 hv).1; exact h5)).trans hv)
 rw[hg]at hg'
 cases hg'
 rw[show 0+j*13+i=j*13+i by omega]
 exact hc
section
variable {P:Program}
theorem run_clearR(w:World)(t e ty:TypeId)(z:Nat)(zv:Value)(g k m cap:Nat)(tt:TypeId)(cs:List Value)(b:Nat)(ht:P.underlying t=some (.slice e))(hi:(P.info? e).map (fun i=>(i.zero,i.size,i.bytes))=some (some zv,z,b))
  (hz:zv.cells.size=z) (hz0:0<z) (hone:zv.cells.toList.all Value.oneCell'=true) (hB:Blk w g tt cs) (hm:1<=m) (hl:k*z+m*z<=cs.length) :
  ∃ds w',(Builtin.clear_ #[t] ty #[.slice (some ⟨g,k*z,none⟩) m cap]).run P w=.ok (.tuple #[]) w'∧Blk w' g tt (cs.take (k*z)++ds)∧(cs.take (k*z)++ds).length=cs.length∧Kept (fun x=>x=g) w w':=by
 obtain⟨inf,hi1,hi2⟩:=Option.map_eq_some_iff.1 hi
 simp only[Prod.mk.injEq]at hi2
 obtain⟨hzv,hs,_⟩:=hi2
 have hlen:(Builtin.zeroCells zv.cells m).toList.length=m*z:=by simp[Builtin.zeroCells,hz,Nat.mul_comm]
 have hst:=run_storeCells_at P g (k*z) tt (Builtin.zeroCells zv.cells m).toList 0 cs.toArray w hB (by simp only[Nat.add_zero]; rw[hlen]; simpa using hl) (fun u hu=>by
  simp only[Builtin.zeroCells,Array.toList_map,List.mem_map]at hu
  obtain⟨i,hi,rfl⟩:=hu
  have h1:i%zv.cells.size<zv.cells.size:=Nat.mod_lt _ (by omega)
  rw[getElem!_pos zv.cells _ h1]
  exact List.all_eq_true.1 hone _ (by simp))
 simp only[Nat.add_zero]at hst
 rw[hlen]at hst
 simp only[List.append_assoc]at hst
 refine⟨(Builtin.zeroCells zv.cells m).toList++cs.drop (k*z+m*z),w.setRow g (cs.take (k*z)++((Builtin.zeroCells zv.cells m).toList++cs.drop (k*z+m*z))).toArray,?_,setRow_blk hB _,?_,setRow_kept w g _⟩
 ·obtain⟨m',rfl⟩:∃m',m=m'+1:=⟨m-1,by omega⟩
  simp[Builtin.clear_,run_underlying ht,zeroValue,typeInfo,hi1,hzv,hst,Result.andThen]
 ·rw[List.length_append,List.length_append,hlen,List.length_take,List.length_drop]
  omega
end
section
variable {D:List Deferred}{P:Program}{n:Nat}{w0:World}{S:Nat->Prop}{body:Code}{Q:Exit->Act->World->Prop}
theorem holds_opSU{p:List Nat}{i:Nat}{l:List Nat}{k:List KI}{st:St}{x:Sem Unit}{w:World}{S':Nat->Prop}(X:World->Prop)
  (hd:dstAt (opsOf (getCode body p)) st.sl i=some none) (hx:semAt (opsOf (getCode body p)) st.sl i=some (asU x))
  (hr:∀wx,MemOk w0 S st.bk st.wn st.sz wx->∃w',x.run P wx=.ok () w'∧X w'∧MemOk w S' st.bk [] w'.heap.size w')
  (hh:∀W,X W->MemOk w S' st.bk [] W.heap.size W->Holds D P body n W (Turned st.bk) Q (.ops p l::k) ⟨st.sl,st.bk,[],W.heap.size⟩):Holds D P body n w0 S Q (.ops p (i::l)::k) st:=by
 intro a w1 hf hm
 simp only[sem]
 rw[wpOps_cons]
 unfold dstAt at hd
 unfold semAt at hx
 split at hd
 ·rename_i o ho
  simp only[ho,Option.some.injEq]at hx
  split at hd
  ·rename_i hg
   split at hd
   ·rename_i hk
    simp only[Option.some.injEq]at hd
    have hw:Region.wanted o (yielded (opsOf (getCode body p)) a.tmps)=true:=by simp[Region.wanted,hg]
    simp only[wpOp,ho,if_pos hw]
    refine .inl ?_
    obtain⟨w',h2,h3,h4⟩:=hr w1 hm
    have h5:(execOp a.eval o).run P w1=.ok .skip w':=by
     rw[hf.rho hk,hx]
     simp only[asU,Sem.run_bind,h2,Result.andThen_ok,Sem.run_pure]
    simp only[Oper.wp,h5,Oper.upon_skip]
    rw[hd]
    exact hh w' h3 h4 _ _ hf h4.again
   ·cases hd
  ·cases hd
 ·cases hd
theorem holds_callAnyU{p:List Nat}{i f0:Nat}{ls ls':Array Bool}{k:List KI}{st:St}{f:FuncId}{args:List Value}{dst:Option Nat}{ob:List Prop}{w:World}{S':Nat->Prop}{Y:Type}(v:Y->Value)(bk':Y->List Bk)(X:Y->World->Prop)(sl:Y->List (Nat×Value))
  (hr:Region.ready .any (opsOf (getCode body p)) ls=[i]) (hl:ls.setIfInBounds i true=ls') (h:callAt P (opsOf (getCode body p)) st.sl i=some (f,args,dst,ob)) (ho:All ob) (hp:∀y,putS n st.sl dst (v y)=some (sl y))
  (hc:∀wx,MemOk w0 S st.bk st.wn st.sz wx->Calls P f args.toArray wx (fun e w'=>∃y,e=.returned (v y)∧X y w'∧MemOk w S' (bk' y) [] w'.heap.size w'))
  (hh:∀y W,X y W->MemOk w S' (bk' y) [] W.heap.size W->Holds D P body n W (Turned (bk' y)) Q (.any p f0 ls'::k) ⟨sl y,bk' y,[],W.heap.size⟩) :
  Holds D P body n w0 S Q (.any p (f0+1) ls::k) st:=by
 subst hl
 intro a wx hf hm
 simp only[sem]
 refine⟨fun h=>by rw[hr]at h; (cases h),fun j hj=>?_⟩
 rw[hr,List.mem_singleton]at hj
 subst hj
 refine callAt_wpOp h ho hf ((hc wx hm).mono fun e w' he=>?_)
 obtain⟨y,h1,h2,h3⟩:=he
 exact⟨v y,h1,hh y w' h2 h3 _ _ (hf.put (hp y)) h3.again⟩
theorem edge_callU{p:List Nat}{f0 i:Nat}{k:List KI}{ls ls':Array Bool}{st:St}{f:FuncId}{args:List Value}{dst:Option Nat}{ob:List Prop}{w:World}{S':Nat->Prop}(v:Value)(ks:List Nat)(X:World->Prop){sl sl':List (Nat×Value)}
  (hl:ls.setIfInBounds i true=ls') (h:callAt P (opsOf (getCode body p)) st.sl i=some (f,args,dst,ob)) (ho:All ob) (hp:putS n st.sl dst v=some sl) (hk:keepS sl ks=sl')
  (hc:∀wx,MemOk w0 S st.bk st.wn st.sz wx->Calls P f args.toArray wx (fun e w'=>e=.returned v∧X w'∧MemOk w S' st.bk [] w'.heap.size w'))
  (hh:∀W,X W->MemOk w S' st.bk [] W.heap.size W->Holds D P body n W (Turned st.bk) Q (.any p f0 ls'::k) ⟨sl',st.bk,[],W.heap.size⟩):Edge D P body n w0 S Q p f0 k ls st i:=by
 subst hl hk
 intro a w1 hf hm
 refine callAt_wpOp h ho hf ((hc w1 hm).mono fun e w' he=>?_)
 obtain⟨h2,h3,h4⟩:=he
 refine⟨v,h2,?_⟩
 have h6:=hf.put hp
 have h7:=hh w' h3 h4 _ _ ⟨h6.size,h6.df,fun i v hi=>h6.val i v (getS_keepS ks i v hi)⟩ h4.again
 simpa only[sem]using h7
end
def letC(frm:Int)(o:OneM):List Value:=[.int .i64 frm,.int .i64 o.to,.int .i64 o.id,.bool false,.int .i64 o.q.kind,.int .i64 o.q.stripe,.int .i64 o.q.epoch,.int .i64 o.q.seq,.int .i64 o.q.mask,.int .i64 o.q.node,.int .i64 o.q.oe,.int .i64 o.q.os,.string o.q.block,.int .i64 0,.int .i64 0,.int .i64 0,.bool false,.int .i64 0,.int .i64 0,.int .i64 0,.string ⟨#[]⟩,.bool false,.int .i64 0,.int .i64 0,.int .i64 0,.string ⟨#[]⟩]
def lettersC(frm:Int)(l:List OneM):List Value:=(l.map (letC frm)).flatten
theorem meantL_mem{ok:OneM->Bool}{l:List OneM}{i:Nat}{o:OneM}(h:l[i]?=some o):i∈meantL ok l l.length↔ok o=true:=by
 have hlt:=(List.getElem?_eq_some_iff.1 h).1
 have e:l[i]=o:=by rw[List.getElem?_eq_getElem hlt]at h; exact Option.some.inj h
 simp[meantL,hlt,e]
theorem tyIn_one{w:World}{e e':TypeId}{x:Nat}(h:TyIn w e x)(h':TyIn w e' x):e=e':=by
 obtain⟨cur,fz,h⟩:=h
 obtain⟨cur',fz',h'⟩:=h'
 rw[h]at h'
 cases h'
 rfl
theorem blk_ty{w:World}{g:Nat}{t:TypeId}{cs:List Value}(h:Blk w g t cs):TyIn w t g:=⟨_,_,h⟩
def TysIn(es:List TypeId)(w:World)(y:Nat):Prop:=∃e,es.contains e=true∧TyIn w e y
theorem tysIn_not{es:List TypeId}{e:TypeId}{w:World}{y:Nat}(hn:es.contains e=false)(h:TyIn w e y):¬TysIn es w y:=fun⟨e',h1,h2⟩=>by
 rw[tyIn_one h2 h,hn]at h1
 cases h1
theorem own_tys{w:World}{base:Nat}{e:TypeId}{z:Nat}{A:Option Addr}{n cp:Nat}{cs:List Value}(h:OwnR w base e z A n cp cs):∀y,ownS A y->TysIn [e] w y:=fun y hy=>⟨e,by simp,h.ty y hy⟩
theorem turned_tys{w0 w:World}{S:Nat->Prop}{bk:List Bk}{wn:List Wn}{sz:Nat}(hm:MemOk w0 S bk wn sz w):∀y,Turned bk y->TysIn ((bk.filter (·.rw)).map (·.t)) w y:=by
 rintro y ⟨b,hb,hr,rfl⟩
 exact⟨b.t,by simpa using⟨b,⟨hb,hr⟩,rfl⟩,blk_ty (hm.blk b hb)⟩
theorem OwnR.keptT{w w':World}{base:Nat}{e:TypeId}{z:Nat}{A:Option Addr}{n cp:Nat}{cs:List Value}{T:Nat->Prop}{es:List TypeId}(h:OwnR w base e z A n cp cs)(hk:Kept T w w')(hT:∀y,T y->TysIn es w y)(hn:es.contains e=false):OwnR w' base e z A n cp cs:=
 h.kept hk (fun y hy ht=>tysIn_not hn (h.ty y hy) (hT y ht))
theorem off_tys{w0 w:World}{S T:Nat->Prop}{bk:List Bk}{wn:List Wn}{sz:Nat}{es:List TypeId}(hm:MemOk w0 S bk wn sz w)(hT:∀y,T y->TysIn es w y)(hn:bk.all (fun b=>!es.contains b.t)=true):∀b∈bk,¬T b.g:=fun b hb ht=>
 tysIn_not (by simpa using List.all_eq_true.1 hn b hb) (blk_ty (hm.blk b hb)) (hT _ ht)
structure OkC(c:CM):Prop where
 few:c.opn.length<=8
 last:0<=c.last
 asked:∀o∈c.opn,0<=o.asked∧o.asked<=1099511627776
 sent:∀o∈c.opn,0<=o.sent∧o.sent<=1099511627776
theorem within_bd(n:Int):0<=within14 n∧within14 n<=1099511627776:=by
 unfold within14 minZ maxZ
 split<;>split<;>omega
theorem within_id{n:Int}(h:0<=n∧n<=1099511627776):within14 n=n:=by
 unfold within14 minZ maxZ
 split<;>split<;>omega
section
variable {tC tO:TypeId}{w w':World}{base cb:Nat}{c:CM}{T:Nat->Prop}{es:List TypeId}
end
theorem askC_ok{c:CM}{now to:Int}{q:AskM}(h:OkC c)(hl:c.opn.length<8):OkC (askC c now to q):=by
 have hw:=within_bd now
 refine⟨by simp[askC]; omega,by have:=h.last; simp only[askC]; omega,fun o ho=>?_,fun o ho=>?_⟩
 ·simp only[askC,List.mem_append,List.mem_singleton]at ho
  rcases ho with ho|rfl
  ·exact h.asked o ho
  ·exact hw
 ·simp only[askC,List.mem_append,List.mem_singleton]at ho
  rcases ho with ho|rfl
  ·exact h.sent o ho
  ·exact hw
theorem erase_ok{c:CM}{x:Nat}(h:OkC c):OkC { c with opn:=c.opn.eraseIdx x }:=
 ⟨by have:=h.few; have:=List.length_eraseIdx_le c.opn x; simp only; omega,h.last,fun o ho=>h.asked o (List.mem_of_mem_eraseIdx ho),fun o ho=>h.sent o (List.mem_of_mem_eraseIdx ho)⟩
theorem hit_at{lf lid:Int}{Kp R:List OneM}{o:OneM}(h1:o.id=lid)(h2:o.to=lf)(hK:∀o'∈Kp,o'.id≠lid) :
  (∀x o',(Kp++o::R)[x]?=some o'->((o'.id==lid)&&(o'.to==lf))=true->meantL (fun o=>(o.id==lid)&&(o.to==lf)) (Kp++o::R) x=[]->x=Kp.length∧o'=o) ∧
   meantL (fun o=>(o.id==lid)&&(o.to==lf)) (Kp++o::R) (Kp++o::R).length≠[]:=by
 have hg:(Kp++o::R)[Kp.length]?=some o:=by simp
 have hok:((o.id==lid)&&(o.to==lf))=true:=by simp[h1,h2]
 constructor
 ·intro x o' hx hk hm
  have hlt:=(List.getElem?_eq_some_iff.1 hx).1
  rcases Nat.lt_trichotomy x Kp.length with h|h|h
  ·rw[List.getElem?_append_left h]at hx
   simp only[Bool.and_eq_true,beq_iff_eq]at hk
   exact absurd hk.1 (hK o' (List.mem_of_getElem? hx))
  ·subst h
   rw[hg]at hx
   exact⟨rfl,(Option.some.inj hx).symm⟩
  ·have h5:Kp.length∈meantL (fun o=>(o.id==lid)&&(o.to==lf)) (Kp++o::R) x:=by
    unfold meantL
    rw[List.mem_filter,List.mem_range]
    refine⟨h,?_⟩
    rw[hg]
    exact hok
   rw[hm]at h5
   cases h5
 ·intro hm
  have h5:=(meantL_mem (ok:=fun o=>(o.id==lid)&&(o.to==lf)) hg).2 hok
  rw[hm]at h5
  cases h5
theorem erase_at(Kp R:List OneM)(o:OneM):(Kp++o::R).eraseIdx Kp.length=Kp++R:=by
 rw[List.eraseIdx_append_of_length_le (Nat.le_refl _)]
 simp
theorem turned_new{w W:World}{bk:List Bk}{wn:List Wn}{sz:Nat}(h:MemOk w (fun _=>False) bk wn sz W){y:Nat}(hy:Turned bk y):w.heap.size<=y:=by
 obtain⟨b,hb,hr,rfl⟩:=hy
 exact(h.own b hb hr).elim (fun h=>h.elim) id
theorem lettersC_snoc(frm:Int)(l:List OneM)(o:OneM):lettersC frm l++letC frm o=lettersC frm (l++[o]):=by simp[lettersC]
theorem ask_M{frm:Int}{l:List OneM}{last now to_ t:Int}{q:AskM}(ht:within14 now=t):askC ⟨frm,last,l⟩ now to_ q=⟨frm,last+1,l++[⟨to_,last+1,q,t,t⟩]⟩:=by simp[askC,ht]
def strsV(L:List ByteArray):List Value:=L.map fun s=>sT s
theorem map_cell{α:Type}{f:α->Value}{w:World}{g i:Nat}{L:List α}{s:α}(hc:∀(j:Nat)(v:Value),(L.map f)[j]?=some v->w.cell? ⟨g,0+j,none⟩=some v)(hs:L[i]?=some s) :
  ∀(j:Nat)(v:Value),[f s][j]?=some v->w.cell? ⟨g,0+i*1+j,none⟩=some v:=by
 intro j v hj
 match j,hj with
 |0,hj=>
  simp only[List.getElem?_cons_zero,Option.some.injEq]at hj
  subst hj
  rw[Nat.mul_one,Nat.add_zero]
  exact hc i _ (by simp[hs])
 |j+1,hj=>simp at hj
theorem strs_cell{w:World}{g i:Nat}{L:List ByteArray}{s:ByteArray}(hc:∀(j:Nat)(v:Value),(strsV L)[j]?=some v->w.cell? ⟨g,0+j,none⟩=some v)(hs:L[i]?=some s) :
  ∀(j:Nat)(v:Value),[Value.string s][j]?=some v->w.cell? ⟨g,0+i*1+j,none⟩=some v:=map_cell (f:=fun s=>Value.string s) hc hs
theorem cell_kept{w w':World}{g o:Nat}{v:Value}(hk:Kept (fun _=>False) w w')(hg:g<w.heap.size)(h:w.cell? ⟨g,o,none⟩=some v):w'.cell? ⟨g,o,none⟩=some v:=by
 have:=hk.block g hg (fun h=>h)
 simp only[World.cell?,this]at *
 exact h
theorem set_sameG{α:Type}{l:List α}{k:Nat}{b:α}(h:l[k]?=some b):l.set k b=l:=by
 apply List.ext_getElem?
 intro i
 by_cases e:i=k
 ·subst e
  rw[List.getElem?_set_self (List.getElem?_eq_some_iff.1 h).1,h]
 ·rw[List.getElem?_set_ne (Ne.symm e)]
section
variable {α:Type}{f:α->List Value}{z:Nat}
def flatV(f:α->List Value)(l:List α):List Value:=(l.map f).flatten
theorem flatV_len(hf:∀x,(f x).length=z)(l:List α):(flatV f l).length=l.length*z:=by
 induction l with
 |nil=>simp[flatV]
 |cons x l ih=>
  show(f x++flatV f l).length=_
  rw[List.length_append,ih,hf,List.length_cons,Nat.succ_mul,Nat.add_comm]
theorem flatV_get(hf:∀x,(f x).length=z){l:List α}{i j:Nat}{x:α}(h:l[i]?=some x)(hj:j<z):(flatV f l)[i*z+j]?=(f x)[j]?:=by
 induction l generalizing i with
 |nil=>simp at h
 |cons y l ih=>
  show(f y++flatV f l)[i*z+j]?=_
  cases i with
  |zero=>
   simp only[List.getElem?_cons_zero,Option.some.injEq]at h
   subst h
   rw[Nat.zero_mul,Nat.zero_add,List.getElem?_append_left (by rw[hf]; exact hj)]
  |succ i=>
   rw[List.getElem?_append_right (by rw[hf,Nat.succ_mul]; omega),hf,show(i+1)*z+j-z=i*z+j by rw[Nat.succ_mul]; omega]
   exact ih (by simpa using h)
theorem flatV_snoc(l:List α)(x:α):flatV f l++f x=flatV f (l++[x]):=by simp[flatV]
theorem flatV_put(hf:∀x,(f x).length=z){l:List α}{i:Nat}{y:α}(h:i<l.length):(flatV f l).take (i*z)++f y++(flatV f l).drop (i*z+z)=flatV f (l.set i y):=by
 induction l generalizing i with
 |nil=>simp at h
 |cons x l ih=>
  show(f x++flatV f l).take (i*z)++f y++(f x++flatV f l).drop (i*z+z)=_
  cases i with
  |zero=>
   rw[Nat.zero_mul,Nat.zero_add,List.take_zero,List.nil_append,List.drop_left' (hf x)]
   rfl
  |succ i=>
   have h1:(i+1)*z=z+i*z:=by rw[Nat.succ_mul,Nat.add_comm]
   have e1:(f x++flatV f l).take (z+i*z)=f x++(flatV f l).take (i*z):=by rw[<-hf x,List.take_length_add_append]
   have e2:(f x++flatV f l).drop (z+(i*z+z))=(flatV f l).drop (i*z+z):=by rw[<-hf x,List.drop_length_add_append]
   rw[h1,Nat.add_assoc,e1,e2,List.append_assoc,List.append_assoc]
   show f x++_=f x++flatV f (l.set i y)
   rw[<-ih (by simpa using h),List.append_assoc]
theorem take_drop_set{l:List Value}{k:Nat}{v:Value}(h:k<l.length):l.take k++[v]++l.drop (k+1)=l.set k v:=by
 rw[List.set_eq_take_append_cons_drop,if_pos h]
 simp
theorem flatV_set(hf:∀x,(f x).length=z){l:List α}{i j:Nat}{x y:α}{v:Value}(h:l[i]?=some x)(hj:j<z)(hv:(f x).set j v=f y):(flatV f l).take (i*z+j)++[v]++(flatV f l).drop (i*z+j+1)=flatV f (l.set i y):=by
 have hi:=(List.getElem?_eq_some_iff.1 h).1
 have hb:i*z+j<(flatV f l).length:=by
  rw[flatV_len hf]
  have:(i+1)*z<=l.length*z:=Nat.mul_le_mul_right z hi
  rw[Nat.succ_mul]at this
  omega
 rw[take_drop_set hb,<-flatV_put hf hi]
 have e1:(flatV f l)=(flatV f l).take (i*z)++f x++(flatV f l).drop (i*z+z):=by
  have:=flatV_put hf (y:=x) hi
  rw[this,set_sameG h]
 have hl:((flatV f l).take (i*z)).length=i*z:=by rw[List.length_take]; omega
 conv=>lhs; rw[e1]
 rw[List.set_append_left _ _ (by rw[List.length_append,hl,hf]; omega),List.set_append_right _ _ (by rw[hl]; omega),hl,Nat.add_sub_cancel_left,hv]
end
theorem own_storeG{P:Program}{w:World}{base g:Nat}{t e:TypeId}{z n cp:Nat}{cs:List Value}{v:Value}(o m:Nat)(h:OwnR w base e z (some ⟨g,0,none⟩) n cp cs)(hm:v.cells.size=m)(ho:o+m<=n*z)(hs:(P.info? t).map (·.size)=some m)(h1:∀u∈v.cells.toList,u.oneCell'=true) :
  ∃w',(Instr.storeAt t (.pointer (some ⟨g,o,none⟩)) v).run P w=.ok () w'∧OwnR w' base e z (some ⟨g,0,none⟩) n cp (cs.take o++v.cells.toList++cs.drop (o+m))∧Kept (ownS (some ⟨g,0,none⟩)) w w'∧w'.heap.size=w.heap.size:=by
 have hl:=h.len
 rcases h.blk with⟨h0,_⟩|⟨g',r,h0,hb,hB,hn,hc,hz⟩
 ·cases h0
 ·cases h0
  have hst:=run_storeG (P:=P) w t g o e (cs++r) v (by rw[hm]; exact hs) hB (by rw[hm,List.length_append]; omega) h1
  have e1:(cs++r).take o++v.cells.toList++(cs++r).drop (o+v.cells.size)=(cs.take o++v.cells.toList++cs.drop (o+m))++r:=by
   rw[hm,List.take_append_of_le_length (by omega),List.drop_append_of_le_length (by omega),List.append_assoc _ _ r]
  rw[e1]at hst
  have e2:(cs.take o++v.cells.toList++cs.drop (o+m)).length=n*z:=by
   have h5:v.cells.toList.length=m:=hm
   simp only[List.length_append,List.length_take,List.length_drop]
   omega
  exact⟨_,hst,ownR_of hb (setRow_blk hB _) hn hc e2 (by have h6:=@List.length_append _ (List.take o cs++v.cells.toList++List.drop (o+m) cs) r; have h7:=@List.length_append _ cs r; omega),(setRow_kept w g _).mono (fun x _ h=>⟨_,rfl,h⟩),by simp[World.setRow]⟩
theorem own_elem{α:Type}{f:α->List Value}{w:World}{base g:Nat}{e:TypeId}{z n cp:Nat}{l:List α}(hf:∀x,(f x).length=z)(h:OwnR w base e z (some ⟨g,0,none⟩) n cp (flatV f l)){i:Nat}{x:α}(hx:l[i]?=some x):∀(j:Nat)(v:Value),(f x)[j]?=some v->w.cell? ⟨g,0+i*z+j,none⟩=some v:=by
 intro j v hj
 have hjz:j<z:=by rw[<-hf x]; exact(List.getElem?_eq_some_iff.1 hj).1
 have h2:=flatV_get hf hx hjz
 obtain⟨g',h3,_,_,h4⟩:=h.cell (h2.trans hj)
 cases h3
 rw[Nat.zero_add]
 exact h4
structure LeaM where
 (ep hd un ou:Int)
def LeaM.cells(l:LeaM):List Value:=[.int .i64 l.ep,.int .i64 l.hd,.int .i64 l.un,.int .i64 l.ou]
theorem lea_len(l:LeaM):l.cells.length=4:=rfl
def intC(n:Int):List Value:=[i6 n]
def xorI(a b:List Int):List Int:=List.zipWith xorZ a b
def xorP(j:Nat)(a b:List Int):List Int:=(xorI a b).take j++a.drop j
def xorsL(l:List Int)(L:List ByteArray):List Int:=L.foldl (fun l s=>xorI l (intsOf s)) l
def xorS(a b:ByteArray):ByteArray:=bytesI (xorI (intsOf a) (intsOf b))
theorem xorZ_bd{a b:Int}(ha:0<=a∧a<=255)(hb:0<=b∧b<=255):0<=xorZ a b∧xorZ a b<=255:=by
 have:=xorZ_under (a:=a) (b:=b) 8 (by omega) (by omega)
 omega
theorem xorI_len{a b:List Int}(h:a.length=b.length):(xorI a b).length=a.length:=by simp[xorI,h]
theorem byts_xorI{a b:List Int}(ha:Byts a)(hb:Byts b):Byts (xorI a b):=fun n hn=>by
 obtain⟨x,y,h,rfl⟩:∃x y,(x,y)∈a.zip b∧xorZ x y=n:=by
  rw[xorI,<-List.map_uncurry_zip_eq_zipWith,List.mem_map]at hn
  obtain⟨⟨x,y⟩,h1,h2⟩:=hn
  exact⟨x,y,h1,h2⟩
 exact xorZ_bd (ha x (List.of_mem_zip h).1) (hb y (List.of_mem_zip h).2)
theorem xorP_zero(a b:List Int):xorP 0 a b=a:=by simp[xorP]
theorem xorP_all{a b:List Int}{n:Nat}(ha:a.length=n)(hb:b.length=n):xorP n a b=xorI a b:=by
 have:=xorI_len (ha.trans hb.symm)
 rw[xorP,List.take_of_length_le (by omega),List.drop_of_length_le (by omega),List.append_nil]
theorem xorP_len{a b:List Int}{n j:Nat}(ha:a.length=n)(hb:b.length=n)(hj:j<=n):(xorP j a b).length=n:=by
 have:=xorI_len (ha.trans hb.symm)
 simp only[xorP,List.length_append,List.length_take,List.length_drop]
 omega
theorem xorP_get{a b:List Int}{n j:Nat}(ha:a.length=n)(hb:b.length=n)(hj:j<n):(xorP j a b)[j]?=some (a[j]?.getD 0):=by
 have:=xorI_len (ha.trans hb.symm)
 have h1:((xorI a b).take j).length=j:=by rw[List.length_take]; omega
 rw[xorP,List.getElem?_append_right (by omega),h1,Nat.sub_self,List.getElem?_drop,Nat.add_zero,List.getElem?_eq_getElem (by omega),Option.getD_some]
theorem xorP_set{a b:List Int}{n j:Nat}(ha:a.length=n)(hb:b.length=n)(hj:j<n):(xorP j a b).set j (xorZ (a[j]?.getD 0) (b[j]?.getD 0))=xorP (j+1) a b:=by
 have h0:=xorI_len (ha.trans hb.symm)
 have h1:((xorI a b).take j).length=j:=by rw[List.length_take]; omega
 have h2:(xorI a b)[j]?=some (xorZ (a[j]?.getD 0) (b[j]?.getD 0)):=by
  rw[xorI,List.getElem?_zipWith,List.getElem?_eq_getElem (show j<a.length by omega),List.getElem?_eq_getElem (show j<b.length by omega)]
  rfl
 unfold xorP
 rw[List.set_append_right _ _ (by omega),h1,Nat.sub_self,List.take_add_one,h2,List.drop_eq_getElem_cons (show j<a.length by omega),List.set_cons_zero]
 simp
theorem xorsL_snoc(l:List Int)(L:List ByteArray){i:Nat}{s:ByteArray}(h:L[i]?=some s):xorsL l (L.take (i+1))=xorI (xorsL l (L.take i)) (intsOf s):=by
 unfold xorsL
 rw[List.take_add_one,h,List.foldl_append]
 rfl
theorem getD_byts'{l:List Int}(h:Byts l)(i:Nat):0<=l[i]?.getD 0∧l[i]?.getD 0<=255:=by
 cases e:l[i]? with
 |none=>simp
 |some v=>exact h v (List.mem_of_getElem? e)
end Go.Proofs.YtcmpkkapkdlfhaaGreat
namespace Go.Proofs.YtcmpkkapkdlfhaaGreat
open Go.RowKit
set_option maxHeartbeats 4000000
set_option maxRecDepth 100000
theorem bit_s0(v u t:Nat):v+2*u*t=v+u*(2*t+0):=by rw[Nat.add_zero,Nat.mul_comm 2 u,Nat.mul_assoc]
theorem bit_s1(v u t:Nat):v+u+2*u*t=v+u*(2*t+1):=by
 rw[Nat.mul_add,Nat.mul_one,Nat.mul_comm 2 u,Nat.mul_assoc]
 omega
theorem bit_xhalf(x y:Nat):x^^^y=2*(x/2^^^y/2)+(if x%2=y%2 then 0 else 1):=by
 have h1:(x^^^y)/2=x/2^^^y/2:=Nat.xor_div_two
 have h2:(x^^^y)%2=1↔¬(x%2=1↔y%2=1):=Nat.xor_mod_two_eq_one
 rw[<-h1]
 split
 ·have h3:¬(x^^^y)%2=1:=fun h=>(h2.1 h) (by omega)
  omega
 ·have h3:(x^^^y)%2=1:=h2.2 (by omega)
  omega
theorem bit_hlt{i x:Nat}(hi:i<8)(h:x<2^(8-i)):x/2<2^(8-(i+1)):=by
 have e:8-i=(8-(i+1))+1:=by omega
 rw[e,Nat.pow_succ]at h
 omega
theorem bit_bd{i x y u v a b:Nat}(h1:i<8)(hu:u=2^i)(hx:x<2^(8-i))(hy:y<2^(8-i))(hv:v+u*(x^^^y)=a^^^b)(hxy:a^^^b<2^8):0<u∧u<=128∧x<256∧y<256∧v<256:=by
 have e1:2^i<=2^7:=Nat.pow_le_pow_right (by decide) (by omega)
 have e2:2^(8-i)<=2^8:=Nat.pow_le_pow_right (by decide) (by omega)
 have e3:0<2^i:=Nat.pow_pos (by decide)
 omega
def BitI(a b:Nat)(w:World)(m:Nat)(st:St):Prop:=∃(i x y u v z:Nat),m+i=8∧w.heap.size<=z∧v+u*(x^^^y)=a^^^b∧u=2^i∧x<2^(8-i)∧y<2^(8-i)∧st=⟨[(4,u6 0),(5,i6 (v:Int)),(6,i6 (u:Int)),(7,i6 (x:Int)),(8,i6 (y:Int)),(9,i6 (i:Int))],[],[],z⟩
theorem ref1bit(a b:Nat)(ha:a<2^8)(hb:b<2^8)(w:World) :
  Calls Tryz.prog 103 #[.int .u8 (a:Int),.int .u8 (b:Int)] w (RetK (.int .u8 ((a^^^b:Nat):Int)) w):=by
 refine cH (S:=(fun _=>False)) (n:=34) Tryz.func103 (MemOk.none w _) ?_
 refine hgE 33 (dz 10 537001984) [4,5,6,7,8,9] [n64 ((a:Int)),n64 ((b:Int))] [] [.code [1,1,1,1,1,0,1,0],.blk 0,.code [1,1,1,1,1,1]] ⟨[(4,u6 0),(5,i6 0),(6,i6 1),(7,i6 (a:Int)),(8,i6 (b:Int)),(9,i6 0)],[],[],w.heap.size⟩ ?_
 refine holds_loop (BitI a b w) 8 (by kernel_rfl) ⟨0,a,b,1,0,_,rfl,Nat.le_refl _,by omega,rfl,ha,hb,rfl⟩ ?_
 rintro m _ ⟨i,x,y,u,v,z,hmi,hz,hv,hu,hx,hy,rfl⟩ J hJ
 have hxy:=Nat.xor_lt_two_pow ha hb
 by_cases h1:i<8
 rotate_left
 ·skip
  have hi8:i=8:=by omega
  rw[hi8]at hx hy
  have hx0:x=0:=by simp at hx; omega
  have hy0:y=0:=by simp at hy; omega
  subst hx0 hy0
  have hve:v=a^^^b:=by simpa using hv
  have hvl:v<256:=by omega
  refine hgS 17 (dz 6 131072) [4] [dF (((i:Int):Int)<8),n8 ((v:Int))] [] [.code [1,1,1,1,1,1,1]] [] [] z ?_
  refine hrt [] [u6 (v:Int)] [] ?_
  intro wx hm
  exact⟨by rw[hve]; rfl,hm.kept⟩
 obtain⟨h2i,hul,hxl,hyl,hvl⟩:=bit_bd h1 hu hx hy hv hxy
 by_cases h2:x%2=y%2
 ·skip
  refine hgE 47 (dz 21 0x20020020020002020100) [4,5,6,7,8,9] [dT (((i:Int):Int)<8),oE ((0:Int)<=(x:Int)∧(0:Int)<2),oE ((0:Int)<=(y:Int)∧(0:Int)<2),oE ((((x:Int)%2)!=((y:Int)%2))=false) (bne_eq_false_iff_eq.2 (by omega)),oE ((0:Int)<=(x:Int)∧(0:Int)<2∧(x:Int)<=IntKind.max .i64) (⟨by omega,by omega,le_max64 (by omega)⟩),oE ((0:Int)<=(y:Int)∧(0:Int)<2∧(y:Int)<=IntKind.max .i64) (⟨by omega,by omega,le_max64 (by omega)⟩),n64 ((2*(u:Int))),n64 (((i:Int)+1))] [] [.inv J,.blk 0,.code [1,1,1,1,1,1]] ⟨[(4,u6 0),(5,i6 (v:Int)),(6,i6 (2*(u:Int))),(7,i6 ((x:Int)/2)),(8,i6 ((y:Int)/2)),(9,i6 ((i:Int)+1))],[],[],z⟩ ?_
  exact hJ (m-1) _ (by omega) ⟨i+1,x/2,y/2,2*u,v,z,by omega,hz,by have h3:=bit_xhalf x y; rw[if_pos h2]at h3; rw[<-hv,h3]; exact bit_s0 _ _ _,by rw[hu,Nat.pow_succ,Nat.mul_comm],bit_hlt h1 hx,bit_hlt h1 hy,rfl⟩
 ·skip
  refine hgE 52 (dz 25 0x200200200200200102020100) [4,5,6,7,8,9] [dT (((i:Int):Int)<8),oE ((0:Int)<=(x:Int)∧(0:Int)<2),oE ((0:Int)<=(y:Int)∧(0:Int)<2),oE ((((x:Int)%2)!=((y:Int)%2))=true) (bne_iff_ne.2 (by omega)),n64 (((v:Int)+(u:Int))),oE ((0:Int)<=(x:Int)∧(0:Int)<2∧(x:Int)<=IntKind.max .i64) (⟨by omega,by omega,le_max64 (by omega)⟩),oE ((0:Int)<=(y:Int)∧(0:Int)<2∧(y:Int)<=IntKind.max .i64) (⟨by omega,by omega,le_max64 (by omega)⟩),n64 ((2*(u:Int))),n64 (((i:Int)+1))] [] [.inv J,.blk 0,.code [1,1,1,1,1,1]] ⟨[(4,u6 0),(5,i6 ((v:Int)+(u:Int))),(6,i6 (2*(u:Int))),(7,i6 ((x:Int)/2)),(8,i6 ((y:Int)/2)),(9,i6 ((i:Int)+1))],[],[],z⟩ ?_
  exact hJ (m-1) _ (by omega) ⟨i+1,x/2,y/2,2*u,v+u,z,by omega,hz,by have h3:=bit_xhalf x y; rw[if_neg h2]at h3; rw[<-hv,h3]; exact bit_s1 _ _ _,by rw[hu,Nat.pow_succ,Nat.mul_comm],bit_hlt h1 hx,bit_hlt h1 hy,rfl⟩
theorem ref1bitZ(a b:Int)(ha:0<=a∧a<=255)(hb:0<=b∧b<=255)(w:World):Calls Tryz.prog 103 #[.int .u8 (a),.int .u8 (b)] w (RetK (.int .u8 (xorZ (a) (b))) w):=by
 obtain⟨n,rfl⟩:=Int.eq_ofNat_of_zero_le ha.1
 obtain⟨m,rfl⟩:=Int.eq_ofNat_of_zero_le hb.1
 have h:=ref1bit n m (by omega) (by omega) w
 rw[show xorZ (n:Int) (m:Int)=((n^^^m:Nat):Int)by unfold xorZ; rw[Int.toNat_natCast,Int.toNat_natCast]]
 exact h
def TwoJ(a:ByteArray)(b:ByteArray)(c:Nat)(w:World)  (m:Nat) (st:St) (W0:World):Prop:=
 ∃(j:Nat)(z:Nat),m+j=16∧FB W0 w.heap.size 5 (xorP j (intsOf a) (intsOf b))∧st=⟨[(0,sT a),(1,sT b),(4,sT ⟨#[]⟩),(5,i6 0),(6,.slice (some ⟨w.heap.size,0,none⟩) 16 c),(7,i6 (j:Int))],[],[],z⟩
theorem r1t_q9(a:ByteArray)(b:ByteArray)(j:Nat)(c:Nat)(w:World)(W3:World):Out.prune [0,1,4,5,6,7,29,30] (qList Tryz.prog 33 W3 (Turned []) ((opsOf (getCode (bodyOf Tryz.f74) [1,1,1,0,1,0,0,1,0,0])).toList.take 10) ⟨[(0,sT a),(1,sT b),(4,sT ⟨#[]⟩),(5,i6 0),(6,.slice (some ⟨w.heap.size,0,none⟩) 16 c),(7,i6 (j:Int))],[],[],W3.heap.size⟩ [.op oh0,.op oh0,.op oh0,.op oh0,.op oh2,.op oh0,.op oh0,.op oh2,.call (u6 (xorZ (byteAt a (Int.toNat (j:Int))) (byteAt b (Int.toNat (j:Int))))),.op oh2])=some ⟨[(0:Int)<=(j:Int)∧(j:Int)<((a).size:Int),(0:Int)<=(j:Int)∧(j:Int)<((b).size:Int),∀w',MemC W3 (Turned []) [] [] W3.heap.size w'->Calls Tryz.prog 103 #[u6 (byteAt a (Int.toNat (j:Int))),u6 (byteAt b (Int.toNat (j:Int)))] w' (RetK (u6 (xorZ (byteAt a (Int.toNat (j:Int))) (byteAt b (Int.toNat (j:Int))))) w'),(0:Int)<=(j:Int)∧(j:Int)<((16:Nat):Int)],dupR [],⟨[(0,sT a),(1,sT b),(4,sT ⟨#[]⟩),(5,i6 0),(6,.slice (some ⟨w.heap.size,0,none⟩) 16 c),(7,i6 (j:Int)),(29,u6 (xorZ (byteAt a (Int.toNat (j:Int))) (byteAt b (Int.toNat (j:Int))))),(30,.pointer (some ⟨w.heap.size,0+j*1,none⟩))],[],[],W3.heap.size⟩⟩:=by kernel_rfl
theorem ref1two(a b:ByteArray)(ha:a.size=16)(hb:b.size=16)(w:World) :
  Calls Tryz.prog 74 #[sT a,sT b] w (RetK (.tuple #[sT (bytesI (xorI (intsOf a) (intsOf b))),i6 0]) w):=by
 refine cH (S:=(fun _=>False)) (n:=33) Tryz.func74 (MemOk.none w _) ?_
 have ea:(intsOf a).length=16:=by rw[length_intsOf,ha]
 have eb:(intsOf b).length=16:=by rw[length_intsOf,hb]
 refine hgE 22 (dz 9 0) [0,1,4,5,13] [oE (((a.size:Int)!=(b.size:Int))=false) (bne_eq_false_iff_eq.2 (by omega))] [] [.ops [1,1,0] [1,2],.code [1,1,1]] ⟨[(0,sT a),(1,sT b),(4,sT ⟨#[]⟩),(5,i6 0),(13,sT a)],[],[],w.heap.size⟩ ?_
 refine holds_opW (w:=w) (S':=fun _=>False) (dst:=(some 14)) (x:=convert 9 34 (sT a)) (fun c=>.slice (some ⟨w.heap.size,0,none⟩) 16 c) (fun _ W=>FB W w.heap.size 5 (intsOf a)) (fun c=>[(14,.slice (some ⟨w.heap.size,0,none⟩) 16 c),(0,sT a),(1,sT b),(4,sT ⟨#[]⟩),(5,i6 0),(13,sT a)]) (by kernel_rfl) (by kernel_rfl) (fun _=>rfl) (fun wx hm=>?_) (fun c W1 hF1 hm1=>?_)
 ·obtain⟨c,w',h1,h2,h3⟩:=run_newBytes (P:=Tryz.prog) wx 9 34 5 a (by kernel_rfl) (by kernel_rfl) (by kernel_rfl)
  rw[hm.size,ha]at h1
  rw[hm.size]at h2
  exact⟨c,w',h1,h2,(hm.same h3).2⟩
 refine hgE 11 (dz 2 0) [0,1,4,5,6,7] [] [] [.code [1,1,1,0,1,0],.blk 0,.code [1,1,1,1]] ⟨[(0,sT a),(1,sT b),(4,sT ⟨#[]⟩),(5,i6 0),(6,.slice (some ⟨w.heap.size,0,none⟩) 16 c),(7,i6 0)],[],[],W1.heap.size⟩ ?_
 refine holds_loopW (w:=w) (S':=fun _=>False) (TwoJ a b c w) 16 (by kernel_rfl) (fun W0 hm=>⟨⟨0,_,rfl,by rw[xorP_zero]; exact hF1.kept hm.kept (fun⟨_,h,_⟩=>by cases h),rfl⟩,MemOk.bck hm1 hm⟩) ?_
 rintro m2 _ W3 ⟨j,z,hmj,hF3,rfl⟩ hm3 J hJ2
 by_cases h2:j<16
 rotate_left
 ·skip
  refine hgE 16 (dz 6 0) [4,5,31] [dF (((j:Int):Int)<16)] [] [.ops [1,1,1,1,0] [1,2,3],.code [1,1,1,1,1]] ⟨[(4,sT ⟨#[]⟩),(5,i6 0),(31,.slice (some ⟨w.heap.size,0,none⟩) 16 c)],[],[],W3.heap.size⟩ ?_
  have hj16:j=16:=by omega
  subst hj16
  rw[xorP_all ea eb]at hF3
  refine holds_opR (dst:=(some 32)) (x:=convert 34 9 (.slice (some ⟨w.heap.size,0,none⟩) 16 c)) (sT (bytesI (xorI (intsOf a) (intsOf b)))) (by kernel_rfl) (by kernel_rfl) rfl (fun wx hm=>?_) ?_
  ·exact run_bytesFB (P:=Tryz.prog) wx 34 9 5 _ _ _ 5 _ (by kernel_rfl) (by kernel_rfl) (by kernel_rfl) (hF3.kept hm.kept (fun⟨_,h,_⟩=>by cases h)) (by rw[xorI_len (ea.trans eb.symm),ea]) (byts_xorI (byts_intsOf a) (byts_intsOf b))
  refine hgS 6 (dz 2 0) [4,5] [] [] [.code [1,1,1,1,1]] [] [] W3.heap.size ?_
  refine hrt [] [sT (bytesI (xorI (intsOf a) (intsOf b))),i6 0] [] ?_
  intro wx hm
  exact⟨rfl,(MemOk.bck hm3 hm).kept⟩
 have hb1:=byteAt_bd a (Int.toNat (j:Int))
 have hb2:=byteAt_bd b (Int.toNat (j:Int))
 refine hgE 15 (dz 5 65536) [0,1,4,5,6,7] [dT (((j:Int):Int)<16)] [] [.code [1,1,1,0,1,0,0,1,0,0],.blk 1,.code [1,1,1,0,1,0,0,1,1],.inv J,.blk 0,.code [1,1,1,1]] ⟨[(0,sT a),(1,sT b),(4,sT ⟨#[]⟩),(5,i6 0),(6,.slice (some ⟨w.heap.size,0,none⟩) 16 c),(7,i6 (j:Int))],[],[],W3.heap.size⟩ ?_
 refine holds_draw (f:=1) (ls:=(bA 11 1023)) 10 _ _ (by kernel_rfl) (by kernel_rfl) (by kernel_rfl) (by kernel_rfl) (r1t_q9 a b j c w W3) ⟨⟨by omega,by omega⟩,⟨by omega,by omega⟩,(fun wx hm=>ref1bitZ _ _ hb1 hb2 wx),⟨by omega,by omega⟩,trivial⟩ fun z9 hz9=>?_
 replace hz9:W3.heap.size<=z9:=hz9
 refine holds_anyW (i:=10) (w:=w) (S':=fun _=>False) (ls':=(bA 11 2047)) (x:=Instr.storeAt 5 (.pointer (some ⟨w.heap.size,0+j*1,none⟩)) (.int .u8 (xorZ (byteAt a (Int.toNat (j:Int))) (byteAt b (Int.toNat (j:Int)))))) (fun W4=>FB W4 w.heap.size 5 (xorP (j+1) (intsOf a) (intsOf b))) (by kernel_rfl) (by kernel_rfl) (by kernel_rfl) (by kernel_rfl) (fun wx hm=>?_) (fun W4 hF4 hm4=>?_)
 ·obtain⟨w',r1,r2,r3,r4⟩:=run_store1 (P:=Tryz.prog) wx 5 w.heap.size (0+j*1) 5 (xorP j (intsOf a) (intsOf b)) (xorZ (byteAt a (Int.toNat (j:Int))) (byteAt b (Int.toNat (j:Int)))) (by kernel_rfl) (hF3.kept hm.kept (fun⟨_,h,_⟩=>by cases h)) (by rw[xorP_len ea eb (by omega)]; omega)
  rw[show(xorP j (intsOf a) (intsOf b)).set (0+j*1) (xorZ (byteAt a (Int.toNat (j:Int))) (byteAt b (Int.toNat (j:Int))))=xorP (j+1) (intsOf a) (intsOf b)from by rw[Nat.zero_add,Nat.mul_one,Int.toNat_natCast,byteAt_eq,byteAt_eq]; exact xorP_set ea eb h2]at r2
  exact⟨w',r1,r2,(MemOk.bck hm3 hm).offA (fun _ h=>h) r3 (fun y hy=>.inr (Nat.le_of_eq hy.symm)) (fun _ h=>by cases h)⟩
 refine holds_done (by kernel_rfl) ?_
 refine hgE 9 (dz 3 32) [0,1,4,5,6,7] [n64 (((j:Int)+1))] [] [.inv J,.blk 0,.code [1,1,1,1]] ⟨[(0,sT a),(1,sT b),(4,sT ⟨#[]⟩),(5,i6 0),(6,.slice (some ⟨w.heap.size,0,none⟩) 16 c),(7,i6 ((j:Int)+1))],[],[],W4.heap.size⟩ ?_
 rw[<-cast_succ j]
 intro a_ w9 hf hm
 exact hJ2 (m2-1) _ a_ w9 (by omega) ⟨j+1,_,by omega,hF4.kept hm.kept (fun⟨_,h,_⟩=>by cases h),rfl⟩ hf (MemOk.bck hm4 hm)
end Go.Proofs.YtcmpkkapkdlfhaaGreat
