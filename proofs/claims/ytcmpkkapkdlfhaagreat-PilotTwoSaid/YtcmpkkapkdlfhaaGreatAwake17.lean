import Derived.Test.YtcmpkkapkdlfhaaGreatPhase14
namespace Go.Proofs.YtcmpkkapkdlfhaaGreat
open Go.RowKit
set_option maxHeartbeats 4000000
set_option maxRecDepth 100000
theorem one_cell{W:World}{g o:Nat}{x:Value}(h:W.cell? ⟨g,o,none⟩=some x):∀(j:Nat)(v:Value),[x][j]?=some v->W.cell? ⟨g,o+j,none⟩=some v:=fun j v hj=>by
 match j,hj with
 |0,hj=>cases hj; exact h
theorem aw_sim{k:OpC}{h0 pa sb g:Nat}{ls:List OneM}{W:World}(h:AwQ k h0 pa sb g 0 ls W):∃s:SimM,SimAt W k.b s∧s.sb=sb∧s.N=3∧s.S=1∧∀m,m<3->s.recs m 0=k.Rend m:=by
 obtain⟨a,⟨s,h1,h2,h3,h4,h5⟩,_⟩:=aw_fin h
 have e0:=a.ok.toOpOk.sN
 have e1:=a.ok.toOpOk.sS
 have en:=a.n
 have es:=a.S
 have ek:=a.sn
 refine⟨s,h1,?_,?_,?_,fun m hm=>?_⟩
 ·rw[h2]; exact a.sb
 ·rw[h2]; show k.s0.N=3; omega
 ·rw[h2]; show k.s0.S=1; omega
 ·have h6:=h4 m (by omega)
  rw[ek]at h6
  exact h6
def awB:Nat->ByteArray:=fun m=>if m=0 then awT else if m=2 then bytesI (xorI (xorI (intsOf zer16) (intsOf zer16)) (intsOf awT))else zer16
theorem aw_end{k:OpC}{h0 pa sb:Nat}(a:AwK k h0 pa sb):∀m,m<3->∃F d q,k.Rend m=⟨true,F,d,q,awB m,false,0,0,0,⟨#[]⟩⟩:=by
 intro m hm
 have h2:m=0∨m=1∨m=2:=by omega
 rcases h2 with rfl|rfl|rfl<;>simp[OpC.Rend,a.kd,OpC.RU,OpC.nd,a.sn,a.cn,a.n,OpC.dn,OpC.fen,a.recs,a.da,OpC.par,OpC.blk,zrec,awB]
theorem aw_nought{k:OpC}{h0 pa sb g:Nat}{ls:List OneM}(w:World)(h:AwQ k h0 pa sb g 0 ls w) :
  Calls Tryz.prog 22 #[.pointer (some ⟨sb,0,none⟩),i6 0] w (fun e w'=>e=.returned (.bool true)∧AwQ k h0 pa sb g 0 ls w'∧Kept (LawL h0 w) w w'):=by
 have hQ:=h
 obtain⟨s,h1,rfl,h3,h4,h5⟩:=aw_sim h
 have a:=h.1
 refine(nought_any s k.b 0 awB (by omega) (by omega) (fun m hm=>?_) (by rw[h3]; decide) w h1 (fun m hm=>?_)).mono fun _ _ ⟨q1,q2⟩=>⟨q1,AwQ.stb _ _ _ [] hQ q2 (fun _ h=>h.elim) rfl,q2.mono fun _ _ h=>h.elim⟩
 ·have h2:m=0∨m=1∨m=2:=by omega
  rcases h2 with rfl|rfl|rfl<;>decide
 ·rw[h5 m (by omega)]
  exact aw_end a m (by omega)
theorem aw_rec0{k:OpC}{h0 pa sb g:Nat}{ls:List OneM}{W:World}(h:AwQ k h0 pa sb g 0 ls W):∃gO cO gr cr,sb<W.heap.size∧W.cell? ⟨sb,2,none⟩=some (.slice (some ⟨gO,0,none⟩) 3 cO)∧gO<W.heap.size∧W.cell? ⟨gO,0,none⟩=some (.slice (some ⟨gr,0,none⟩) 1 cr)∧gr<W.heap.size∧W.cell? ⟨gr,4,none⟩=some (sT ⟨#[48,49,50,51,52,53,54,55,56,57,97,98,99,100,101,102]⟩)∧TyIn W 54 sb∧TyIn W 83 gO∧TyIn W 61 gr:=by
 obtain⟨s,h1,rfl,h3,h4,h5⟩:=aw_sim h
 obtain⟨F,d,q,h6⟩:=aw_end h.1 0 (by omega)
 have h7:=h5 0 (by omega)
 rw[h6]at h7
 have hrl:=(h1.rcd 0 (by omega)).own _ ⟨_,rfl,rfl⟩
 have hol:=h1.rws.own _ ⟨_,rfl,rfl⟩
 have hri:(s.recL 0)[0]?=some ⟨true,F,d,q,awB 0,false,0,0,0,⟨#[]⟩⟩:=by rw[SimM.recL,List.getElem?_map,List.getElem?_range (by omega)]; exact congrArg some h7
 have c1:=h1.sim.at_ (i:=2) (v:=.slice (some ⟨s.gO,0,none⟩) s.N s.cO) rfl
 have c2:=own_elem (f:=s.rowV) (fun _=>rfl) h1.rws (i:=0) (x:=0) (by rw[List.getElem?_range (by omega)]) 0 _ rfl
 have c3:=own_elem rec_len (h1.rcd 0 (by omega)) hri 4 _ rfl
 rw[h3]at c1
 rw[h4]at c2
 exact⟨s.gO,s.cO,(s.row 0).1,(s.row 0).2,h1.sim.lt,c1,hol.2,c2,hrl.2,c3,blk_ty h1.sim,h1.rws.ty _ ⟨_,rfl,rfl⟩,(h1.rcd 0 (by omega)).ty _ ⟨_,rfl,rfl⟩⟩
theorem awLen_le(m:Nat):awLen m<=3:=by unfold awLen; split<;>omega
theorem aw_want{k:OpC}{h0 pa sb g m:Nat}{ls:List OneM}{W:World}(h:AwQ k h0 pa sb g m ls W):Blk W g 3 [i6 1,i6 3,i6 2,i6 2,i6 2]:=by
 obtain⟨a,p,a1,a2,a3,a4,a5,a6,a7⟩:=h
 exact a6.1
theorem want_cell(i:Nat)(h:i<5):([Value.int .i64 1,i6 3,i6 2,i6 2,i6 2]:List Value)[i]?=some (i6 ((awLen (awM i):Nat):Int)):=by
 have h2:i=0∨i=1∨i=2∨i=3∨i=4:=by omega
 rcases h2 with rfl|rfl|rfl|rfl|rfl<;>rfl
def awk_v1:List Value:=[i6 2,i6 0,sT ⟨#[48,49,50,51,52,53,54,55,56,57,97,98,99,100,101,102]⟩]
section
variable (o:OneM)(pa sb:Nat)(k:OpC)(w W3:World)
def awk_v2:List Value:=[i6 200,i6 o.to,i6 o.id,.bool false,i6 o.q.kind,i6 o.q.stripe,i6 o.q.epoch,i6 o.q.seq,i6 o.q.mask,i6 o.q.node,i6 o.q.oe,i6 o.q.os,sT o.q.block,i6 0,i6 0,i6 0,.bool false,i6 0,i6 0,i6 0,sT ⟨#[]⟩,.bool false,i6 0,i6 0,i6 0,sT ⟨#[]⟩]
def awk_v3(sy:SayR):List Value:=[i6 o.to,i6 200,i6 o.id,.bool true]++rp 8 (i6 0)++[sT ⟨#[]⟩,i6 sy.st,i6 sy.ep,i6 sy.ou,.bool sy.rc.used,i6 sy.rc.fence,i6 sy.rc.de,i6 sy.rc.ds,sT sy.rc.block,.bool sy.rc.op,i6 sy.rc.ie,i6 sy.rc.is,i6 sy.rc.mask,sT sy.rc.staged]
def awk_n1:List Nat:=[1,1,1,1,1,1,1,1,0,1,0,0,1,0,0,1,1,0,1,0,0,1,0,0,1]
def awk_n2:List Nat:=[1,1,1,1,1,1,1,1,0,1,0,0,1,0,0,1,1,0,1,0,0,1,1]
def awk_n3:List Nat:=[1,1,1,1,1,1,1,1,0,1,0,0,1,0,0,1,1,1]
def awk_n4:List Nat:=[1,1,1,1,1,1,1,1,0,1,0,0,1,1]
def awk_n5:List Nat:=[1,1,1,1,1,1,1,1,1,1,1]
def awk_n6:List Nat:=[1,1,1,1,1,1,1,1,1]
@[simp] def awk_b1:List Bk:=[⟨w.heap.size,23,true,[i6 3,i6 1]⟩]
@[simp] def awk_b2:List Bk:=[⟨w.heap.size,23,false,[i6 3,i6 1]⟩,⟨W3.heap.size,3,false,[i6 1,i6 3,i6 2,i6 2,i6 2]⟩]
def awk_I(m:Nat)(st:St)(W0:World):Prop:=
 ∃(i:Nat)(ls:List OneM)(A:Option Addr)(ca:Nat)(z:Nat),(m+i=5)∧AwQ k w.heap.size pa sb (W3.heap.size) (awM i) ls W0∧OwnR W0 w.heap.size 65 26 A ls.length ca (lettersC 200 ls)∧st=⟨[(0,.bool false),(2,(pt pa 0)),(3,(pt sb 0)),(4,i6 0),(5,.slice (some ⟨W3.heap.size,0,none⟩) 5 5),(6,.slice A ls.length ca),(7,i6 (i:Int))],[],[],z⟩
def awk_K(A:Option Addr)(ca:Nat)(ls:List OneM)(w:World)(W3:World)(W7:World)(i:Nat)(m:Nat)(st:St)(W0:World):Prop:=
 ∃(kk:Nat)(nx:List OneM)(B:Option Addr)(cb:Nat)(z:Nat),(m+kk=ls.length∧kk<=ls.length)∧AwQ k w.heap.size pa sb (W3.heap.size) (awM i-kk) (ls.drop kk++nx) W0∧W7.heap.size<=W0.heap.size∧OwnR W0 w.heap.size 65 26 A ls.length ca (lettersC 200 ls)∧OwnR W0 W7.heap.size 65 26 B nx.length cb (lettersC 200 nx)∧st=⟨[(0,.bool false),(2,(pt pa 0)),(3,(pt sb 0)),(4,i6 0),(5,.slice (some ⟨W3.heap.size,0,none⟩) 5 5),(6,.slice A ls.length ca),(7,i6 (i:Int)),(8,.slice B nx.length cb),(9,i6 (kk:Int))],[],[],z⟩
end
theorem awake_any  (w:World) :
  Calls Tryz.prog 6 #[] w (fun e w'=>e=.returned (.bool true)∧Kept (fun _=>False) w w'):=by
 refine cH (S:=(fun _=>False)) (n:=111) Tryz.func6 (MemOk.none w _) ?_
 refine hgS 16 (dz 5 0x20008020008000) [0,1,16] [] [(w.heap.size,0,2),(w.heap.size,0,2)] [.ops [1,1,0] [1,2],.code [1,1,1]] (awk_b1 w) [] (w.heap.size+1) ?_
 refine hcV (w:=w) (S':=(LawL (w.heap.size) w)) (Y:=Nat) (fun pa=>(pt pa 0)) (fun pa=>(awk_b1 w)) (fun pa W_=>NewA w.heap.size 3 1 pa W_) (show _=some (8,[.agg #[i6 3,i6 1],i6 0,i6 1],some 17,[])by kernel_rfl) tI (fun wx hm=>?_) (fun pa W1 hX1 hm1=>?_)
 ·have hm0_:=(hm.wide (S':=LawL (w.heap.size) w) (fun _ h=>h.elim))
  refine(aw_a wx hm0_.kept.size).mono fun e w' hq_=>?_
  obtain⟨pa,he_,nf_q,h3_⟩:=hq_
  exact⟨pa,he_,nf_q,hm0_.offA (fun _ h=>h) h3_ (lawL_up hm0_.kept) (off_tys hm (es:=TL17) (fun _ h=>h.1) rfl)⟩
 have f1_q:=hX1
 refine hgS 12 (dz 5 0) [0,1,2,20,21] [fF] [] [.ops [1,1,1,0,0] [4,5,6],.code [1,1,1,0,1],.code [1,1,1,1]] (awk_b1 w) [] W1.heap.size ?_
 refine hcp (.pointer none) 8 [.agg #[i6 0,i6 0],i6 0,i6 1] (some 22) [false=false] ⟨rfl,tI⟩ rfl (fun wx hm=>by
  have f_q:=(NewA.stb _ _ _ _ f1_q hm.kept (turned_tys hm1) rfl)
  exact pil_no wx) fun z4 hz4=>?_
 replace hz4:W1.heap.size<=z4:=hz4
 refine hgS 11 (dz 4 536903744) [0,2,25] [fF,fF,fF] [(w.heap.size,0,2)] [.ops [1,1,1,1,0] [1,2],.code [1,1,1,1,1]] (awk_b1 w) [] z4 ?_
 refine hcV (w:=w) (S':=(LawL (w.heap.size) w)) (Y:=Nat×OpC) (fun yq=>(pt yq.1 0)) (fun yq=>(awk_b1 w)) (fun yq W_=>AwQ0 yq.2 w.heap.size pa yq.1 W_) (show _=some (9,[.agg #[i6 3,i6 1]],some 26,[])by kernel_rfl) tI (fun wx hm=>?_) (fun yq W2 hX2 hm2=>?_)
 ·have hm0_:=(MemOk.bck hm1 hm)
  have f_q:=(NewA.stb _ _ _ _ f1_q hm.kept (turned_tys hm1) rfl)
  refine(aw_s wx f_q).mono fun e w' hq_=>?_
  obtain⟨sb,k,he_,nf_q,h3_⟩:=hq_
  exact⟨(sb,k),he_,nf_q,hm0_.offA (fun _ h=>h) h3_ (lawL_up hm0_.kept) (off_tys hm (es:=TL17) (fun _ h=>h.1) rfl)⟩
 obtain⟨sb,k⟩:=yq
 have f2_q:=hX2
 replace f2_q:AwQ0 k w.heap.size pa sb W2:=f2_q
 refine hgS 9 (dz 3 0) [0,2,3,27,28] [] [] [.ops [1,1,1,1,1,0] [2,3],.code [1,1,1,1,1,1]] (awk_b1 w) [] W2.heap.size ?_
 refine hcV (w:=w) (S':=(LawL (w.heap.size) w)) (Y:=Unit) (fun _=>i6 0) (fun _=>(awk_b1 w)) (fun _ W_=>AwQ1 k w.heap.size pa sb W_) (show _=some (14,[(pt pa 0),i6 0,.agg (List.toArray (awk_v1))],some 29,[])by kernel_rfl) tI (fun wx hm=>?_) (fun y_ W3 hX3 hm3=>?_)
 ·have hm0_:=(MemOk.bck hm2 hm)
  have f_q:=(AwQ0.stb _ _ _ _ f2_q hm.kept (turned_tys hm2) rfl)
  refine(aw_sub wx f_q).mono fun e w' hq_=>?_
  obtain⟨he_,nf_q,h3_⟩:=hq_
  exact⟨(),he_,nf_q,hm0_.offA (fun _ h=>h) h3_ (lawL_up hm0_.kept) (off_tys hm (es:=TL17) (fun _ h=>h.1) rfl)⟩
 have f3_q:=hX3
 have hfar:=aw_far f3_q
 refine hgE 13 (dz 4 0) [0,2,3,4,5,31] [] [] [.ops [1,1,1,1,1,1,1,0] [1,2],.code [1,1,1,1,1,1,1,1]] ⟨[(0,.bool false),(2,(pt pa 0)),(3,(pt sb 0)),(4,i6 0),(5,.slice (some ⟨W3.heap.size,0,none⟩) 5 5),(31,(pt pa 0))],[⟨w.heap.size,23,true,[i6 3,i6 1]⟩,⟨W3.heap.size,3,true,[i6 1,i6 3,i6 2,i6 2,i6 2]⟩],[],W3.heap.size+1⟩ ?_
 refine holds_gndF (bk':=(awk_b2 w W3)) [false,false] rfl (fun W4 hm hmz=>?_)
 have f4_q:AwQ1 k w.heap.size pa sb W4:=(AwQ1.stb _ _ _ _ f3_q hm.kept (turned_tys hm3) rfl)
 have hm4:MemOk w (LawL (w.heap.size) w) (awk_b2 w W3) [] W4.heap.size W4:=MemOk.bck hm3 hmz
 clear hm hmz
 have f5_q:AwQ1W k w.heap.size pa sb (W3.heap.size) W4:=⟨f4_q,hm4.at_ 1 rfl,hfar.1,hfar.2.1,hfar.2.2⟩
 refine holds_prune [0,2,3,4,5,31] [false,false] ?_
 refine hcV (w:=w) (S':=(LawL (w.heap.size) w)) (Y:=(Option Addr)×Nat×(List OneM)) (fun yq=>.slice yq.1 yq.2.2.length yq.2.1) (fun yq=>[]) (fun yq W_=>AwQ k w.heap.size pa sb (W3.heap.size) 10 yq.2.2 W_∧OwnR W_ w.heap.size 65 26 yq.1 yq.2.2.length yq.2.1 (lettersC 200 yq.2.2)) (show _=some (16,[(pt pa 0),i6 0],some 32,[])by kernel_rfl) tI (fun wx hm=>?_) (fun yq W6 hX6 hm6=>?_)
 ·have hm0_:=(MemOk.bck hm4 hm)
  have f_q:=(AwQ1W.stb _ _ _ _ f5_q hm.kept (turned_tys hm4) rfl)
  refine(aw_step wx f_q).mono fun e w' hq_=>?_
  obtain⟨A,ca,ls,he_,nf_q,no_l,h3_⟩:=hq_
  exact⟨(A,ca,ls),he_,⟨nf_q,no_l⟩,hm0_.offA (fun _ h=>h) h3_ (fun y hy=>hy.elim (lawL_up hm0_.kept y) (fun h=>.inr h.1)) (off_tys hm (es:=65::TL17) (fun y hy=>law8L_ty y hy) rfl)⟩
 obtain⟨A,ca,ls⟩:=yq
 obtain⟨f6_q,o6_l⟩:=hX6
 replace f6_q:AwQ k w.heap.size pa sb (W3.heap.size) 10 ls W6:=f6_q
 refine hgE 11 (dz 2 0) [0,2,3,4,5,6,7] [] [] [.code [1,1,1,1,1,1,1,1,0,1,0],.blk 0,.code awk_n6] ⟨[(0,.bool false),(2,(pt pa 0)),(3,(pt sb 0)),(4,i6 0),(5,.slice (some ⟨W3.heap.size,0,none⟩) 5 5),(6,.slice A ls.length ca),(7,i6 0)],[],[],W6.heap.size⟩ ?_
 refine holds_loopW (w:=w) (S':=LawL (w.heap.size) w) (awk_I pa sb k w W3) 5 (by kernel_rfl) (fun W0 hm=>⟨⟨0,ls,A,ca,_,rfl,(AwQ.stb _ _ _ _ f6_q hm.kept (turned_tys hm6) rfl),(o6_l.keptT hm.kept (turned_tys hm6) rfl),rfl⟩,(MemOk.bck hm6 hm)⟩) ?_
 rintro m _ W7 ⟨i,ls,A,ca,z,hh7,f7_q,o7_l,rfl⟩ hm7 J7 hJ7
 obtain⟨hln,hlm⟩:=aw_len f7_q
 have hl3:=awLen_le (awM i)
 have hlz:∀y,ownS A y->y<W7.heap.size:=fun y hy=>(o7_l.own y hy).2
 have hwz:w.heap.size<=W7.heap.size:=hm7.kept.size
 by_cases hi:i<5
 ·skip
  obtain⟨hfin,hm0z⟩:=awM_fin i hi
  have hWt:=aw_want f7_q
  refine holds_wins [⟨W3.heap.size,0+i*1,[i6 ((awLen (awM i):Nat):Int)]⟩] (fun _ y hy=>?_) ?_
  ·obtain rfl:=List.mem_singleton.1 hy
   refine⟨fun h=>tysIn_not rfl (blk_ty hWt) (turned_tys hm7 _ h),hWt.lt,fun j v hj=>?_⟩
   match j,hj with
   |0,hj=>cases hj; exact(by have h_:=hWt.at_ (want_cell i hi); simpa using h_)
  refine hgS 25 [oh0,oh0,oh1,oh0,oh0,oh0,oh0,oh2,⟨false,0,[⟨true,0,0,1⟩]⟩,oh0,oh0,oh0] [0,2,3,4,5,6,7,44,45] [dT (((i:Int):Int)<5),oE ((0:Int)<=(i:Int)∧(i:Int)<((5:Nat):Int)),oE ((((ls.length:Nat):Int)!=((awLen (awM i):Nat):Int))=false) (bne_eq_false_iff_eq.2 (by omega))] [(W3.heap.size,0+i*1,1)] [.ops [1,1,1,1,1,1,1,1,0,1,0,0,1,0,0,0,0] [9,10,11],.code [1,1,1,1,1,1,1,1,0,1,0,0,1,0,0,0,1],.code [1,1,1,1,1,1,1,1,0,1,0,0,1,0,0,1],.blk 1,.code awk_n4,.inv J7,.blk 0,.code awk_n6] [] [⟨W3.heap.size,0+i*1,[i6 ((awLen (awM i):Nat):Int)]⟩] W7.heap.size ?_
  refine hcp (.bool true) 15 [(pt pa 0)] (some 46) [(((ls.length:Nat):Int)!=((awLen (awM i):Nat):Int))=false] ⟨bne_eq_false_iff_eq.2 (by omega),tI⟩ rfl (fun wx hm=>by
   have f_q:=(AwQ.stb _ _ _ _ f7_q hm.kept (turned_tys hm7) rfl)
   exact aw_busy wx f_q hm0z) fun z13 hz13=>?_
  replace hz13:W7.heap.size<=z13:=hz13
  refine hgE 18 (dz 5 64) [0,2,3,4,5,6,7,8,9] (rE 2 (oE ((((ls.length:Nat):Int)!=((awLen (awM i):Nat):Int))=false) (bne_eq_false_iff_eq.2 (by omega)))++[fF]) [] [.code [1,1,1,1,1,1,1,1,0,1,0,0,1,0,0,1,1,0,1,0],.blk 2,.code awk_n3,.blk 1,.code awk_n4,.inv J7,.blk 0,.code awk_n6] ⟨[(0,.bool false),(2,(pt pa 0)),(3,(pt sb 0)),(4,i6 0),(5,.slice (some ⟨W3.heap.size,0,none⟩) 5 5),(6,.slice A ls.length ca),(7,i6 (i:Int)),(8,.slice none 0 0),(9,i6 0)],[],[⟨W3.heap.size,0+i*1,[i6 ((awLen (awM i):Nat):Int)]⟩],z13⟩ ?_
  refine holds_wins [] (fun _ _ h=>by cases h) ?_
  have f8_q:AwQ k w.heap.size pa sb (W3.heap.size) (awM i) (ls.drop 0++[]) W7:=by rw[List.append_nil]; exact f7_q
  have o9_nx:OwnR W7 W7.heap.size 65 26 none 0 0 (lettersC 200 ([])):=OwnR.nil _ _ _ _
  have f_sz0:W7.heap.size<=W7.heap.size:=Nat.le_refl _
  refine holds_loopW (w:=w) (S':=LawL (w.heap.size) w) (awk_K pa sb k A ca ls w W3 W7 i) ls.length (by kernel_rfl) (fun W0 hm=>⟨⟨0,[],none,0,_,⟨by omega,by omega⟩,(AwQ.stb _ _ _ _ f8_q hm.kept (turned_tys hm7) rfl),(Nat.le_trans f_sz0 hm.kept.size),(o7_l.keptT hm.kept (turned_tys hm7) rfl),(o9_nx.keptT hm.kept (turned_tys hm7) rfl),rfl⟩,(MemOk.bck hm7 hm)⟩) ?_
  rintro m _ W10 ⟨kk,nx,B,cb,z,hh10,f10_q,f10_sz,o10_l,o10_nx,rfl⟩ hm10 J10 hJ10
  obtain⟨hmk,hkl⟩:=hh10
  by_cases hk:kk<ls.length
  rotate_left
  ·skip
   refine holds_go (f:=23) (hs:=[oh0,oh0,oh0,oh0,oh0,oh0,oh0,oh0,oh2,oh0]) [0,2,3,4,5,6,7] [true] (show _=some (Res.mk [(decide (((kk:Int):Int)<((ls.length:Nat):Int)))=false,inR .i64 (((i:Int)+1))] (dupR []) [.inv J7,.blk 0,.code awk_n6] ⟨[(0,.bool false),(2,(pt pa 0)),(3,(pt sb 0)),(4,i6 0),(5,.slice (some ⟨W3.heap.size,0,none⟩) 5 5),(6,.slice B nx.length cb),(7,i6 ((i:Int)+1))],[],[],W10.heap.size⟩)by kernel_rfl) ⟨decide_eq_false (by omega),in64 (by omega),trivial⟩ ?_
   obtain rfl:kk=ls.length:=by omega
   have hmz:=hfin
   rw[<-hln]at hmz
   have f11_q:AwQ k w.heap.size pa sb (W3.heap.size) (awM (i+1)) nx W10:=by have h_:=f10_q; rwa [List.drop_of_length_le (Nat.le_refl _),List.nil_append,hmz]at h_
   have o_low:=OwnR.below (base':=w.heap.size) o10_nx hwz
   rw[<-cast_succ i]
   intro a_ w9 hf hm
   exact hJ7 (4-i) _ a_ w9 (by omega) ⟨i+1,nx,B,cb,_,by omega,(AwQ.stb _ _ _ _ f11_q hm.kept (turned_tys hm10) rfl),(o_low.keptT hm.kept (turned_tys hm10) rfl),rfl⟩ hf (MemOk.bck hm10 hm)
  obtain⟨o,ho⟩:∃o,ls[kk]?=some o:=⟨_,List.getElem?_eq_getElem hk⟩
  obtain⟨gA,rfl,_⟩:=OwnR.cell (j:=kk*26+0) (v:=i6 200) o10_l (flatV_get (f:=letC 200) (fun _=>rfl) ho (by decide))
  have f12_q:AwQ k w.heap.size pa sb (W3.heap.size) (awM i-kk) (o::(ls.drop (kk+1)++nx)) W10:=by have h_:=f10_q; rwa [List.drop_eq_getElem_cons hk,(List.getElem?_eq_some_iff.1 ho).2,List.cons_append]at h_
  refine holds_wins [⟨gA,0+kk*26,(awk_v2 o)⟩] (fun _ y hy=>?_) ?_
  ·simp only[List.mem_cons,List.not_mem_nil,or_false]at hy
   subst hy
   exact⟨fun h=>tysIn_not rfl (o10_l.ty gA ⟨_,rfl,rfl⟩) (turned_tys hm10 _ h),(o10_l.own gA ⟨_,rfl,rfl⟩).2,own_elem (f:=(letC 200)) (fun _=>rfl) o10_l ho⟩
  refine hgS 22 [oh0,oh0,oh0,oh0,oh1,oh0,oh0,oh0,oh2,⟨false,0,[⟨true,0,0,26⟩]⟩] [0,2,3,4,5,6,7,8,9,56,60] [dT (((kk:Int):Int)<((ls.length:Nat):Int)),oE ((0:Int)<=(kk:Int)∧(kk:Int)<((ls.length:Nat):Int))] [(gA,0+kk*26,26)] [.ops [1,1,1,1,1,1,1,1,0,1,0,0,1,0,0,1,1,0,1,0,0,1,0,0,0] [5,6,7,8,9,10,11],.code awk_n1,.blk 3,.code awk_n2,.inv J10,.blk 2,.code awk_n3,.blk 1,.code awk_n4,.inv J7,.blk 0,.code awk_n6] [] [⟨gA,0+kk*26,(awk_v2 o)⟩] W10.heap.size ?_
  refine holds_wins [] (fun _ _ h=>by cases h) ?_
  refine hcV (w:=w) (S':=(LawL (w.heap.size) w)) (Y:=SayR) (fun sy=>.tuple #[.agg (List.toArray (awk_v3 o sy)),.bool true]) (fun sy=>[]) (fun sy W_=>W7.heap.size<=W_.heap.size∧AwA k w.heap.size pa sb (W3.heap.size) (awM i-kk) o (ls.drop (kk+1)++nx) sy W_∧OwnR W_ w.heap.size 65 26 (some ⟨gA,0,none⟩) ls.length ca (lettersC 200 ls)∧OwnR W_ W7.heap.size 65 26 B nx.length cb (lettersC 200 nx)) (show _=some (18,[(pt sb 0),i6 0,.agg (List.toArray (awk_v2 o))],some 61,[])by kernel_rfl) tI (fun wx hm=>?_) (fun sy W13 hX13 hm13=>?_)
  ·have hm0_:=(MemOk.bck hm10 hm)
   have f_q:=(AwQ.stb _ _ _ _ f12_q hm.kept (turned_tys hm10) rfl)
   have f_sz:=(Nat.le_trans f10_sz hm.kept.size)
   have o_l:=(o10_l.keptT hm.kept (turned_tys hm10) rfl)
   have o_nx:=(o10_nx.keptT hm.kept (turned_tys hm10) rfl)
   refine(aw_ans wx f_q).mono fun e w' hq_=>?_
   obtain⟨sy,he_,nf_q,h3_⟩:=hq_
   exact⟨sy,he_,⟨(Nat.le_trans f_sz h3_.size),nf_q,(o_l.keptT h3_ (fun _ h=>h.1) rfl),(o_nx.keptT h3_ (fun _ h=>h.1) rfl)⟩,hm0_.offA (fun _ h=>h) h3_ (lawL_up hm0_.kept) (off_tys hm (es:=TL17) (fun _ h=>h.1) rfl)⟩
  obtain⟨f13_sz,f13_q,o13_l,o13_nx⟩:=hX13
  refine hgE 14 (dz 9 0x1a00080001a00080000) [0,2,3,4,5,6,7,8,9,64,65,66] [] [(W13.heap.size,0,26),(W13.heap.size,0,26)] [.ops awk_n1 [3,4,5],.blk 3,.code awk_n2,.inv J10,.blk 2,.code awk_n3,.blk 1,.code awk_n4,.inv J7,.blk 0,.code awk_n6] ⟨[(0,.bool false),(2,(pt pa 0)),(3,(pt sb 0)),(4,i6 0),(5,.slice (some ⟨W3.heap.size,0,none⟩) 5 5),(6,.slice (some ⟨gA,0,none⟩) ls.length ca),(7,i6 (i:Int)),(8,.slice B nx.length cb),(9,i6 (kk:Int)),(64,.slice B nx.length cb),(65,(pt pa 0)),(66,.agg (List.toArray (awk_v3 o sy)))],[⟨W13.heap.size,65,true,(awk_v3 o sy)⟩],[],W13.heap.size+1⟩ ?_
  refine holds_gndF (bk':=[⟨W13.heap.size,65,false,(awk_v3 o sy)⟩]) [false] rfl (fun W14 hm hmz=>?_)
  have f14_sz:W7.heap.size<=W14.heap.size:=(Nat.le_trans f13_sz hm.kept.size)
  have f14_q:AwA k w.heap.size pa sb (W3.heap.size) (awM i-kk) o (ls.drop (kk+1)++nx) sy W14:=(AwA.stb _ _ _ _ f13_q hm.kept (turned_tys hm13) rfl)
  have o14_l:OwnR W14 w.heap.size 65 26 (some ⟨gA,0,none⟩) ls.length ca (lettersC 200 ls):=(o13_l.keptT hm.kept (turned_tys hm13) rfl)
  have o14_nx:OwnR W14 W7.heap.size 65 26 B nx.length cb (lettersC 200 nx):=(o13_nx.keptT hm.kept (turned_tys hm13) rfl)
  have hm14:MemOk w (LawL (w.heap.size) w) [⟨W13.heap.size,65,false,(awk_v3 o sy)⟩] [] W14.heap.size W14:=MemOk.bck hm13 hmz
  clear hm hmz
  refine holds_prune [0,2,3,4,5,6,7,8,9,64,65,66] [false] ?_
  refine holds_callV (w:=w) (S':=(LawL (w.heap.size) w)) (Y:=(Option Addr)×Nat×(List OneM)) (fun yq=>.slice yq.1 yq.2.2.length yq.2.1) (fun yq=>[]) (fun yq W_=>W7.heap.size<=W_.heap.size∧AwQ k w.heap.size pa sb (W3.heap.size) (awM i-kk-1) (ls.drop (kk+1)++nx++yq.2.2) W_∧0<awM i-kk∧OwnR W_ w.heap.size 65 26 (some ⟨gA,0,none⟩) ls.length ca (lettersC 200 ls)∧OwnR W_ W7.heap.size 65 26 B nx.length cb (lettersC 200 nx)∧OwnR W_ w.heap.size 65 26 yq.1 yq.2.2.length yq.2.1 (lettersC 200 yq.2.2)) (fun yq=>[(67,.slice yq.1 yq.2.2.length yq.2.1),(0,.bool false),(2,(pt pa 0)),(3,(pt sb 0)),(4,i6 0),(5,.slice (some ⟨W3.heap.size,0,none⟩) 5 5),(6,.slice (some ⟨gA,0,none⟩) ls.length ca),(7,i6 (i:Int)),(8,.slice B nx.length cb),(9,i6 (kk:Int)),(64,.slice B nx.length cb),(65,(pt pa 0)),(66,.agg (List.toArray (awk_v3 o sy)))]) (show _=some (19,[(pt pa 0),i6 0,.agg (List.toArray (awk_v3 o sy))],some 67,[])by kernel_rfl) tI (fun _=>rfl) (fun wx hm=>?_) (fun yq W15 hX15 hm15=>?_)
  ·have hm0_:=(MemOk.bck hm14 hm)
   have f_sz:=(Nat.le_trans f14_sz hm.kept.size)
   have f_q:=(AwA.stb _ _ _ _ f14_q hm.kept (turned_tys hm14) rfl)
   have o_l:=(o14_l.keptT hm.kept (turned_tys hm14) rfl)
   have o_nx:=(o14_nx.keptT hm.kept (turned_tys hm14) rfl)
   refine(aw_rec wx f_q).mono fun e w' hq_=>?_
   obtain⟨A3,c3,l3,he_,⟨nf_q,nf_lt⟩,no_re,h3_⟩:=hq_
   exact⟨(A3,c3,l3),he_,⟨(Nat.le_trans f_sz h3_.size),nf_q,nf_lt,(o_l.keptT h3_ (fun _ h=>h.1) rfl),(o_nx.keptT h3_ (fun _ h=>h.1) rfl),(no_re.below hm0_.kept.size)⟩,hm0_.offA (fun _ h=>h) h3_ (lawL_up hm0_.kept) (off_tys hm (es:=TL17) (fun _ h=>h.1) rfl)⟩
  obtain⟨A3,c3,l3⟩:=yq
  obtain⟨f15_sz,f15_q,f15_lt,o15_l,o15_nx,o15_re⟩:=hX15
  replace f15_q:AwQ k w.heap.size pa sb (W3.heap.size) (awM i-kk-1) (ls.drop (kk+1)++nx++l3) W15:=f15_q
  replace f15_lt:0<awM i-kk:=f15_lt
  have hln2:=aw_len f15_q
  have hl4:=awLen_le (awM i-kk-1)
  simp only[List.length_append,List.length_drop]at hln2
  refine hgE 3 [] [0,2,3,4,5,6,7,8,9,64,67] [] [] [.ops awk_n1 [4,5],.blk 3,.code awk_n2,.inv J10,.blk 2,.code awk_n3,.blk 1,.code awk_n4,.inv J7,.blk 0,.code awk_n6] ⟨[(0,.bool false),(2,(pt pa 0)),(3,(pt sb 0)),(4,i6 0),(5,.slice (some ⟨W3.heap.size,0,none⟩) 5 5),(6,.slice (some ⟨gA,0,none⟩) ls.length ca),(7,i6 (i:Int)),(8,.slice B nx.length cb),(9,i6 (kk:Int)),(64,.slice B nx.length cb),(67,.slice A3 l3.length c3)],[],[],W15.heap.size⟩ ?_
  have f16_q:AwQ k w.heap.size pa sb (W3.heap.size) (awM i-(kk+1)) (ls.drop (kk+1)++(nx++l3)) W15:=by rw[<-List.append_assoc]; exact f15_q
  refine holds_opV (w:=w) (S':=LawL (w.heap.size) w) (Y:=Option Addr×Nat) (dst:=(some 68)) (x:=Builtin.append_ #[50,50] 50 #[.slice B nx.length cb,.slice A3 l3.length c3]) (fun yq=>.slice yq.1 (nx.length+l3.length) yq.2) [] (fun yq W_=>W7.heap.size<=W_.heap.size∧AwQ k w.heap.size pa sb (W3.heap.size) (awM i-(kk+1)) (ls.drop (kk+1)++(nx++l3)) W_∧OwnR W_ w.heap.size 65 26 (some ⟨gA,0,none⟩) ls.length ca (lettersC 200 ls)∧OwnR W_ W7.heap.size 65 26 yq.1 (nx.length+l3.length) yq.2 (lettersC 200 (nx++l3))) (fun yq=>[(68,.slice yq.1 (nx.length+l3.length) yq.2),(0,.bool false),(2,(pt pa 0)),(3,(pt sb 0)),(4,i6 0),(5,.slice (some ⟨W3.heap.size,0,none⟩) 5 5),(6,.slice (some ⟨gA,0,none⟩) ls.length ca),(7,i6 (i:Int)),(8,.slice B nx.length cb),(9,i6 (kk:Int)),(64,.slice B nx.length cb),(67,.slice A3 l3.length c3)]) (by kernel_rfl) (by kernel_rfl) (fun _=>rfl) (fun wx hm=>?_) (fun yq W17 hX17 hm17=>?_)
  ·have hm0_:=(MemOk.bck hm15 hm)
   have f_sz:=(Nat.le_trans f15_sz hm.kept.size)
   have f_q:=(AwQ.stb _ _ _ _ f16_q hm.kept (turned_tys hm15) rfl)
   have o_l:=(o15_l.keptT hm.kept (turned_tys hm15) rfl)
   have o_nx:=(o15_nx.keptT hm.kept (turned_tys hm15) rfl)
   have o_re:=(o15_re.keptT hm.kept (turned_tys hm15) rfl)
   obtain⟨A',cp',w',h1,h2,h3⟩:=run_appendO (P:=Tryz.prog) wx _ _ 50 50 65 (.agg #[i6 0,i6 0,i6 0,.bool false,i6 0,i6 0,i6 0,i6 0,i6 0,i6 0,i6 0,i6 0,sT ⟨#[]⟩,i6 0,i6 0,i6 0,.bool false,i6 0,i6 0,i6 0,sT ⟨#[]⟩,.bool false,i6 0,i6 0,i6 0,sT ⟨#[]⟩]) 26 232 _ nx.length _ _ _ l3.length _ _ (by kernel_rfl) (by kernel_rfl) (by kernel_rfl) (by decide) o_nx o_re (letters_one 200 l3) (by omega) (by decide) f_sz
   rw[show lettersC 200 nx++lettersC 200 l3=lettersC 200 (nx++l3)by simp[lettersC]]at h2
   exact⟨(A',cp'),w',h1,⟨(Nat.le_trans f_sz h3.size),(AwQ.stb _ _ _ _ f_q h3 (own_tys o_nx) rfl),(o_l.kept h3 (fun y hy hy'=>by have h8:=hlz y hy; have h9:=(o_nx.own y hy').1; omega)),h2⟩,hm0_.offA (fun _ h=>h) h3 (fun y hy=>.inr (Nat.le_trans hwz (o_nx.own y hy).1)) (off_tys hm (own_tys o_nx) rfl)⟩
  obtain⟨A4,c4⟩:=yq
  obtain⟨f17_sz,f17_q,o17_l,o17_nx⟩:=hX17
  refine holds_go (f:=11) (hs:=[oh0,oh0,oh2,oh0]) [0,2,3,4,5,6,7,8,9] [true] (show _=some (Res.mk [inR .i64 (((kk:Int)+1))] (dupR []) [.inv J10,.blk 2,.code awk_n3,.blk 1,.code awk_n4,.inv J7,.blk 0,.code awk_n6] ⟨[(0,.bool false),(2,(pt pa 0)),(3,(pt sb 0)),(4,i6 0),(5,.slice (some ⟨W3.heap.size,0,none⟩) 5 5),(6,.slice (some ⟨gA,0,none⟩) ls.length ca),(7,i6 (i:Int)),(8,.slice A4 (nx.length+l3.length) c4),(9,i6 ((kk:Int)+1))],[],[],W17.heap.size⟩)by kernel_rfl) ⟨in64 (by omega),trivial⟩ ?_
  have o18_nx:OwnR W17 W7.heap.size 65 26 A4 ((nx++l3).length) c4 (lettersC 200 (nx++l3)):=by rw[List.length_append]; exact o17_nx
  rw[show nx.length+l3.length=(nx++l3).length from List.length_append.symm,<-cast_succ kk]
  intro a_ w9 hf hm
  exact hJ10 (m-1) _ a_ w9 (by omega) ⟨kk+1,nx++l3,A4,c4,_,⟨by omega,by omega⟩,(AwQ.stb _ _ _ _ f17_q hm.kept (turned_tys hm17) rfl),(Nat.le_trans f17_sz hm.kept.size),(o17_l.keptT hm.kept (turned_tys hm17) rfl),(o18_nx.keptT hm.kept (turned_tys hm17) rfl),rfl⟩ hf (MemOk.bck hm17 hm)
 ·skip
  refine hgS 14 (dz 4 0) [0,2,3,4,71] [dF (((i:Int):Int)<5)] [] [.ops [1,1,1,1,1,1,1,1,1,0] [1,2,3,4,5,6,7,8],.code [1,1,1,1,1,1,1,1,1,1]] [] [] W7.heap.size ?_
  obtain rfl:i=5:=by omega
  have f19_q:AwQ k w.heap.size pa sb (W3.heap.size) 0 ls W7:=f7_q
  refine hgS 3 [] [0,2,3,4,71] [] [] [.ops [1,1,1,1,1,1,1,1,1,0] [1,2,3,4,5,6,7,8],.code [1,1,1,1,1,1,1,1,1,1]] [] [] W7.heap.size ?_
  refine hcp (.tuple #[i6 0,sT ⟨#[]⟩,i6 1]) 20 [(pt pa 0)] (some 72) [] tI rfl (fun wx hm=>by
   have f_q:=(AwQ.stb _ _ _ _ f19_q hm.kept (turned_tys hm7) rfl)
   exact(aw_idle wx f_q).2) fun z25 hz25=>?_
  replace hz25:W7.heap.size<=z25:=hz25
  refine hgS 29 (dz 23 0x10311031103110000000000) [0,3,90,91] ([tT,tT,tT,tT,tT,tT]++rE 3 (oE ((ByteArray.toList ⟨#[]⟩==ByteArray.toList ⟨#[]⟩)=true) (beq_self_eq_true _))++[tT]) [] [.ops [1,1,1,1,1,1,1,1,1,1,0] [16,17,18,19,20,21,22,23,24,25,26,27,28,29,30,31,32,33,34,35],.code awk_n5] [] [] z25 ?_
  refine hcp (.bool false) 15 [(pt pa 0)] (some 92) [true=true] ⟨rfl,tI⟩ rfl (fun wx hm=>by
   have f_q:=(AwQ.stb _ _ _ _ f19_q hm.kept (turned_tys hm7) rfl)
   exact(aw_idle wx f_q).1) fun z27 hz27=>?_
  replace hz27:z25<=z27:=hz27
  refine hgS 7 (dz 4 4145) [0,3,95,96] [tT,tT,tT] [] [.ops [1,1,1,1,1,1,1,1,1,1,0] [21,22,23,24,25,26,27,28,29,30,31,32,33,34,35],.code awk_n5] [] [] z27 ?_
  refine hcV (w:=w) (S':=(LawL (w.heap.size) w)) (Y:=Unit) (fun _=>.bool true) (fun _=>[]) (fun _ W_=>AwQ k w.heap.size pa sb (W3.heap.size) 0 ls W_∧OwnR W_ w.heap.size 65 26 A ls.length ca (lettersC 200 ls)) (show _=some (22,[(pt sb 0),i6 0],some 97,[true=true])by kernel_rfl) ⟨rfl,tI⟩ (fun wx hm=>?_) (fun y_ W20 hX20 hm20=>?_)
  ·have hm0_:=(MemOk.bck hm7 hm)
   have f_q:=(AwQ.stb _ _ _ _ f19_q hm.kept (turned_tys hm7) rfl)
   have o_l:=(o7_l.keptT hm.kept (turned_tys hm7) rfl)
   refine(aw_nought wx f_q).mono fun e w' hq_=>?_
   obtain⟨he_,nf_q,h3_⟩:=hq_
   exact⟨(),he_,⟨nf_q,(o_l.keptT h3_ (fun _ h=>h.1) rfl)⟩,hm0_.offA (fun _ h=>h) h3_ (lawL_up hm0_.kept) (off_tys hm (es:=TL17) (fun _ h=>h.1) rfl)⟩
  obtain⟨f20_q,o20_l⟩:=hX20
  obtain⟨gO,cO,gr,cr,hl1,hc1,hl2,hc2,hl3,hc3,ht1,ht2,ht3⟩:=aw_rec0 f20_q
  refine holds_wins [⟨sb,2,[.slice (some ⟨gO,0,none⟩) 3 cO]⟩,⟨gO,0,[.slice (some ⟨gr,0,none⟩) 1 cr]⟩,⟨gr,4,[sT (⟨#[48,49,50,51,52,53,54,55,56,57,97,98,99,100,101,102]⟩)]⟩] (fun _ y hy=>?_) ?_
  ·simp only[List.mem_cons,List.not_mem_nil,or_false]at hy
   rcases hy with rfl|rfl|rfl
   ·exact⟨fun h=>tysIn_not rfl ht1 (turned_tys hm20 _ h),hl1,one_cell hc1⟩
   ·exact⟨fun h=>tysIn_not rfl ht2 (turned_tys hm20 _ h),hl2,one_cell hc2⟩
   ·exact⟨fun h=>tysIn_not rfl ht3 (turned_tys hm20 _ h),hl3,one_cell hc3⟩
  refine hgS 18 [oh3,oh0,oh1,oh1,oh1,⟨true,0,[⟨true,0,0,1⟩]⟩,⟨true,1,[]⟩,⟨true,0,[⟨true,1,0,1⟩]⟩,⟨true,1,[]⟩,oh1,⟨true,0,[⟨true,2,0,1⟩]⟩,oh1,oh3,oh0] [0] [tT,tT,tT,tT,tT,tT,oE ((0:Int)<=0∧0<((3:Nat):Int)),tT,tT,oE ((0:Int)<=0∧0<((1:Nat):Int)),tT,tT,tT,tT] [(sb,2,1),(gO,0,1),(gr,4,1)] [.code awk_n5] [] [⟨sb,2,[.slice (some ⟨gO,0,none⟩) 3 cO]⟩,⟨gO,0,[.slice (some ⟨gr,0,none⟩) 1 cr]⟩,⟨gr,4,[sT (⟨#[48,49,50,51,52,53,54,55,56,57,97,98,99,100,101,102]⟩)]⟩] W20.heap.size ?_
  refine hrt [] [.bool (ByteArray.toList (⟨#[48,49,50,51,52,53,54,55,56,57,97,98,99,100,101,102]⟩)==ByteArray.toList ⟨#[48,49,50,51,52,53,54,55,56,57,97,98,99,100,101,102]⟩)] [] ?_
  intro wx hm
  exact⟨ret_bool (beq_self_eq_true _),lawL_none (MemOk.bck hm20 hm).kept⟩
end Go.Proofs.YtcmpkkapkdlfhaaGreat
