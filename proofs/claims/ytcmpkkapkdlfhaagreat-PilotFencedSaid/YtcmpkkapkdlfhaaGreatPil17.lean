import Derived.Test.YtcmpkkapkdlfhaaGreatPil6
namespace Go.Proofs.YtcmpkkapkdlfhaaGreat
open Go.RowKit
set_option maxHeartbeats 4000000
set_option maxRecDepth 100000
def updP (AQ:PartM → AskM) (N sn:Int) (U:List PartM):List (Int × AskM):=U.map fun p=>((p.col + sn) % N,AQ p)
theorem updP_take {AQ:PartM → AskM} {N sn:Int} {U:List PartM} {i:Nat} {p:PartM} (h:U[i]? = some p):updP AQ N sn (U.take (i + 1)) = updP AQ N sn (U.take i) ++ [((p.col + sn) % N,AQ p)]:=by
 rw [List.take_add_one,h]; simp [updP]
theorem askFix {q:AskM} {s:Int} (h:q.stripe = s):{ q with stripe:=s } = q:=by subst h; rfl
theorem updP_len (AQ:PartM → AskM) (N sn:Int) (U:List PartM):(updP AQ N sn U).length = U.length:=by simp [updP]
section
variable (x:PilC) (pb:Nat) (now:Int) (W5:World) (c1 c2:Nat) (v0:Value) (U:List PartM) (AQ:PartM → AskM) (ub:Nat) (p:PartM)
def peu_v1:List Value:=[i6 ((AQ p).kind),i6 ((AQ p).stripe),i6 ((AQ p).epoch),i6 ((AQ p).seq),i6 ((AQ p).mask),i6 ((AQ p).node),i6 ((AQ p).oe),i6 ((AQ p).os),sT ((AQ p).block)]
@[simp] def peu_b1:List Bk:=[⟨pb,98,true,(PilC.cells { x with nx:=(.func (.func 112) #[(pt pb 0)] #[]),lg:=false,ud:=((pt ub 0)),ak:=v0 })⟩]
@[simp] def peu_b2:List Bk:=[⟨pb,98,true,(PilC.cells { x with nx:=(.func (.func 112) #[(pt pb 0)] #[]),lg:=false,ud:=((pt ub 0)),ak:=v0 })⟩,⟨W5.heap.size,59,true,(peu_v1 AQ p)⟩]
@[simp] def peu_b3 (v1:Value) (ub:Nat):List Bk:=[⟨pb,98,true,(PilC.cells { x with nx:=(.func (.func 112) #[(pt pb 0)] #[]),lg:=false,ud:=((pt ub 0)),ak:=v1 })⟩]
def peu_I (c:CM) (pb:Nat) (base:Nat) (now:Int) (A1:Option Addr) (A2:Option Addr) (c1:Nat) (c2:Nat) (L:List OneM) (U:List PartM) (AQ:PartM → AskM) (ub:Nat) (gP:Nat) (cU:Nat) (mk:Int) (te:Int) (ts:Int) (m:Nat) (st:St) (W0:World):Prop:=
 ∃ (i:Nat) (v0:Value) (z:Nat),m + i = U.length ∧ i ≤ U.length ∧ PilR W0 base x.lb x.cb (cmA c now (updP AQ x.N x.sn (U.take i))) (L ++ onesA now c.last (updP AQ x.N x.sn (U.take i))) v0 ∧ OwnR W0 base 178 7 (some ⟨ub,0,none⟩) 1 1 (updC x.sn mk te ts (.slice (some ⟨gP,0,none⟩) U.length cU) true) ∧ OwnR W0 base 180 4 (some ⟨gP,0,none⟩) U.length cU (flatV PartM.cells U) ∧ OwnR W0 base 3 1 A1 U.length c1 (flatV colC U) ∧ OwnR W0 base 59 9 A2 U.length c2 (flatV (fun p_=>(AQ p_).cells) U) ∧ st = ⟨[(0,(pt pb 0)),(1,i6 now),(4,.slice A1 U.length c1),(21,.slice A2 U.length c2),(22,i6 ((U.length:Nat):Int)),(23,i6 (i:Int))],(peu_b1 x pb v0 ub),[],z⟩
theorem peu_q9 (i:Nat) (v0:Value) (U:List PartM) (AQ:PartM → AskM) (ub:Nat) (p:PartM) (gA:Nat) (gB:Nat):Out.prune [0,1,4,21,22,23,28,29,35,36] (qList Tryz.prog 39 W5 (Turned (peu_b1 x pb v0 ub)) ((opsOf (getCode (bodyOf Tryz.f89) [1,1,1,0,0,1,1,0,0,1])).toList.take 9) ⟨[(0,(pt pb 0)),(1,i6 now),(4,.slice (some ⟨gA,0,none⟩) U.length c1),(6,i6 (i:Int)),(7,(pt W5.heap.size 0)),(21,.slice (some ⟨gB,0,none⟩) U.length c2),(22,i6 ((U.length:Nat):Int)),(23,i6 (i:Int))],(peu_b2 x pb W5 v0 AQ ub p),[⟨gB,0 + i * 9,(peu_v1 AQ p)⟩,⟨gA,0 + i * 1,[i6 p.col]⟩],W5.heap.size + 1⟩ [.op oh0,.op oh0,.op oh0,.op oh0,.op oh0,.op oh2,.op ⟨false,0,[⟨true,1,0,1⟩]⟩,.call (i6 ((p.col + x.sn) % x.N)),.op (oA 1 0 9)]) = some ⟨[(0:Int) ≤ (i:Int) ∧ (i:Int) < ((U.length:Nat):Int),∀ w',MemC W5 (Turned (peu_b1 x pb v0 ub)) (peu_b2 x pb W5 v0 AQ ub p) [⟨gB,0 + i * 9,(peu_v1 AQ p)⟩,⟨gA,0 + i * 1,[i6 p.col]⟩] (W5.heap.size + 1) w' → Calls Tryz.prog 81 #[(pt pb 0),i6 p.col] w' (RetK (i6 ((p.col + x.sn) % x.N)) w')],dupR [(gA,0 + i * 1,1),(W5.heap.size,0,9)],⟨[(0,(pt pb 0)),(1,i6 now),(4,.slice (some ⟨gA,0,none⟩) U.length c1),(21,.slice (some ⟨gB,0,none⟩) U.length c2),(22,i6 ((U.length:Nat):Int)),(23,i6 (i:Int)),(28,(pt pb 0)),(29,i6 now),(35,i6 ((p.col + x.sn) % x.N)),(36,.agg (List.toArray (peu_v1 AQ p)))],(peu_b2 x pb W5 v0 AQ ub p),[⟨gB,0 + i * 9,(peu_v1 AQ p)⟩,⟨gA,0 + i * 1,[i6 p.col]⟩],W5.heap.size + 1⟩⟩:=by kernel_rfl
end
theorem pilX_enterUpdate (x:PilC) (c:CM) (L:List OneM) (pb:Nat) (base:Nat) (U:List PartM) (AQ:PartM → AskM) (hAQ:∀ p,(AQ p).stripe = x.sn) (ub gP cU:Nat) (mk te ts:Int) (bg:Bool) (now:Int) (hg:3 ≤ x.N ∧ x.N ≤ 6 ∧ 1 ≤ x.S ∧ x.S ≤ 8) (hs:0 ≤ x.sn ∧ x.sn < x.S) (hcol:∀ p ∈ U,0 ≤ p.col ∧ p.col < x.N) (hU:U.length ≤ 6) (hnow:0 ≤ now ∧ now ≤ 1099511627776) (hcl:0 ≤ c.last ∧ c.last + 6 < 1099511627776) (hLl:L.length ≤ 20) (hAs:∀ wx,OwnR wx base 178 7 (some ⟨ub,0,none⟩) 1 1 (updC x.sn mk te ts (.slice (some ⟨gP,0,none⟩) U.length cU) bg) → OwnR wx base 180 4 (some ⟨gP,0,none⟩) U.length cU (flatV PartM.cells U) → base ≤ wx.heap.size → Calls Tryz.prog 113 #[.pointer (some ⟨ub,0,none⟩)] wx (fun e w'=>∃ A1 c1 A2 c2,e = .returned (.tuple #[.slice A1 U.length c1,.slice A2 U.length c2]) ∧ OwnR w' base 3 1 A1 U.length c1 (flatV colC U) ∧ OwnR w' base 59 9 A2 U.length c2 (flatV (fun p_=>(AQ p_).cells) U) ∧ OwnR w' base 178 7 (some ⟨ub,0,none⟩) 1 1 (updC x.sn mk te ts (.slice (some ⟨gP,0,none⟩) U.length cU) true) ∧ Kept (ownS (some ⟨ub,0,none⟩)) wx w')) (w:World) (hX:PilX w base pb ({ x with ud:=(.pointer (some ⟨ub,0,none⟩)) }) c L) (h_ud:OwnR w base 178 7 (some ⟨ub,0,none⟩) 1 1 (updC x.sn mk te ts (.slice (some ⟨gP,0,none⟩) U.length cU) bg)) (h_pt:OwnR w base 180 4 (some ⟨gP,0,none⟩) U.length cU (flatV PartM.cells U)) (hb0:base ≤ w.heap.size) :
  Calls Tryz.prog 89 #[.pointer (some ⟨pb,0,none⟩),i6 now] w (fun e w'=>e = .returned (.tuple #[]) ∧ PilX w' base pb ({ x with nx:=.func (.func 112) #[.pointer (some ⟨pb,0,none⟩)] #[],lg:=false,ud:=.pointer (some ⟨ub,0,none⟩) }) (cmA c now (updP AQ x.N x.sn U)) (L ++ onesA now c.last (updP AQ x.N x.sn U)) ∧ OwnR w' base 178 7 (some ⟨ub,0,none⟩) 1 1 (updC x.sn mk te ts (.slice (some ⟨gP,0,none⟩) U.length cU) true) ∧ OwnR w' base 180 4 (some ⟨gP,0,none⟩) U.length cU (flatV PartM.cells U) ∧ Kept (PilT [141,178] base x.lb pb x.cb w) w w'):=by
 obtain ⟨v,hP,hR⟩:=hX
 have hPT:=blk_ty hP
 refine cH (S:=(fun y=>y = pb)) (n:=39) Tryz.func89 (MemOk.startP hP) ?_
 refine hgS 8 (dz 3 0) [0,1,8,10] [] [] [.ops [0] [3],.code [1]] [⟨pb,98,true,(PilC.cells { x with ud:=((pt ub 0)),ak:=v })⟩] [] w.heap.size ?_
 refine hcV (w:=w) (S':=(PilT [141,178] base x.lb pb x.cb w)) (Y:=Value) (fun v1=>.tuple #[]) (fun v1=>(peu_b3 x pb v1 ub)) (fun v1 W_=>PilR W_ base x.lb x.cb ({ c with opn:=[] }) L v1 ∧ OwnR W_ base 178 7 (some ⟨ub,0,none⟩) 1 1 (updC x.sn mk te ts (.slice (some ⟨gP,0,none⟩) U.length cU) bg) ∧ OwnR W_ base 180 4 (some ⟨gP,0,none⟩) U.length cU (flatV PartM.cells U)) (show _ = some (53,[(pt pb 0),.func (.func 112) #[(pt pb 0)] #[]],some 11,[]) by kernel_rfl) tI (fun wx hm=>?_) (fun v1 W1 hX1 hm1=>?_)
 ·have hm0_:=(hm.wide (S':=PilT [141,178] base x.lb pb x.cb w) (fun _ h=>.inl h))
  have hb1:base ≤ wx.heap.size:=Nat.le_trans hb0 hm0_.kept.size
  have hR_:=(hR.keptT (es:=[98]) hm.kept (fun y hy=>by subst hy; exact ⟨98,by simp,hPT⟩) rfl rfl rfl)
  have h_ud_:=(h_ud.keptT (es:=[98]) hm.kept (fun y hy=>by subst hy; exact ⟨98,by simp,hPT⟩) rfl)
  have h_pt_:=(h_pt.keptT (es:=[98]) hm.kept (fun y hy=>by subst hy; exact ⟨98,by simp,hPT⟩) rfl)
  have hX0:PilX wx base pb ({ x with ud:=((pt ub 0)),ak:=v }) c L:=⟨_,hm.at_ 0 rfl,hR_⟩
  refine (pilX_enter (.func 112) #[(pt pb 0)] #[] hX0).mono fun e w' hq_=>?_
  obtain ⟨he_,⟨v_,hB_,hR_2⟩,h3_⟩:=hq_
  have hT_:=hX0.tys (es:=[])
  exact ⟨v_,he_,⟨hR_2,(h_ud_.keptT h3_ hT_ rfl),(h_pt_.keptT h3_ hT_ rfl)⟩,hm0_.turnP h3_ (pilT_up hm0_.kept rfl) hB_ (off_tysP hm hT_ rfl)⟩
 obtain ⟨hR1,h1_ud,h1_pt⟩:=hX1
 refine hgS 11 (dz 5 5436342272) [0,1,17] [] [(pb,68,1)] [.ops [1,0] [5,6,7,8,9,10],.code [1,1]] (peu_b3 x pb v1 ub) [] W1.heap.size ?_
 refine hcV (w:=w) (S':=(PilT [141,178] base x.lb pb x.cb w)) (Y:=Option Addr × Nat × Option Addr × Nat) (fun yq=>.tuple #[.slice yq.1 U.length yq.2.1,.slice yq.2.2.1 U.length yq.2.2.2]) (fun yq=>(peu_b3 x pb v1 ub)) (fun yq W_=>PilR W_ base x.lb x.cb ({ c with opn:=[] }) L v1 ∧ OwnR W_ base 178 7 (some ⟨ub,0,none⟩) 1 1 (updC x.sn mk te ts (.slice (some ⟨gP,0,none⟩) U.length cU) true) ∧ OwnR W_ base 180 4 (some ⟨gP,0,none⟩) U.length cU (flatV PartM.cells U) ∧ OwnR W_ base 3 1 yq.1 U.length yq.2.1 (flatV colC U) ∧ OwnR W_ base 59 9 yq.2.2.1 U.length yq.2.2.2 (flatV (fun p_=>(AQ p_).cells) U)) (show _ = some (113,[(pt ub 0)],some 18,[]) by kernel_rfl) tI (fun wx hm=>?_) (fun yq W2 hX2 hm2=>?_)
 ·have hm0_:=(MemOk.bck hm1 hm)
  have hb1:base ≤ wx.heap.size:=Nat.le_trans hb0 hm0_.kept.size
  have hR_:=(hR1.keptT hm.kept (turned_tys hm1) rfl rfl rfl)
  have h_ud_:=(h1_ud.keptT hm.kept (turned_tys hm1) rfl)
  have h_pt_:=(h1_pt.keptT hm.kept (turned_tys hm1) rfl)
  have hX0:PilX wx base pb ({ x with nx:=(.func (.func 112) #[(pt pb 0)] #[]),lg:=false,ud:=((pt ub 0)),ak:=v1 }) ({ c with opn:=[] }) L:=⟨_,hm.at_ 0 rfl,hR_⟩
  refine (hAs wx h_ud_ h_pt_ hb1).mono fun e w' hq_=>?_
  obtain ⟨A1,c1,A2,c2,he_,ho_co,ho_as,ho_ud,h3_⟩:=hq_
  have hT_:∀ y,ownS (some ⟨ub,0,none⟩) y → TysIn [178] wx y:=fun y hy=>⟨178,by simp,h_ud_.ty y hy⟩
  exact ⟨(A1,c1,A2,c2),he_,⟨(hR_.keptT h3_ hT_ rfl rfl rfl),ho_ud,(h_pt_.keptT h3_ hT_ rfl),ho_co,ho_as⟩,hm0_.offA (fun _ h=>h) h3_ (fun y hy=>pilT_in hm0_.kept (h_ud_.own y hy).1 (hT_ y hy) rfl) (off_tys hm hT_ rfl)⟩
 obtain ⟨A1,c1,A2,c2⟩:=yq
 obtain ⟨hR2,h2_ud,h2_pt,h2_co,h2_as⟩:=hX2
 refine hgE 16 (dz 8 0) [0,1,4,21,22,23] [] [] [.code [1,1,1,0],.blk 0] ⟨[(0,(pt pb 0)),(1,i6 now),(4,.slice A1 U.length c1),(21,.slice A2 U.length c2),(22,i6 ((U.length:Nat):Int)),(23,i6 0)],(peu_b3 x pb v1 ub),[],W2.heap.size⟩ ?_
 have hR3:PilR W2 base x.lb x.cb (cmA c now (updP AQ x.N x.sn [])) (L ++ onesA now c.last (updP AQ x.N x.sn [])) v1:=by
  have hc_:({ c with opn:=[] }:CM) = cmA c now (updP AQ x.N x.sn []):=cmA_nil c now
  have hL_:(L:List OneM) = L ++ onesA now c.last (updP AQ x.N x.sn []):=by simp [updP,onesA]
  rw [← hc_,← hL_]
  exact hR2
 have hR4:PilR W2 base x.lb x.cb (cmA c now (updP AQ x.N x.sn (U.take 0))) (L ++ onesA now c.last (updP AQ x.N x.sn (U.take 0))) v1:=by
  have hc_:(cmA c now (updP AQ x.N x.sn []):CM) = cmA c now (updP AQ x.N x.sn (U.take 0)):=rfl
  have hL_:(L ++ onesA now c.last (updP AQ x.N x.sn []):List OneM) = L ++ onesA now c.last (updP AQ x.N x.sn (U.take 0)):=rfl
  rw [← hc_,← hL_]
  exact hR3
 refine holds_loopW (w:=w) (S':=PilT [141,178] base x.lb pb x.cb w) (peu_I x c pb base now A1 A2 c1 c2 L U AQ ub gP cU mk te ts) U.length (by kernel_rfl) (fun W0 hm=>⟨⟨0,v1,_,by omega,by omega,(hR4.keptT hm.kept (turned_tys hm2) rfl rfl rfl),(h2_ud.keptT hm.kept (turned_tys hm2) rfl),(h2_pt.keptT hm.kept (turned_tys hm2) rfl),(h2_co.keptT hm.kept (turned_tys hm2) rfl),(h2_as.keptT hm.kept (turned_tys hm2) rfl),rfl⟩,(MemOk.bck hm2 hm)⟩) ?_
 rintro m _ W5 ⟨i,v0,z,hh5_0,hh5_1,hR5,h5_ud,h5_pt,h5_co,h5_as,rfl⟩ hm5 J hJ
 by_cases h1:i < U.length
 rotate_left
 ·skip
  have hR6:PilR W5 base x.lb x.cb (cmA c now (updP AQ x.N x.sn U)) (L ++ onesA now c.last (updP AQ x.N x.sn U)) v0:=by
   have hc_:(cmA c now (updP AQ x.N x.sn (U.take i)):CM) = cmA c now (updP AQ x.N x.sn U):=by rw [List.take_of_length_le (by omega)]
   have hL_:(L ++ onesA now c.last (updP AQ x.N x.sn (U.take i)):List OneM) = L ++ onesA now c.last (updP AQ x.N x.sn U):=by rw [List.take_of_length_le (by omega)]
   rw [← hc_,← hL_]
   exact hR5
  refine hgE 10 (dz 2 0) [] [dF (((i:Int):Int) < ((U.length:Nat):Int))] [] [] ⟨[],(peu_b1 x pb v0 ub),[],W5.heap.size⟩ ?_
  refine holds_end [] (show _ = some ([],dupR []) by kernel_rfl) ?_
  intro wx hm
  exact ⟨rfl,⟨_,hm.at_ 0 rfl,(hR6.keptT hm.kept (turned_tys hm5) rfl rfl rfl)⟩,(h5_ud.keptT hm.kept (turned_tys hm5) rfl),(h5_pt.keptT hm.kept (turned_tys hm5) rfl),(MemOk.bck hm5 hm).kept⟩
 obtain ⟨p,hk⟩:∃ p,U[i]? = some p:=⟨_,List.getElem?_eq_getElem h1⟩
 have hkb:=hcol p (List.mem_of_getElem? hk)
 have hAsz:=fun y hy=>(h5_as.own y hy).2
 obtain ⟨gA,rfl,_⟩:=OwnR.cell (j:=i * 1 + 0) (v:=i6 p.col) h5_co (flatV_get (f:=colC) (fun _=>rfl) hk (by decide))
 obtain ⟨gB,rfl,_⟩:=OwnR.cell (j:=i * 9 + 0) (v:=i6 ((AQ p).kind)) h5_as (flatV_get (f:=(fun p_=>(AQ p_).cells)) (fun _=>rfl) hk (by decide))
 refine holds_wins [⟨gB,0 + i * 9,(peu_v1 AQ p)⟩,⟨gA,0 + i * 1,[i6 p.col]⟩] (fun _ y hy=>?_) ?_
 ·simp only [List.mem_cons,List.not_mem_nil,or_false] at hy
  rcases hy with rfl | rfl
  ·exact ⟨fun h=>tysIn_not rfl (h5_as.ty gB ⟨_,rfl,rfl⟩) (turned_tys hm5 _ h),(h5_as.own gB ⟨_,rfl,rfl⟩).2,own_elem (f:=(fun p_=>(AQ p_).cells)) (fun _=>rfl) h5_as hk⟩
  ·exact ⟨fun h=>tysIn_not rfl (h5_co.ty gA ⟨_,rfl,rfl⟩) (turned_tys hm5 _ h),(h5_co.own gA ⟨_,rfl,rfl⟩).2,own_elem (f:=colC) (fun _=>rfl) h5_co hk⟩
 refine hgE 21 [oh0,oh1,oh0,oh2,⟨false,0,[⟨true,0,0,9⟩]⟩,oh0,oh0,(oA 1 0 9)] [0,1,4,6,7,21,22,23] [dT (((i:Int):Int) < ((U.length:Nat):Int)),oE ((0:Int) ≤ (i:Int) ∧ (i:Int) < ((U.length:Nat):Int))] [(gB,0 + i * 9,9),(W5.heap.size,0,9)] [.code [1,1,1,0,0,1,1,0,0,1],.blk 1,.code [1,1,1,0,0,1,1,1],.inv J,.blk 0] ⟨[(0,(pt pb 0)),(1,i6 now),(4,.slice (some ⟨gA,0,none⟩) U.length c1),(6,i6 (i:Int)),(7,(pt W5.heap.size 0)),(21,.slice (some ⟨gB,0,none⟩) U.length c2),(22,i6 ((U.length:Nat):Int)),(23,i6 (i:Int))],(peu_b2 x pb W5 v0 AQ ub p),[⟨gB,0 + i * 9,(peu_v1 AQ p)⟩,⟨gA,0 + i * 1,[i6 p.col]⟩],W5.heap.size + 1⟩ ?_
 refine holds_draw (f:=1) (ls:=(bA 10 511)) 9 _ _ (by kernel_rfl) (by kernel_rfl) (by kernel_rfl) (by kernel_rfl) (peu_q9 x pb now W5 c1 c2 i v0 U AQ ub p gA gB) ⟨⟨by omega,by omega⟩,(fun wx hm=>pil_node ({ x with nx:=(.func (.func 112) #[(pt pb 0)] #[]),lg:=false,ud:=((pt ub 0)),ak:=v0 }) pb p.col hg hs (by omega) wx (hm.2.at_ 0 rfl)),trivial⟩ fun z9 hz9=>?_
 replace hz9:W5.heap.size + 1 ≤ z9:=hz9
 refine holds_wins [] (fun _ _ h=>by cases h) ?_
 refine holds_callAnyU (i:=9) (ls':=(bA 10 1023)) (w:=w) (S':=(PilT [141,178] base x.lb pb x.cb w)) (Y:=Value) (fun v7=>.tuple #[]) (fun v7=>[⟨pb,98,true,(PilC.cells { x with nx:=(.func (.func 112) #[(pt pb 0)] #[]),lg:=false,ud:=((pt ub 0)),ak:=v7 })⟩,⟨W5.heap.size,59,true,(peu_v1 AQ p)⟩]) (fun v7 W_=>PilR W_ base x.lb x.cb (askC (cmA c now (updP AQ x.N x.sn (U.take i))) now ((p.col + x.sn) % x.N) { AQ p with stripe:=x.sn }) ((L ++ onesA now c.last (updP AQ x.N x.sn (U.take i))) ++ [⟨((p.col + x.sn) % x.N),(cmA c now (updP AQ x.N x.sn (U.take i))).last + 1,{ AQ p with stripe:=x.sn },within14 now,within14 now⟩]) v7 ∧ OwnR W_ base 178 7 (some ⟨ub,0,none⟩) 1 1 (updC x.sn mk te ts (.slice (some ⟨gP,0,none⟩) U.length cU) true) ∧ OwnR W_ base 180 4 (some ⟨gP,0,none⟩) U.length cU (flatV PartM.cells U) ∧ OwnR W_ base 3 1 (some ⟨gA,0,none⟩) U.length c1 (flatV colC U) ∧ OwnR W_ base 59 9 (some ⟨gB,0,none⟩) U.length c2 (flatV (fun p_=>(AQ p_).cells) U)) (fun v7=>[(37,.tuple #[]),(0,(pt pb 0)),(1,i6 now),(4,.slice (some ⟨gA,0,none⟩) U.length c1),(21,.slice (some ⟨gB,0,none⟩) U.length c2),(22,i6 ((U.length:Nat):Int)),(23,i6 (i:Int)),(28,(pt pb 0)),(29,i6 now),(35,i6 ((p.col + x.sn) % x.N)),(36,.agg (List.toArray (peu_v1 AQ p)))]) (by kernel_rfl) (by kernel_rfl) (show _ = some (55,[(pt pb 0),i6 now,i6 ((p.col + x.sn) % x.N),.agg (List.toArray (peu_v1 AQ p))],some 37,[]) by kernel_rfl) tI (fun _=>rfl) (fun wx hm=>?_) (fun v7 W7 hX7 hm7=>?_)
 ·have hm0_:=(MemOk.bck hm5 hm)
  have hb1:base ≤ wx.heap.size:=Nat.le_trans hb0 hm0_.kept.size
  have hR_:=(hR5.keptT hm.kept (turned_tys hm5) rfl rfl rfl)
  have h_ud_:=(h5_ud.keptT hm.kept (turned_tys hm5) rfl)
  have h_pt_:=(h5_pt.keptT hm.kept (turned_tys hm5) rfl)
  have h_co_:=(h5_co.keptT hm.kept (turned_tys hm5) rfl)
  have h_as_:=(h5_as.keptT hm.kept (turned_tys hm5) rfl)
  have hX0:PilX wx base pb ({ x with nx:=(.func (.func 112) #[(pt pb 0)] #[]),lg:=false,ud:=((pt ub 0)),ak:=v0 }) (cmA c now (updP AQ x.N x.sn (U.take i))) (L ++ onesA now c.last (updP AQ x.N x.sn (U.take i))):=⟨_,hm.at_ 0 rfl,hR_⟩
  refine (pilX_ask now ((p.col + x.sn) % x.N) (AQ p) hX0 ⟨by simp only [cmA,onesA_len,updP_len,List.length_take]; omega,by simp only [cmA,updP_len,List.length_take]; omega,Int.emod_nonneg _ (by omega),Int.lt_trans (Int.emod_lt_of_pos _ (by omega)) (by omega)⟩ (by simp only [List.length_append,onesA_len,updP_len,List.length_take]; omega) hb1).mono fun e w' hq_=>?_
  obtain ⟨he_,⟨v_,hB_,hR_2⟩,h3_⟩:=hq_
  have hT_:=hX0.tys (es:=[141])
  exact ⟨v_,he_,⟨hR_2,(h_ud_.keptT h3_ hT_ rfl),(h_pt_.keptT h3_ hT_ rfl),(h_co_.keptT h3_ hT_ rfl),(h_as_.keptT h3_ hT_ rfl)⟩,hm0_.turnP h3_ (pilT_up hm0_.kept rfl) hB_ (off_tysP hm hT_ rfl)⟩
 obtain ⟨hR7,h7_ud,h7_pt,h7_co,h7_as⟩:=hX7
 refine holds_done (by kernel_rfl) ?_
 have hR8:PilR W7 base x.lb x.cb (cmA c now (updP AQ x.N x.sn (U.take (i + 1)))) (L ++ onesA now c.last (updP AQ x.N x.sn (U.take (i + 1)))) v7:=by
  have hc_:(askC (cmA c now (updP AQ x.N x.sn (U.take i))) now ((p.col + x.sn) % x.N) { AQ p with stripe:=x.sn }:CM) = cmA c now (updP AQ x.N x.sn (U.take (i + 1))):=by rw [askFix (hAQ p),cmA_snoc c _ _ _ hnow,updP_take hk]
  have hL_:((L ++ onesA now c.last (updP AQ x.N x.sn (U.take i))) ++ [⟨((p.col + x.sn) % x.N),(cmA c now (updP AQ x.N x.sn (U.take i))).last + 1,{ AQ p with stripe:=x.sn },within14 now,within14 now⟩]:List OneM) = L ++ onesA now c.last (updP AQ x.N x.sn (U.take (i + 1))):=by rw [askFix (hAQ p),onesA_ask c _ _ _ L hnow,updP_take hk]
  rw [← hc_,← hL_]
  exact hR7
 refine holds_go (f:=8) (hs:=[oh2,oh0]) [0,1,4,21,22,23] [true,false] (show _ = some (Res.mk [inR .i64 (((i:Int) + 1))] (dupR []) [.inv J,.blk 0] ⟨[(0,(pt pb 0)),(1,i6 now),(4,.slice (some ⟨gA,0,none⟩) U.length c1),(21,.slice (some ⟨gB,0,none⟩) U.length c2),(22,i6 ((U.length:Nat):Int)),(23,i6 ((i:Int) + 1))],[⟨pb,98,true,(PilC.cells { x with nx:=(.func (.func 112) #[(pt pb 0)] #[]),lg:=false,ud:=((pt ub 0)),ak:=v7 })⟩],[],W7.heap.size⟩) by kernel_rfl) ⟨in64 (by omega),trivial⟩ ?_
 rw [← cast_succ i]
 intro a_ w9 hf hm
 exact hJ (m - 1) _ a_ w9 (by omega) ⟨i + 1,v7,_,by omega,by omega,(hR8.keptT hm.kept (turned_tys hm7) rfl rfl rfl),(h7_ud.keptT hm.kept (turned_tys hm7) rfl),(h7_pt.keptT hm.kept (turned_tys hm7) rfl),(h7_co.keptT hm.kept (turned_tys hm7) rfl),(h7_as.kept hm.kept (fun y hy ⟨b,hb,hr,he⟩=>by
  have h8:=hAsz y hy
  simp only [List.mem_cons,List.not_mem_nil,or_false] at hb
  rcases hb with rfl | rfl
  ·exact ty_off (h7_as.ty y hy) he (blk_ty (hm7.at_ 0 rfl)) rfl
  ·dsimp only at he; omega)),rfl⟩ hf (MemOk.bck hm7 hm)
section
variable (x:PilC) (pb:Nat) (w:World) (v:Value) (ub:Nat) (ep ou:Int) (q:AskM) (r:RecM)
def pou_v1:List Value:=[i6 q.kind,i6 q.stripe,i6 q.epoch,i6 q.seq,i6 q.mask,i6 q.node,i6 q.oe,i6 q.os,sT q.block]
def pou_v2:List Value:=[i6 1,i6 ep,i6 ou,.bool r.used,i6 r.fence,i6 r.de,i6 r.ds,sT r.block,.bool r.op,i6 r.ie,i6 r.is,i6 r.mask,sT r.staged]
@[simp] def pou_b1:List Bk:=[⟨pb,98,true,(PilC.cells { x with ud:=((pt ub 0)),ak:=v })⟩,⟨w.heap.size,59,true,(pou_v1 q)⟩,⟨w.heap.size + 1,63,true,(pou_v2 ep ou r)⟩]
theorem pou_q4 (now:Int) (w:World) (v:Value) (i:Nat) (ub:Nat) (fr:Int) (ep:Int) (ou:Int) (q:AskM) (r:RecM) (z2:Nat):Out.prune [0,1,19,22,24,26] (qList Tryz.prog 49 w (fun y=>y = pb) ((opsOf (getCode (bodyOf Tryz.f112) [1,1,0])).toList.take 12) ⟨[(0,(pt pb 0)),(1,i6 now),(2,i6 fr),(8,(pt w.heap.size 0)),(9,(pt (w.heap.size + 1) 0))],(pou_b1 x pb w v ub ep ou q r),[],z2⟩ [.op oh0,.op oh0,.op oh0,.op oh0,.op (oA 0 68 1),.op oh0,.op oh0,.call (i6 (i:Int)),.op oh0,.op (oA 1 0 1),.op oh0,.op (oA 2 0 1)]) = some ⟨[∀ w',MemC w (fun y=>y = pb) (pou_b1 x pb w v ub ep ou q r) [] z2 w' → Calls Tryz.prog 46 #[(pt pb 0),i6 fr] w' (RetK (i6 (i:Int)) w')],dupR [(pb,68,1),(w.heap.size,0,1),(w.heap.size + 1,0,1)],⟨[(0,(pt pb 0)),(1,i6 now),(19,(pt ub 0)),(22,i6 (i:Int)),(24,i6 q.kind),(26,i6 1)],(pou_b1 x pb w v ub ep ou q r),[],z2⟩⟩:=by kernel_rfl
end
theorem pilX_onUpdate (x:PilC) (c:CM) (L:List OneM) (pb:Nat) (base:Nat) (E:World → Prop) (hE:∀ w w',E w → Kept (fun _=>False) w w' → E w') (U U2:List PartM) (hU2:U2.length = U.length) (hU8:U.length ≤ 6) (ub gP cU i:Nat) (mk te ts:Int) (bg:Bool) (now fr ep ou:Int) (q:AskM) (r:RecM) (hg:3 ≤ x.N ∧ x.N ≤ 6 ∧ 1 ≤ x.S ∧ x.S ≤ 8) (hs:0 ≤ x.sn ∧ x.sn < x.S) (hfr:0 ≤ fr ∧ fr < x.N) (hic:(fr + x.N - x.sn % x.N) % x.N = (i:Int)) (hsaid:∀ wx,OwnR wx base 178 7 (some ⟨ub,0,none⟩) 1 1 (updC x.sn mk te ts (.slice (some ⟨gP,0,none⟩) U.length cU) bg) → OwnR wx base 180 4 (some ⟨gP,0,none⟩) U.length cU (flatV PartM.cells U) → Calls Tryz.prog 123 #[.pointer (some ⟨ub,0,none⟩),i6 (i:Int),i6 q.kind,i6 1] wx (fun e w'=>e = .returned (.tuple #[]) ∧ OwnR w' base 180 4 (some ⟨gP,0,none⟩) U.length cU (flatV PartM.cells U2) ∧ Kept (ownS (some ⟨gP,0,none⟩)) wx w')) (hmore:c.opn.length ≠ 0 → ∀ wx,PilX wx base pb ({ x with ud:=(.pointer (some ⟨ub,0,none⟩)) }) c L → OwnR wx base 178 7 (some ⟨ub,0,none⟩) 1 1 (updC x.sn mk te ts (.slice (some ⟨gP,0,none⟩) U.length cU) bg) → OwnR wx base 180 4 (some ⟨gP,0,none⟩) U.length cU (flatV PartM.cells U2) → E wx) (hlast:c.opn.length = 0 → (stateL U2 2 = 1 ∧ ∀ wx,PilX wx base pb ({ x with ud:=(.pointer (some ⟨ub,0,none⟩)) }) c L → OwnR wx base 178 7 (some ⟨ub,0,none⟩) 1 1 (updC x.sn mk te ts (.slice (some ⟨gP,0,none⟩) U.length cU) bg) → OwnR wx base 180 4 (some ⟨gP,0,none⟩) U.length cU (flatV PartM.cells U2) → base ≤ wx.heap.size → Calls Tryz.prog 89 #[.pointer (some ⟨pb,0,none⟩),i6 now] wx (fun e w'=>e = .returned (.tuple #[]) ∧ E w' ∧ Kept (PilT [141,178] base x.lb pb x.cb wx) wx w')) ∨ (stateL U2 2 = 2 ∧ (0 ≤ x.ed ∧ x.ed < 1099511627776) ∧ ∀ wx,PilX wx base pb (({ x with ud:=(.pointer (some ⟨ub,0,none⟩)) }).ended 0 ⟨#[]⟩) { c with opn:=[] } L → (∀ base',PartyX 124 141 wx base' x.cb { c with opn:=[] }) → E wx)) (w:World) (hX:PilX w base pb ({ x with ud:=(.pointer (some ⟨ub,0,none⟩)) }) c L) (h_ud:OwnR w base 178 7 (some ⟨ub,0,none⟩) 1 1 (updC x.sn mk te ts (.slice (some ⟨gP,0,none⟩) U.length cU) bg)) (h_pt:OwnR w base 180 4 (some ⟨gP,0,none⟩) U.length cU (flatV PartM.cells U)) (hb0:base ≤ w.heap.size) :
  Calls Tryz.prog 112 #[.pointer (some ⟨pb,0,none⟩),i6 now,i6 fr,.agg #[i6 q.kind,i6 q.stripe,i6 q.epoch,i6 q.seq,i6 q.mask,i6 q.node,i6 q.oe,i6 q.os,sT q.block],.agg #[i6 1,i6 ep,i6 ou,.bool r.used,i6 r.fence,i6 r.de,i6 r.ds,sT r.block,.bool r.op,i6 r.ie,i6 r.is,i6 r.mask,sT r.staged]] w (fun e w'=>e = .returned (.tuple #[]) ∧ E w' ∧ Kept (PilT [141,178,180] base x.lb pb x.cb w) w w'):=by
 obtain ⟨v,hP,hR⟩:=hX
 have hPT:=blk_ty hP
 refine cH (S:=(fun y=>y = pb)) (n:=49) Tryz.func112 (MemOk.startP hP) ?_
 refine hgS 15 (dz 6 0xd002800000) [0,1,2,8,9,10,11,12,13] [] [(w.heap.size + 1,0,13)] [.ops [1,0,0] [4],.code [1,0,1],.code [1,1]] (pou_b1 x pb w v ub ep ou q r) [] (w.heap.size + 2) ?_
 refine hcq (.bool false) _ _ (some 14) [] tI rfl (fun wx hm=>pil_refusedN pb now fr ep ou r wx) fun z2 hz2=>?_
 refine hgE 7 [oh0] [0,1,2,8,9] [fF] [] [.code [1,1,0],.code [1,1,1]] ⟨[(0,(pt pb 0)),(1,i6 now),(2,i6 fr),(8,(pt w.heap.size 0)),(9,(pt (w.heap.size + 1) 0))],(pou_b1 x pb w v ub ep ou q r),[],z2⟩ ?_
 refine holds_draw (f:=1) (ls:=(bA 13 4095)) 12 _ _ (by kernel_rfl) (by kernel_rfl) (by kernel_rfl) (by kernel_rfl) (pou_q4 x pb now w v i ub fr ep ou q r z2) ⟨(fun wx hm=>by rw [← hic]; exact pil_column ({ x with ud:=((pt ub 0)),ak:=v }) pb fr hg hs hfr wx (hm.2.at_ 0 rfl)),trivial⟩ fun z4 hz4=>?_
 replace hz4:z2 ≤ z4:=hz4
 refine holds_callAnyU (i:=12) (ls':=(bA 13 8191)) (w:=w) (S':=(PilT [141,178,180] base x.lb pb x.cb w)) (Y:=Unit) (fun _=>.tuple #[]) (fun _=>(pou_b1 x pb w v ub ep ou q r)) (fun _ W_=>PilR W_ base x.lb x.cb c L v ∧ OwnR W_ base 178 7 (some ⟨ub,0,none⟩) 1 1 (updC x.sn mk te ts (.slice (some ⟨gP,0,none⟩) U.length cU) bg) ∧ OwnR W_ base 180 4 (some ⟨gP,0,none⟩) U.length cU (flatV PartM.cells U2)) (fun _=>[(27,.tuple #[]),(0,(pt pb 0)),(1,i6 now),(19,(pt ub 0)),(22,i6 (i:Int)),(24,i6 q.kind),(26,i6 1)]) (by kernel_rfl) (by kernel_rfl) (show _ = some (123,[(pt ub 0),i6 (i:Int),i6 q.kind,i6 1],some 27,[]) by kernel_rfl) tI (fun _=>rfl) (fun wx hm=>?_) (fun y_ W1 hX1 hm1=>?_)
 ·have hm0_:=(hm.wide (S':=PilT [141,178,180] base x.lb pb x.cb w) (fun _ h=>.inl h))
  have hb1:base ≤ wx.heap.size:=Nat.le_trans hb0 hm0_.kept.size
  have hR_:=(hR.keptT (es:=[98]) hm.kept (fun y hy=>by subst hy; exact ⟨98,by simp,hPT⟩) rfl rfl rfl)
  have h_ud_:=(h_ud.keptT (es:=[98]) hm.kept (fun y hy=>by subst hy; exact ⟨98,by simp,hPT⟩) rfl)
  have h_pt_:=(h_pt.keptT (es:=[98]) hm.kept (fun y hy=>by subst hy; exact ⟨98,by simp,hPT⟩) rfl)
  have hX0:PilX wx base pb ({ x with ud:=((pt ub 0)),ak:=v }) c L:=⟨_,hm.at_ 0 rfl,hR_⟩
  refine (hsaid wx h_ud_ h_pt_).mono fun e w' hq_=>?_
  obtain ⟨he_,ho_pt,h3_⟩:=hq_
  have hT_:∀ y,ownS (some ⟨gP,0,none⟩) y → TysIn [180] wx y:=fun y hy=>⟨180,by simp,h_pt_.ty y hy⟩
  exact ⟨(),he_,⟨(hR_.keptT h3_ hT_ rfl rfl rfl),(h_ud_.keptT h3_ hT_ rfl),ho_pt⟩,hm0_.offA (fun _ h=>h) h3_ (fun y hy=>pilT_in hm0_.kept (h_pt_.own y hy).1 (hT_ y hy) rfl) (off_tys hm hT_ rfl)⟩
 obtain ⟨hR1,h1_ud,h1_pt⟩:=hX1
 refine holds_done (by kernel_rfl) ?_
 refine hgE 10 (dz 4 270565376) [0,1,31] [] [(pb,2,1)] [.ops [1,1,1,0,0] [4,5],.code [1,1,1,0,1],.code [1,1,1,1]] ⟨[(0,(pt pb 0)),(1,i6 now),(31,(pt x.cb 0))],(pou_b1 x pb w v ub ep ou q r),[],W1.heap.size⟩ ?_
 refine hcq (i6 (c.opn.length:Int)) _ _ (some 32) [] tI rfl (fun wx hm=>open_partyX ((hR1.keptT hm.kept (turned_tys hm1) rfl rfl rfl)).1) fun z7 hz7=>?_
 by_cases hop:c.opn.length = 0
 rotate_left
 ·skip
  refine hgS 6 [oh0,oh1] [0,1] [dT (((c.opn.length:Int):Int) > 0)] [] [.code [1,1,1,0,1,0],.code [1,1,1,1]] (pou_b1 x pb w v ub ep ou q r) [] z7 ?_
  refine hrt [] [] [] ?_
  intro wx hm
  exact ⟨rfl,hmore hop _ ⟨_,hm.at_ 0 rfl,(hR1.keptT hm.kept (turned_tys hm1) rfl rfl rfl)⟩ (h1_ud.keptT hm.kept (turned_tys hm1) rfl) (h1_pt.keptT hm.kept (turned_tys hm1) rfl),(MemOk.bck hm1 hm).kept⟩
 refine hgE 14 (dz 7 0x14408000000) [0,1,38] [dF (((c.opn.length:Int):Int) > 0)] [(pb,68,1)] [.ops [1,1,1,1,0] [5],.code [1,1,1,1,1]] ⟨[(0,(pt pb 0)),(1,i6 now),(38,(pt ub 0))],(pou_b1 x pb w v ub ep ou q r),[],z7⟩ ?_
 refine hcq (i6 (stateL U2 2)) _ _ (some 39) [] tI rfl (fun wx hm=>state_upd x.sn mk te ts U2 (by omega) gP cU ub base bg wx (own_blk (hU2 ▸ (h1_ud.keptT hm.kept (turned_tys hm1) rfl))) (hU2 ▸ (h1_pt.keptT hm.kept (turned_tys hm1) rfl))) fun z11 hz11=>?_
 rcases hlast hop with ⟨hst,hq⟩ | ⟨hst,hed,hq⟩
 ·rw [hst]
  change Holds _ _ _ _ W1 (Turned (pou_b1 x pb w v ub ep ou q r)) _ [.ops [1,1,1,1,0] [],.code [1,1,1,1,1]] ⟨[(39,i6 1),(0,(pt pb 0)),(1,i6 now),(38,(pt ub 0))],(pou_b1 x pb w v ub ep ou q r),[],z11⟩
  refine hgS 14 (dz 5 256) [42,43] [tT] [] [.ops [1,1,1,1,1,0,1,0] [2],.blk 0] (pou_b1 x pb w v ub ep ou q r) [] z11 ?_
  refine hcV (w:=w) (S':=(PilT [141,178,180] base x.lb pb x.cb w)) (Y:=Unit) (fun _=>.tuple #[]) (fun _=>[]) (fun _ W_=>E W_) (show _ = some (89,[(pt pb 0),i6 now],some 44,[]) by kernel_rfl) tI (fun wx hm=>?_) (fun y_ W2 hE2 hm2=>?_)
  ·have hm0_:=(MemOk.bck hm1 hm)
   have hb1:base ≤ wx.heap.size:=Nat.le_trans hb0 hm0_.kept.size
   have hR_:=(hR1.keptT hm.kept (turned_tys hm1) rfl rfl rfl)
   have h_ud_:=(h1_ud.keptT hm.kept (turned_tys hm1) rfl)
   have h_pt_:=(h1_pt.keptT hm.kept (turned_tys hm1) rfl)
   have hX0:PilX wx base pb ({ x with ud:=((pt ub 0)),ak:=v }) c L:=⟨_,hm.at_ 0 rfl,hR_⟩
   refine (hq wx hX0 h_ud_ h_pt_ hb1).mono fun e w' hq_=>?_
   obtain ⟨he_,hE_,h3_⟩:=hq_
   exact ⟨(),he_,hE_,hm0_.none_.offA (fun _ h=>h) h3_ (pilT_up hm0_.kept rfl) (fun b hb=>by cases hb)⟩
  refine hgE 5 [] [] [] [] [] ⟨[],[],[],W2.heap.size⟩ ?_
  refine holds_end [] (show _ = some ([],dupR []) by kernel_rfl) ?_
  intro wx hm
  exact ⟨rfl,hE _ _ hE2 (hm.kept.mono (fun k _ h=>by obtain ⟨b,hb,_⟩:=h; cases hb)),(MemOk.bck hm2 hm).kept⟩
 ·rw [hst]
  change Holds _ _ _ _ W1 (Turned (pou_b1 x pb w v ub ep ou q r)) _ [.ops [1,1,1,1,0] [],.code [1,1,1,1,1]] ⟨[(39,i6 2),(0,(pt pb 0)),(1,i6 now),(38,(pt ub 0))],(pou_b1 x pb w v ub ep ou q r),[],z11⟩
  refine hgS 19 (dz 7 1048576) [47] [fF,tT] [] [.ops [1,1,1,1,1,0,1,1,1,0] [1],.blk 0] (pou_b1 x pb w v ub ep ou q r) [] z11 ?_
  refine hcV (w:=w) (S':=(PilT [141,178,180] base x.lb pb x.cb w)) (Y:=Unit) (fun _=>.tuple #[]) (fun _=>[]) (fun _ W_=>E W_) (show _ = some (47,[(pt pb 0),i6 0,sT ⟨#[]⟩],some 48,[]) by kernel_rfl) tI (fun wx hm=>?_) (fun y_ W3 hE3 hm3=>?_)
  ·have hm0_:=(MemOk.bck hm1 hm)
   have hb1:base ≤ wx.heap.size:=Nat.le_trans hb0 hm0_.kept.size
   have hR_:=(hR1.keptT hm.kept (turned_tys hm1) rfl rfl rfl)
   have h_ud_:=(h1_ud.keptT hm.kept (turned_tys hm1) rfl)
   have h_pt_:=(h1_pt.keptT hm.kept (turned_tys hm1) rfl)
   have hX0:PilX wx base pb ({ x with ud:=((pt ub 0)),ak:=v }) c L:=⟨_,hm.at_ 0 rfl,hR_⟩
   refine (pilX_end ({ x with ud:=((pt ub 0)),ak:=v }) c L pb base 0 ⟨#[]⟩ hed wx hX0).mono fun e w' hq_=>?_
   obtain ⟨he_,hX_,hD_,h3_⟩:=hq_
   exact ⟨(),he_,hq _ hX_ hD_,hm0_.none_.offA (fun _ h=>h) h3_ (pilT_up hm0_.kept rfl) (fun b hb=>by cases hb)⟩
  refine hgE 5 [] [] [] [] [] ⟨[],[],[],W3.heap.size⟩ ?_
  refine holds_end [] (show _ = some ([],dupR []) by kernel_rfl) ?_
  intro wx hm
  exact ⟨rfl,hE _ _ hE3 (hm.kept.mono (fun k _ h=>by obtain ⟨b,hb,_⟩:=h; cases hb)),(MemOk.bck hm3 hm).kept⟩
end Go.Proofs.YtcmpkkapkdlfhaaGreat
