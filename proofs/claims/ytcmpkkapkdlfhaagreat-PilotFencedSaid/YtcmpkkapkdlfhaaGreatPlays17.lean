import Derived.Test.YtcmpkkapkdlfhaaGreatPil2
import Derived.Test.YtcmpkkapkdlfhaaGreatNums
namespace Go.Proofs.YtcmpkkapkdlfhaaGreat
open Go.RowKit
set_option maxHeartbeats 4000000
set_option maxRecDepth 100000
theorem letters_one (frm:Int) (l:List OneM):∀ u ∈ lettersC frm l,u.oneCell' = true:=fun u hu=>by
 unfold lettersC at hu
 obtain ⟨x,hx,hu⟩:=List.mem_flatten.1 hu
 obtain ⟨o,_,rfl⟩:=List.mem_map.1 hx
 exact (ones_all (l:=letC frm o) rfl) u hu
section
variable (sb pb:Nat) (now frm kd at_:Int) (da:ByteArray) (Q:Nat → List OneM → World → Prop) (w:World) (o:OneM) (sy:SayR)
def pls_v1:List Value:=[i6 frm,i6 o.to,i6 o.id,.bool false,i6 o.q.kind,i6 o.q.stripe,i6 o.q.epoch,i6 o.q.seq,i6 o.q.mask,i6 o.q.node,i6 o.q.oe,i6 o.q.os,sT o.q.block,i6 0,i6 0,i6 0,.bool false,i6 0,i6 0,i6 0,sT ⟨#[]⟩,.bool false,i6 0,i6 0,i6 0,sT ⟨#[]⟩]
def pls_v2:List Value:=[i6 o.to,i6 frm,i6 o.id,.bool true] ++ rp 8 (i6 0) ++ [sT ⟨#[]⟩,i6 sy.st,i6 sy.ep,i6 sy.ou,.bool sy.rc.used,i6 sy.rc.fence,i6 sy.rc.de,i6 sy.rc.ds,sT sy.rc.block,.bool sy.rc.op,i6 sy.rc.ie,i6 sy.rc.is,i6 sy.rc.mask,sT sy.rc.staged]
def pls_n1:List Nat:=[0,1,2,8,9,10,11,12,13,14,15,67,68,71,72]
def pls_n2:List Nat:=[1,1,0,1,0,0,1,0,0,1,1,0,0,1,0,0,1,0,1,0,0,1,0,0,1,1,0]
def pls_n3:List Nat:=[1,1,0,1,0,0,1,0,0,1,1,0,0,1,0,0,1,0,1,0,0,1,1]
def pls_n4:List Nat:=[1,1,0,1,0,0,1,0,0,1,1,0,0,1,0,0,1,1]
def pls_n5:List Nat:=[1,1,0,1,0,0,1,0,0,1,1,0,0,1,1]
def pls_n6:List Nat:=[1,1,0,1,0,0,1,1]
@[simp] def pls_b1:List Bk:=[⟨w.heap.size,38,true,[i6 kd,i6 at_,sT da]⟩]
@[simp] def pls_b2 (W10:World):List Bk:=[⟨w.heap.size,38,true,[i6 kd,i6 at_,sT da]⟩,⟨W10.heap.size,65,false,(pls_v2 frm o sy)⟩]
def pls_T (Q1:World → Prop) (Q:Nat → List OneM → World → Prop) (w:World) (m:Nat) (st:St) (W0:World):Prop:=
 ∃ (t:Nat) (z:Nat),((t = 0 ∧ m = 1 ∧ Q1 W0) ∨ (t = 1 ∧ m = 0 ∧ ∃ m_,Q m_ [] W0)) ∧ st = ⟨[(0,(pt sb 0)),(1,(pt pb 0)),(2,i6 now),(8,i6 0),(9,sT ⟨#[]⟩),(10,.bool false),(11,i6 (t:Int))],(pls_b1 kd at_ da w),[],z⟩
def pls_J (M0:Nat) (Q:Nat → List OneM → World → Prop) (w:World) (m:Nat) (st:St) (W0:World):Prop:=
 ∃ (j:Nat) (mm:Nat) (ls:List OneM) (A:Option Addr) (ca:Nat) (z:Nat),(m = mm ∧ mm + j ≤ M0) ∧ Q mm ls W0 ∧ OwnR W0 w.heap.size 65 26 A ls.length ca (lettersC frm ls) ∧ st = ⟨[(0,(pt sb 0)),(1,(pt pb 0)),(2,i6 now),(8,i6 0),(9,sT ⟨#[]⟩),(10,.bool false),(11,i6 0),(12,.slice A ls.length ca),(13,i6 (j:Int))],(pls_b1 kd at_ da w),[],z⟩
def pls_K (ls:List OneM) (mm:Nat) (j:Nat) (A:Option Addr) (ca:Nat) (W4:World) (m:Nat) (st:St) (W0:World):Prop:=
 ∃ (k:Nat) (m2:Nat) (nx:List OneM) (B:Option Addr) (cb:Nat) (z:Nat),(m + k = ls.length ∧ k ≤ ls.length ∧ m2 + k ≤ mm) ∧ Q m2 (ls.drop k ++ nx) W0 ∧ W4.heap.size ≤ W0.heap.size ∧ OwnR W0 w.heap.size 65 26 A ls.length ca (lettersC frm ls) ∧ OwnR W0 W4.heap.size 65 26 B nx.length cb (lettersC frm nx) ∧ st = ⟨[(0,(pt sb 0)),(1,(pt pb 0)),(2,i6 now),(8,i6 0),(9,sT ⟨#[]⟩),(10,.bool false),(11,i6 0),(12,.slice A ls.length ca),(13,i6 (j:Int)),(14,.slice B nx.length cb),(15,i6 (k:Int))],(pls_b1 kd at_ da w),[],z⟩
end
theorem plays_any (lo sb pb:Nat) (now frm kd at_ er ed:Int) (da dt:ByteArray) (M0:Nat) (hM0:M0 ≤ 30) (hnow:0 ≤ now ∧ now ≤ 1099511627776) (Q0 Q1:World → Prop) (Q:Nat → List OneM → World → Prop) (QA:Nat → OneM → List OneM → SayR → World → Prop) (w:World) (hS0:Stb Q0) (hS1:Stb1 Q1) (hSQ:∀ m ls,Stb (Q m ls)) (hSA:∀ m o ls sy,Stb (QA m o ls sy)) (hlen:∀ m ls wx,Q m ls wx → ls.length ≤ 20) (hsub:∀ wx,Q0 wx → Calls Tryz.prog 14 #[.pointer (some ⟨pb,0,none⟩),i6 now,.agg #[i6 kd,i6 at_,sT da]] wx (fun e w'=>e = .returned (i6 0) ∧ Q1 w' ∧ Kept (LawL lo wx) wx w')) (hbz1:∀ wx,Q1 wx → Calls Tryz.prog 15 #[.pointer (some ⟨pb,0,none⟩)] wx (RetK (.bool true) wx)) (hbz0:∀ m wx,Q m [] wx → Calls Tryz.prog 15 #[.pointer (some ⟨pb,0,none⟩)] wx (RetK (.bool false) wx)) (hstep:∀ wx,Q1 wx → Calls Tryz.prog 16 #[.pointer (some ⟨pb,0,none⟩),i6 (now + 0)] wx (fun e w'=>∃ A ca ls mm,e = .returned (.slice A ls.length ca) ∧ Q mm ls w' ∧ mm ≤ M0 ∧ OwnR w' w.heap.size 65 26 A ls.length ca (lettersC frm ls) ∧ Kept (fun y=>LawL lo wx y ∨ (w.heap.size ≤ y ∧ TyIn wx 65 y)) wx w')) (hans:∀ m o ls wx,Q m (o :: ls) wx → Calls Tryz.prog 18 #[.pointer (some ⟨sb,0,none⟩),i6 (now + 0),.agg #[i6 frm,i6 o.to,i6 o.id,.bool false,i6 o.q.kind,i6 o.q.stripe,i6 o.q.epoch,i6 o.q.seq,i6 o.q.mask,i6 o.q.node,i6 o.q.oe,i6 o.q.os,sT o.q.block,i6 0,i6 0,i6 0,.bool false,i6 0,i6 0,i6 0,sT ⟨#[]⟩,.bool false,i6 0,i6 0,i6 0,sT ⟨#[]⟩]] wx (fun e w'=>∃ sy:SayR,e = .returned (.tuple #[.agg #[i6 o.to,i6 frm,i6 o.id,.bool true,i6 0,i6 0,i6 0,i6 0,i6 0,i6 0,i6 0,i6 0,sT ⟨#[]⟩,i6 sy.st,i6 sy.ep,i6 sy.ou,.bool sy.rc.used,i6 sy.rc.fence,i6 sy.rc.de,i6 sy.rc.ds,sT sy.rc.block,.bool sy.rc.op,i6 sy.rc.ie,i6 sy.rc.is,i6 sy.rc.mask,sT sy.rc.staged],.bool true]) ∧ QA m o ls sy w' ∧ Kept (LawL lo wx) wx w')) (hrec:∀ m o ls sy wx,QA m o ls sy wx → Calls Tryz.prog 19 #[.pointer (some ⟨pb,0,none⟩),i6 (now + 0),.agg #[i6 o.to,i6 frm,i6 o.id,.bool true,i6 0,i6 0,i6 0,i6 0,i6 0,i6 0,i6 0,i6 0,sT ⟨#[]⟩,i6 sy.st,i6 sy.ep,i6 sy.ou,.bool sy.rc.used,i6 sy.rc.fence,i6 sy.rc.de,i6 sy.rc.ds,sT sy.rc.block,.bool sy.rc.op,i6 sy.rc.ie,i6 sy.rc.is,i6 sy.rc.mask,sT sy.rc.staged]] wx (fun e w'=>∃ A ca nx m',e = .returned (.slice A (List.length nx) ca) ∧ Q m' (ls ++ nx) w' ∧ m' < m ∧ OwnR w' wx.heap.size 65 26 A nx.length ca (lettersC frm nx) ∧ Kept (LawL lo wx) wx w')) (hlast:∀ m wx,Q m [] wx → Calls Tryz.prog 20 #[.pointer (some ⟨pb,0,none⟩)] wx (RetK (.tuple #[i6 er,sT dt,i6 ed]) wx)) (hQ0:Q0 w) :
  Calls Tryz.prog 23 #[.pointer (some ⟨sb,0,none⟩),.pointer (some ⟨pb,0,none⟩),i6 now,.agg #[i6 kd,i6 at_,sT da]] w (fun e w'=>e = .returned (.tuple #[i6 er,sT dt,.bool true]) ∧ (∃ m_,Q m_ [] w') ∧ Kept (LawL lo w) w w'):=by
 refine cH (S:=(fun _=>False)) (n:=87) Tryz.func23 (MemOk.none w _) ?_
 refine hgS 16 (dz 7 0x30008000000) [0,1,2,8,9,10,21,22,23] [] [(w.heap.size,0,3)] [.ops [1,0,0] [3,4],.code [1,0,1],.code [1,1]] (pls_b1 kd at_ da w) [] (w.heap.size + 1) ?_
 refine hcV (w:=w) (S':=(LawL lo w)) (Y:=Unit) (fun _=>i6 0) (fun _=>(pls_b1 kd at_ da w)) (fun _ W_=>Q1 W_) (show _ = some (14,[(pt pb 0),i6 now,.agg #[i6 kd,i6 at_,sT da]],some 24,[]) by kernel_rfl) tI (fun wx hm=>?_) (fun y_ W1 hX1 hm1=>?_)
 ·have hm0_:=(hm.wide (S':=LawL lo w) (fun _ h=>h.elim))
  have f_q:=(hS0 _ _ _ [] hQ0 hm.kept (fun _ h=>h.elim) rfl)
  refine (hsub wx f_q).mono fun e w' hq_=>?_
  obtain ⟨he_,nf_q,h3_⟩:=hq_
  exact ⟨(),he_,nf_q,hm0_.offA (fun _ h=>h) h3_ (lawL_up hm0_.kept) (off_tys hm (es:=TL17) (fun _ h=>h.1) rfl)⟩
 have f1_q:=hX1
 refine hgE 13 (dz 3 0) [0,1,2,8,9,10,11] [fF] [] [.code [1,1,0,1,0],.blk 0,.code [1,1,1]] ⟨[(0,(pt sb 0)),(1,(pt pb 0)),(2,i6 now),(8,i6 0),(9,sT ⟨#[]⟩),(10,.bool false),(11,i6 0)],(pls_b1 kd at_ da w),[],W1.heap.size⟩ ?_
 refine holds_loopW (w:=w) (S':=LawL lo w) (pls_T sb pb now kd at_ da Q1 Q w) 1 (by kernel_rfl) (fun W0 hm=>⟨⟨0,_,.inl ⟨rfl,rfl,(hS1 _ _ _ _ f1_q hm.kept (turned_tys hm1) rfl)⟩,rfl⟩,(MemOk.bck hm1 hm)⟩) ?_
 rintro m _ W2 ⟨t,z,hh2,rfl⟩ hm2 J2 hJ2
 rcases hh2 with ⟨rfl,hmz,f_q⟩ | ⟨rfl,hmz,mm,f_q⟩
 rotate_left
 ·skip
  change Holds _ _ _ _ W2 (Turned (pls_b1 kd at_ da w)) _ [.code [1,1,0,1,0,0],.inv J2,.blk 0,.code [1,1,1]] ⟨[(0,(pt sb 0)),(1,(pt pb 0)),(2,i6 now),(8,i6 0),(9,sT ⟨#[]⟩),(10,.bool false),(11,i6 1)],(pls_b1 kd at_ da w),[],W2.heap.size⟩
  refine hgS 10 (dz 4 4096) [0,1,2,8,9,10,11,28,29] [tT] [] [.ops [1,1,0,1,0,0,0,0] [4,5],.code [1,1,0,1,0,0,0,1],.code [1,1,0,1,0,0,1],.inv J2,.blk 0,.code [1,1,1]] (pls_b1 kd at_ da w) [] W2.heap.size ?_
  refine hcp (.bool false) 15 [(pt pb 0)] (some 30) [true = true] ⟨rfl,tI⟩ rfl (fun wx hm=>by
   have f_q:=((hSQ _ _) _ _ _ _ f_q hm.kept (turned_tys hm2) rfl)
   exact hbz0 mm wx f_q) fun z5 hz5=>?_
  replace hz5:W2.heap.size ≤ z5:=hz5
  refine hgS 10 (dz 3 3) [1,8,9,10,77] [tT,fF] [] [.ops [1,1,1,0] [1,2,3,4,5,6,7,8],.code [1,1,1,1]] (pls_b1 kd at_ da w) [] z5 ?_
  refine hcp (.tuple #[i6 er,sT dt,i6 ed]) 20 [(pt pb 0)] (some 78) [] tI rfl (fun wx hm=>by
   have f_q:=((hSQ _ _) _ _ _ _ f_q hm.kept (turned_tys hm2) rfl)
   exact hlast mm wx f_q) fun z7 hz7=>?_
  replace hz7:z5 ≤ z7:=hz7
  refine hgS 16 (dz 10 0) [8,9,10,82,83,84] [] [] [.ops [1,1,1,1,0] [3,4,5,6,7],.code [1,1,1,1,1]] (pls_b1 kd at_ da w) [] z7 ?_
  refine hcp (.bool false) 15 [(pt pb 0)] (some 85) [] tI rfl (fun wx hm=>by
   have f_q:=((hSQ _ _) _ _ _ _ f_q hm.kept (turned_tys hm2) rfl)
   exact hbz0 mm wx f_q) fun z9 hz9=>?_
  replace hz9:z7 ≤ z9:=hz9
  refine hgS 8 (dz 4 0) [8,9,10] [] [] [.code [1,1,1,1,1]] (pls_b1 kd at_ da w) [] z9 ?_
  refine hrt [] [i6 er,sT dt,.bool true] [] ?_
  intro wx hm
  exact ⟨rfl,⟨mm,((hSQ _ _) _ _ _ _ f_q hm.kept (turned_tys hm2) rfl)⟩,(MemOk.bck hm2 hm).kept⟩
 change Holds _ _ _ _ W2 (Turned (pls_b1 kd at_ da w)) _ [.code [1,1,0,1,0,0],.inv J2,.blk 0,.code [1,1,1]] ⟨[(0,(pt sb 0)),(1,(pt pb 0)),(2,i6 now),(8,i6 0),(9,sT ⟨#[]⟩),(10,.bool false),(11,i6 0)],(pls_b1 kd at_ da w),[],W2.heap.size⟩
 refine hgS 10 (dz 4 4096) [0,1,2,8,9,10,11,28,29] [tT] [] [.ops [1,1,0,1,0,0,0,0] [4,5],.code [1,1,0,1,0,0,0,1],.code [1,1,0,1,0,0,1],.inv J2,.blk 0,.code [1,1,1]] (pls_b1 kd at_ da w) [] W2.heap.size ?_
 refine hcp (.bool true) 15 [(pt pb 0)] (some 30) [true = true] ⟨rfl,tI⟩ rfl (fun wx hm=>by
  have f_q:=(hS1 _ _ _ _ f_q hm.kept (turned_tys hm2) rfl)
  exact hbz1 wx f_q) fun z13 hz13=>?_
 replace hz13:W2.heap.size ≤ z13:=hz13
 refine hgS 15 (dz 6 2097171) [0,1,2,8,9,10,11,34,37] [tT,tT,n64 ((now + 0))] [] [.ops [1,1,0,1,0,0,1,0,0,0] [4,5],.code [1,1,0,1,0,0,1,0,0,1],.blk 1,.code pls_n6,.inv J2,.blk 0,.code [1,1,1]] (pls_b1 kd at_ da w) [] z13 ?_
 refine hcV (w:=w) (S':=(LawL lo w)) (Y:=(Option Addr) × Nat × (List OneM) × Nat) (fun yq=>.slice yq.1 yq.2.2.1.length yq.2.1) (fun yq=>(pls_b1 kd at_ da w)) (fun yq W_=>Q yq.2.2.2 yq.2.2.1 W_ ∧ yq.2.2.2 ≤ M0 ∧ OwnR W_ w.heap.size 65 26 yq.1 yq.2.2.1.length yq.2.1 (lettersC frm yq.2.2.1)) (show _ = some (16,[(pt pb 0),i6 (now + 0)],some 38,[]) by kernel_rfl) tI (fun wx hm=>?_) (fun yq W3 hX3 hm3=>?_)
 ·have hm0_:=(MemOk.bck hm2 hm)
  have f_q:=(hS1 _ _ _ _ f_q hm.kept (turned_tys hm2) rfl)
  refine (hstep wx f_q).mono fun e w' hq_=>?_
  obtain ⟨A,ca,ls,mm,he_,nf_q,nf_le,no_l,h3_⟩:=hq_
  exact ⟨(A,ca,ls,mm),he_,⟨nf_q,nf_le,no_l⟩,hm0_.offA (fun _ h=>h) h3_ (fun y hy=>hy.elim (lawL_up hm0_.kept y) (fun h=>.inr h.1)) (off_tys hm (es:=65 :: TL17) (fun y hy=>law8L_ty y hy) rfl)⟩
 obtain ⟨A,ca,ls,mm⟩:=yq
 obtain ⟨f3_q,f3_le,o3_l⟩:=hX3
 replace f3_q:Q mm ls W3:=f3_q
 replace f3_le:mm ≤ M0:=f3_le
 refine hgE 10 (dz 2 0) [0,1,2,8,9,10,11,12,13] [] [] [.code [1,1,0,1,0,0,1,0,0,1,1,0],.blk 2,.blk 1,.code pls_n6,.inv J2,.blk 0,.code [1,1,1]] ⟨[(0,(pt sb 0)),(1,(pt pb 0)),(2,i6 now),(8,i6 0),(9,sT ⟨#[]⟩),(10,.bool false),(11,i6 0),(12,.slice A ls.length ca),(13,i6 0)],(pls_b1 kd at_ da w),[],W3.heap.size⟩ ?_
 refine holds_loopW (w:=w) (S':=LawL lo w) (pls_J sb pb now frm kd at_ da M0 Q w) mm (by kernel_rfl) (fun W0 hm=>⟨⟨0,mm,ls,A,ca,_,⟨rfl,by omega⟩,((hSQ _ _) _ _ _ _ f3_q hm.kept (turned_tys hm3) rfl),(o3_l.keptT hm.kept (turned_tys hm3) rfl),rfl⟩,(MemOk.bck hm3 hm)⟩) ?_
 rintro m _ W4 ⟨j,mm,ls,A,ca,z,hh4,f4_q,o4_l,rfl⟩ hm4 J4 hJ4
 obtain ⟨hme,hmj⟩:=hh4
 have hlz:∀ y,ownS A y → y < W4.heap.size:=fun y hy=>(o4_l.own y hy).2
 have hwz:w.heap.size ≤ W4.heap.size:=hm4.kept.size
 have hln:=hlen _ _ _ f4_q
 by_cases hls:ls.length = 0
 ·skip
  refine holds_go (f:=22) (hs:=[oh0,oh0,oh0,oh1,oh1,oh1,oh3,oh0,oh0,oh0,oh0]) [0,1,2,8,9,10,11] [true] (show _ = some (Res.mk [(decide (((j:Int):Int) < 40)) = true,(decide (((j:Int):Int) < 40)) = true,(decide (((j:Int):Int) < 40)) = true,(decide (((j:Int):Int) < 40)) = true,(decide ((((ls.length:Nat):Int):Int) > 0)) = false] (dupR []) [.inv J2,.blk 0,.code [1,1,1]] ⟨[(0,(pt sb 0)),(1,(pt pb 0)),(2,i6 now),(8,i6 0),(9,sT ⟨#[]⟩),(10,.bool false),(11,i6 1)],(pls_b1 kd at_ da w),[],W4.heap.size⟩) by kernel_rfl) ⟨decide_eq_true (by omega),decide_eq_true (by omega),decide_eq_true (by omega),decide_eq_true (by omega),decide_eq_false (by omega),trivial⟩ ?_
  obtain rfl:=List.length_eq_zero_iff.1 hls
  intro a_ w9 hf hm
  exact hJ2 (0) _ a_ w9 (by omega) ⟨1,_,.inr ⟨rfl,rfl,_,((hSQ _ _) _ _ _ _ f4_q hm.kept (turned_tys hm4) rfl)⟩,rfl⟩ hf (MemOk.bck hm4 hm)
 refine hgE 28 (dz 10 319885312) [0,1,2,8,9,10,11,12,13,14,15] (rE 4 (dT (((j:Int):Int) < 40)) ++ [dT ((((ls.length:Nat):Int):Int) > 0)]) [] [.code [1,1,0,1,0,0,1,0,0,1,1,0,0,1,0,0,1,0,1,0],.blk 4,.code pls_n4,.blk 3,.code pls_n5,.inv J4,.blk 2,.blk 1,.code pls_n6,.inv J2,.blk 0,.code [1,1,1]] ⟨[(0,(pt sb 0)),(1,(pt pb 0)),(2,i6 now),(8,i6 0),(9,sT ⟨#[]⟩),(10,.bool false),(11,i6 0),(12,.slice A ls.length ca),(13,i6 (j:Int)),(14,.slice none 0 0),(15,i6 0)],(pls_b1 kd at_ da w),[],W4.heap.size⟩ ?_
 have f5_q:Q mm (ls.drop 0 ++ []) W4:=by rw [List.append_nil]; exact f4_q
 have o6_nx:OwnR W4 W4.heap.size 65 26 none 0 0 (lettersC frm ([])):=OwnR.nil _ _ _ _
 have f_sz0:W4.heap.size ≤ W4.heap.size:=Nat.le_refl _
 refine holds_loopW (w:=w) (S':=LawL lo w) (pls_K sb pb now frm kd at_ da Q w ls mm j A ca W4) ls.length (by kernel_rfl) (fun W0 hm=>⟨⟨0,mm,[],none,0,_,⟨by omega,by omega,by omega⟩,((hSQ _ _) _ _ _ _ f5_q hm.kept (turned_tys hm4) rfl),(Nat.le_trans f_sz0 hm.kept.size),(o4_l.keptT hm.kept (turned_tys hm4) rfl),(o6_nx.keptT hm.kept (turned_tys hm4) rfl),rfl⟩,(MemOk.bck hm4 hm)⟩) ?_
 rintro m _ W7 ⟨k,m2,nx,B,cb,z,hh7,f7_q,f7_sz,o7_l,o7_nx,rfl⟩ hm7 J7 hJ7
 obtain ⟨hmk,hkl,hm2⟩:=hh7
 by_cases hk:k < ls.length
 rotate_left
 ·skip
  refine holds_go (f:=23) (hs:=[oh0,oh0,oh0,oh0,oh0,oh0,oh0,oh0,oh2,oh0]) [0,1,2,8,9,10,11,12,13] [true] (show _ = some (Res.mk [(decide (((k:Int):Int) < ((ls.length:Nat):Int))) = false,inR .i64 (((j:Int) + 1))] (dupR []) [.inv J4,.blk 2,.blk 1,.code pls_n6,.inv J2,.blk 0,.code [1,1,1]] ⟨[(0,(pt sb 0)),(1,(pt pb 0)),(2,i6 now),(8,i6 0),(9,sT ⟨#[]⟩),(10,.bool false),(11,i6 0),(12,.slice B nx.length cb),(13,i6 ((j:Int) + 1))],(pls_b1 kd at_ da w),[],W7.heap.size⟩) by kernel_rfl) ⟨decide_eq_false (by omega),in64 (by omega),trivial⟩ ?_
  have f8_q:Q m2 nx W7:=by have h_:=f7_q; rwa [List.drop_of_length_le (by omega),List.nil_append] at h_
  have o_low:=OwnR.below (base':=w.heap.size) o7_nx hwz
  rw [← cast_succ j]
  intro a_ w9 hf hm
  exact hJ4 (m2) _ a_ w9 (by omega) ⟨j + 1,m2,nx,B,cb,_,⟨rfl,by omega⟩,((hSQ _ _) _ _ _ _ f8_q hm.kept (turned_tys hm7) rfl),(o_low.keptT hm.kept (turned_tys hm7) rfl),rfl⟩ hf (MemOk.bck hm7 hm)
 obtain ⟨o,ho⟩:∃ o,ls[k]? = some o:=⟨_,List.getElem?_eq_getElem hk⟩
 obtain ⟨gA,rfl,_⟩:=OwnR.cell (j:=k * 26 + 0) (v:=i6 frm) o7_l (flatV_get (f:=letC frm) (fun _=>rfl) ho (by decide))
 have f9_q:Q m2 (o :: (ls.drop (k + 1) ++ nx)) W7:=by have h_:=f7_q; rwa [List.drop_eq_getElem_cons hk,(List.getElem?_eq_some_iff.1 ho).2,List.cons_append] at h_
 refine holds_wins [⟨gA,0 + k * 26,(pls_v1 frm o)⟩] (fun _ y hy=>?_) ?_
 ·simp only [List.mem_cons,List.not_mem_nil,or_false] at hy
  subst hy
  exact ⟨fun h=>tysIn_not rfl (o7_l.ty gA ⟨_,rfl,rfl⟩) (turned_tys hm7 _ h),(o7_l.own gA ⟨_,rfl,rfl⟩).2,own_elem (f:=(letC frm)) (fun _=>rfl) o7_l ho⟩
 refine hgS 25 [oh0,oh0,oh0,oh0,oh1,oh0,oh0,oh0,oh2,oh0,oh0,oh2,⟨false,0,[⟨true,0,0,26⟩]⟩] [0,1,2,8,9,10,11,12,13,14,15,55,58,62] [dT (((k:Int):Int) < ((ls.length:Nat):Int)),n64 ((now + 0)),oE ((0:Int) ≤ (k:Int) ∧ (k:Int) < ((ls.length:Nat):Int))] [(gA,0 + k * 26,26)] [.ops [1,1,0,1,0,0,1,0,0,1,1,0,0,1,0,0,1,0,1,0,0,1,0,0,0] [8,9,10,11,12,13,14],.code [1,1,0,1,0,0,1,0,0,1,1,0,0,1,0,0,1,0,1,0,0,1,0,0,1],.blk 5,.code pls_n3,.inv J7,.blk 4,.code pls_n4,.blk 3,.code pls_n5,.inv J4,.blk 2,.blk 1,.code pls_n6,.inv J2,.blk 0,.code [1,1,1]] (pls_b1 kd at_ da w) [⟨gA,0 + k * 26,(pls_v1 frm o)⟩] W7.heap.size ?_
 refine holds_wins [] (fun _ _ h=>by cases h) ?_
 refine hcV (w:=w) (S':=(LawL lo w)) (Y:=SayR) (fun sy=>.tuple #[.agg (List.toArray (pls_v2 frm o sy)),.bool true]) (fun sy=>(pls_b1 kd at_ da w)) (fun sy W_=>W4.heap.size ≤ W_.heap.size ∧ QA m2 o (ls.drop (k + 1) ++ nx) sy W_ ∧ OwnR W_ w.heap.size 65 26 (some ⟨gA,0,none⟩) ls.length ca (lettersC frm ls) ∧ OwnR W_ W4.heap.size 65 26 B nx.length cb (lettersC frm nx)) (show _ = some (18,[(pt sb 0),i6 (now + 0),.agg (List.toArray (pls_v1 frm o))],some 63,[]) by kernel_rfl) tI (fun wx hm=>?_) (fun sy W10 hX10 hm10=>?_)
 ·have hm0_:=(MemOk.bck hm7 hm)
  have f_q:=((hSQ _ _) _ _ _ _ f9_q hm.kept (turned_tys hm7) rfl)
  have f_sz:=(Nat.le_trans f7_sz hm.kept.size)
  have o_l:=(o7_l.keptT hm.kept (turned_tys hm7) rfl)
  have o_nx:=(o7_nx.keptT hm.kept (turned_tys hm7) rfl)
  refine (hans m2 o _ wx f_q).mono fun e w' hq_=>?_
  obtain ⟨sy,he_,nf_q,h3_⟩:=hq_
  exact ⟨sy,he_,⟨(Nat.le_trans f_sz h3_.size),nf_q,(o_l.keptT h3_ (fun _ h=>h.1) rfl),(o_nx.keptT h3_ (fun _ h=>h.1) rfl)⟩,hm0_.offA (fun _ h=>h) h3_ (lawL_up hm0_.kept) (off_tys hm (es:=TL17) (fun _ h=>h.1) rfl)⟩
 obtain ⟨f10_sz,f10_q,o10_l,o10_nx⟩:=hX10
 refine hgE 22 (dz 14 0x1a0018200001001a00180000) pls_n1 [tT,n64 ((now + 0))] [(W10.heap.size,0,26),(W10.heap.size,0,26)] [.ops pls_n2 [6,7,8],.blk 5,.code pls_n3,.inv J7,.blk 4,.code pls_n4,.blk 3,.code pls_n5,.inv J4,.blk 2,.blk 1,.code pls_n6,.inv J2,.blk 0,.code [1,1,1]] ⟨[(0,(pt sb 0)),(1,(pt pb 0)),(2,i6 now),(8,i6 0),(9,sT ⟨#[]⟩),(10,.bool false),(11,i6 0),(12,.slice (some ⟨gA,0,none⟩) ls.length ca),(13,i6 (j:Int)),(14,.slice B nx.length cb),(15,i6 (k:Int)),(67,.slice B nx.length cb),(68,(pt pb 0)),(71,i6 (now + 0)),(72,.agg (List.toArray (pls_v2 frm o sy)))],[⟨w.heap.size,38,true,[i6 kd,i6 at_,sT da]⟩,⟨W10.heap.size,65,true,(pls_v2 frm o sy)⟩],[],W10.heap.size + 1⟩ ?_
 refine holds_gndF (bk':=(pls_b2 frm kd at_ da w o sy W10)) [true,false] rfl (fun W11 hm hmz=>?_)
 have f11_sz:W4.heap.size ≤ W11.heap.size:=(Nat.le_trans f10_sz hm.kept.size)
 have f11_q:QA m2 o (ls.drop (k + 1) ++ nx) sy W11:=((hSA _ _ _ _) _ _ _ _ f10_q hm.kept (turned_tys hm10) rfl)
 have o11_l:OwnR W11 w.heap.size 65 26 (some ⟨gA,0,none⟩) ls.length ca (lettersC frm ls):=(o10_l.keptT hm.kept (turned_tys hm10) rfl)
 have o11_nx:OwnR W11 W4.heap.size 65 26 B nx.length cb (lettersC frm nx):=(o10_nx.keptT hm.kept (turned_tys hm10) rfl)
 have hm11:MemOk w (LawL lo w) (pls_b2 frm kd at_ da w o sy W10) [] W11.heap.size W11:=MemOk.bck hm10 hmz
 clear hm hmz
 refine holds_prune pls_n1 [true,false] ?_
 refine holds_callV (w:=w) (S':=(LawL lo w)) (Y:=(Option Addr) × Nat × (List OneM) × Nat) (fun yq=>.slice yq.1 yq.2.2.1.length yq.2.1) (fun yq=>(pls_b1 kd at_ da w)) (fun yq W_=>W4.heap.size ≤ W_.heap.size ∧ Q yq.2.2.2 (ls.drop (k + 1) ++ nx ++ yq.2.2.1) W_ ∧ yq.2.2.2 < m2 ∧ OwnR W_ w.heap.size 65 26 (some ⟨gA,0,none⟩) ls.length ca (lettersC frm ls) ∧ OwnR W_ W4.heap.size 65 26 B nx.length cb (lettersC frm nx) ∧ OwnR W_ w.heap.size 65 26 yq.1 yq.2.2.1.length yq.2.1 (lettersC frm yq.2.2.1)) (fun yq=>[(73,.slice yq.1 yq.2.2.1.length yq.2.1),(0,(pt sb 0)),(1,(pt pb 0)),(2,i6 now),(8,i6 0),(9,sT ⟨#[]⟩),(10,.bool false),(11,i6 0),(12,.slice (some ⟨gA,0,none⟩) ls.length ca),(13,i6 (j:Int)),(14,.slice B nx.length cb),(15,i6 (k:Int)),(67,.slice B nx.length cb),(68,(pt pb 0)),(71,i6 (now + 0)),(72,.agg (List.toArray (pls_v2 frm o sy)))]) (show _ = some (19,[(pt pb 0),i6 (now + 0),.agg (List.toArray (pls_v2 frm o sy))],some 73,[]) by kernel_rfl) tI (fun _=>rfl) (fun wx hm=>?_) (fun yq W12 hX12 hm12=>?_)
 ·have hm0_:=(MemOk.bck hm11 hm)
  have f_sz:=(Nat.le_trans f11_sz hm.kept.size)
  have f_q:=((hSA _ _ _ _) _ _ _ _ f11_q hm.kept (turned_tys hm11) rfl)
  have o_l:=(o11_l.keptT hm.kept (turned_tys hm11) rfl)
  have o_nx:=(o11_nx.keptT hm.kept (turned_tys hm11) rfl)
  refine (hrec m2 o _ sy wx f_q).mono fun e w' hq_=>?_
  obtain ⟨A3,c3,l3,m3,he_,nf_q,nf_lt,no_re,h3_⟩:=hq_
  exact ⟨(A3,c3,l3,m3),he_,⟨(Nat.le_trans f_sz h3_.size),nf_q,nf_lt,(o_l.keptT h3_ (fun _ h=>h.1) rfl),(o_nx.keptT h3_ (fun _ h=>h.1) rfl),(no_re.below hm0_.kept.size)⟩,hm0_.offA (fun _ h=>h) h3_ (lawL_up hm0_.kept) (off_tys hm (es:=TL17) (fun _ h=>h.1) rfl)⟩
 obtain ⟨A3,c3,l3,m3⟩:=yq
 obtain ⟨f12_sz,f12_q,f12_lt,o12_l,o12_nx,o12_re⟩:=hX12
 replace f12_q:Q m3 (ls.drop (k + 1) ++ nx ++ l3) W12:=f12_q
 replace f12_lt:m3 < m2:=f12_lt
 have hln2:=hlen _ _ _ f12_q
 simp only [List.length_append,List.length_drop] at hln2
 refine hgE 3 [] [0,1,2,8,9,10,11,12,13,14,15,67,73] [] [] [.ops pls_n2 [7,8],.blk 5,.code pls_n3,.inv J7,.blk 4,.code pls_n4,.blk 3,.code pls_n5,.inv J4,.blk 2,.blk 1,.code pls_n6,.inv J2,.blk 0,.code [1,1,1]] ⟨[(0,(pt sb 0)),(1,(pt pb 0)),(2,i6 now),(8,i6 0),(9,sT ⟨#[]⟩),(10,.bool false),(11,i6 0),(12,.slice (some ⟨gA,0,none⟩) ls.length ca),(13,i6 (j:Int)),(14,.slice B nx.length cb),(15,i6 (k:Int)),(67,.slice B nx.length cb),(73,.slice A3 l3.length c3)],(pls_b1 kd at_ da w),[],W12.heap.size⟩ ?_
 refine holds_opV (w:=w) (S':=LawL lo w) (Y:=Option Addr × Nat) (dst:=(some 74)) (x:=Builtin.append_ #[50,50] 50 #[.slice B nx.length cb,.slice A3 l3.length c3]) (fun yq=>.slice yq.1 (nx.length + l3.length) yq.2) (pls_b1 kd at_ da w) (fun yq W_=>W4.heap.size ≤ W_.heap.size ∧ Q m3 (ls.drop (k + 1) ++ nx ++ l3) W_ ∧ OwnR W_ w.heap.size 65 26 (some ⟨gA,0,none⟩) ls.length ca (lettersC frm ls) ∧ OwnR W_ W4.heap.size 65 26 yq.1 (nx.length + l3.length) yq.2 (lettersC frm (nx ++ l3))) (fun yq=>[(74,.slice yq.1 (nx.length + l3.length) yq.2),(0,(pt sb 0)),(1,(pt pb 0)),(2,i6 now),(8,i6 0),(9,sT ⟨#[]⟩),(10,.bool false),(11,i6 0),(12,.slice (some ⟨gA,0,none⟩) ls.length ca),(13,i6 (j:Int)),(14,.slice B nx.length cb),(15,i6 (k:Int)),(67,.slice B nx.length cb),(73,.slice A3 l3.length c3)]) (by kernel_rfl) (by kernel_rfl) (fun _=>rfl) (fun wx hm=>?_) (fun yq W13 hX13 hm13=>?_)
 ·have hm0_:=(MemOk.bck hm12 hm)
  have f_sz:=(Nat.le_trans f12_sz hm.kept.size)
  have f_q:=((hSQ _ _) _ _ _ _ f12_q hm.kept (turned_tys hm12) rfl)
  have o_l:=(o12_l.keptT hm.kept (turned_tys hm12) rfl)
  have o_nx:=(o12_nx.keptT hm.kept (turned_tys hm12) rfl)
  have o_re:=(o12_re.keptT hm.kept (turned_tys hm12) rfl)
  obtain ⟨A',cp',w',h1,h2,h3⟩:=run_appendO (P:=Tryz.prog) wx _ _ 50 50 65 (.agg #[i6 0,i6 0,i6 0,.bool false,i6 0,i6 0,i6 0,i6 0,i6 0,i6 0,i6 0,i6 0,sT ⟨#[]⟩,i6 0,i6 0,i6 0,.bool false,i6 0,i6 0,i6 0,sT ⟨#[]⟩,.bool false,i6 0,i6 0,i6 0,sT ⟨#[]⟩]) 26 232 _ nx.length _ _ _ l3.length _ _ (by kernel_rfl) (by kernel_rfl) (by kernel_rfl) (by decide) o_nx o_re (letters_one frm l3) (by omega) (by decide) f_sz
  rw [show lettersC frm nx ++ lettersC frm l3 = lettersC frm (nx ++ l3) by simp [lettersC]] at h2
  exact ⟨(A',cp'),w',h1,⟨(Nat.le_trans f_sz h3.size),((hSQ _ _) _ _ _ _ f_q h3 (own_tys o_nx) rfl),(o_l.kept h3 (fun y hy hy'=>by have h8:=hlz y hy; have h9:=(o_nx.own y hy').1; omega)),h2⟩,hm0_.offA (fun _ h=>h) h3 (fun y hy=>.inr (Nat.le_trans hwz (o_nx.own y hy).1)) (off_tys hm (own_tys o_nx) rfl)⟩
 obtain ⟨A4,c4⟩:=yq
 obtain ⟨f13_sz,f13_q,o13_l,o13_nx⟩:=hX13
 have f14_q:Q m3 (ls.drop (k + 1) ++ (nx ++ l3)) W13:=by rw [← List.append_assoc]; exact f13_q
 refine holds_go (f:=11) (hs:=[oh0,oh0,oh2,oh0]) [0,1,2,8,9,10,11,12,13,14,15] [true] (show _ = some (Res.mk [inR .i64 (((k:Int) + 1))] (dupR []) [.inv J7,.blk 4,.code pls_n4,.blk 3,.code pls_n5,.inv J4,.blk 2,.blk 1,.code pls_n6,.inv J2,.blk 0,.code [1,1,1]] ⟨[(0,(pt sb 0)),(1,(pt pb 0)),(2,i6 now),(8,i6 0),(9,sT ⟨#[]⟩),(10,.bool false),(11,i6 0),(12,.slice (some ⟨gA,0,none⟩) ls.length ca),(13,i6 (j:Int)),(14,.slice A4 (nx.length + l3.length) c4),(15,i6 ((k:Int) + 1))],(pls_b1 kd at_ da w),[],W13.heap.size⟩) by kernel_rfl) ⟨in64 (by omega),trivial⟩ ?_
 have o15_nx:OwnR W13 W4.heap.size 65 26 A4 ((nx ++ l3).length) c4 (lettersC frm (nx ++ l3)):=by rw [List.length_append]; exact o13_nx
 rw [show nx.length + l3.length = (nx ++ l3).length from List.length_append.symm,← cast_succ k]
 intro a_ w9 hf hm
 exact hJ7 (m - 1) _ a_ w9 (by omega) ⟨k + 1,m3,nx ++ l3,A4,c4,_,⟨by omega,by omega,by omega⟩,((hSQ _ _) _ _ _ _ f14_q hm.kept (turned_tys hm13) rfl),(Nat.le_trans f13_sz hm.kept.size),(o13_l.keptT hm.kept (turned_tys hm13) rfl),(o15_nx.keptT hm.kept (turned_tys hm13) rfl),rfl⟩ hf (MemOk.bck hm13 hm)
end Go.Proofs.YtcmpkkapkdlfhaaGreat
