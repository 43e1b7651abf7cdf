import Derived.Test.YtcmpkkapkdlfhaaGreatAwake17
namespace Go.Proofs.YtcmpkkapkdlfhaaGreat
open Go.RowKit
set_option maxHeartbeats 4000000
set_option maxRecDepth 100000
theorem awake_law {lo:Nat} (w:World):Calls Tryz.prog 6 #[] w (fun e w'=>e = .returned (.bool true) ∧ Kept (LawL lo w) w w'):=(awake_any w).mono fun _ _ ⟨h1,h2⟩=>⟨h1,h2.mono fun _ _ h=>h.elim⟩
theorem texts_law {lo:Nat} (F:World → Prop) (hF:Stb F) (R:List ByteArray) (n gR cR:Nat) (hn:R.length = n) (h9:n ≤ 9) (w:World) (hg:gR < w.heap.size) (hc:∀ (j:Nat) (v:Value),(strsV R)[j]? = some v → w.cell? ⟨gR,0 + j,none⟩ = some v) (hf:F w) :
  Calls Tryz.prog 24 #[.slice (some ⟨gR,0,none⟩) n cR,i6 (n:Int),i6 16] w (fun e w'=>∃ A_ c_,e = .returned (.slice A_ n c_) ∧ F w' ∧ OwnR w' w.heap.size 9 1 A_ n c_ (strsV (R.map (strL 16))) ∧ Kept (LawL lo w) w w'):=
 (texts_list R n gR cR hn h9 w hg hc).mono fun _ _ ⟨A_,c_,h1,h2,h3⟩=>⟨A_,c_,h1,hF _ _ _ [] hf h3 (fun _ h=>h.elim) rfl,h2,h3.mono fun _ _ h=>h.elim⟩
def pfn_v1:List Value:=rp 16 (.int .u8 0)
def pfn_n1:List Nat:=[4,5,6,7,8,9,10,11]
def pfn_n2:List OH:=[oh0,oh0,oh0,oh0,oh0,oh0,oh0,oh0,oh0,oh0,oh0]
@[simp] def pfn_b1 (a:Int) (b:Int) (N:Nat) (S:Nat) (w:World) (z4:Nat):List Bk:=[⟨w.heap.size,23,true,[i6 a,i6 b]⟩,⟨z4,23,true,[i6 (N:Int),i6 (S:Int)]⟩]
@[simp] def pfn_b2 (a:Int) (b:Int) (s1:ByteArray) (s2:ByteArray) (N:Nat) (S:Nat) (w:World) (z4:Nat) (z14:Nat):List Bk:=[⟨w.heap.size,23,true,[i6 a,i6 b]⟩,⟨z4,23,true,[i6 (N:Int),i6 (S:Int)]⟩,⟨z14,9,false,[sT s1,sT s2]⟩]
theorem fenced_any (a b at_:Int) (s1 s2:ByteArray) (ha:-9223372036854775808 ≤ a ∧ a ≤ 9223372036854775807) (hb:-9223372036854775808 ≤ b ∧ b ≤ 9223372036854775807) (hat:-9223372036854775808 ≤ at_ ∧ at_ ≤ 9223372036854775807) (w:World) :
  Calls Tryz.prog 5 #[.agg #[i6 a,i6 b],i6 at_,sT s1,sT s2] w (fun e w'=>e = .returned (.bool true) ∧ Kept (fun _=>False) w w'):=by
 refine cH (S:=(fun _=>False)) (n:=182) Tryz.func5 (MemOk.none w _) ?_
 have hpa:=pickZ_bd a 4 (by omega)
 have hpb:=pickZ_bd b 8 (by omega)
 obtain ⟨N,hNe⟩:∃ N:Nat,3 + pickZ a 4 = (N:Int):=⟨(3 + pickZ a 4).toNat,by omega⟩
 obtain ⟨S,hSe⟩:∃ S:Nat,1 + pickZ b 8 = (S:Int):=⟨(1 + pickZ b 8).toNat,by omega⟩
 have hN:3 ≤ N ∧ N ≤ 6:=by omega
 have hS:1 ≤ S ∧ S ≤ 8:=by omega
 have hg:3 ≤ (N:Int) ∧ (N:Int) ≤ 6 ∧ 1 ≤ (S:Int) ∧ (S:Int) ≤ 8:=by omega
 have hm1:1 ≤ (S:Int) * ((N:Int) - 1):=by
  have h:(1:Int) * 1 ≤ (S:Int) * ((N:Int) - 1):=Int.mul_le_mul (by omega) (by omega) (by omega) (by omega)
  omega
 have hm2:(S:Int) * ((N:Int) - 1) ≤ 8 * 5:=Int.mul_le_mul (by omega) (by omega) (by omega) (by omega)
 have hq0:=pickZ_bd at_ ((S:Int) * ((N:Int) - 1)) (by omega)
 obtain ⟨q,hqe⟩:∃ q:Int,pickZ at_ ((S:Int) * ((N:Int) - 1)) = q:=⟨_,rfl⟩
 rw [hqe] at hq0
 refine hgS 10 (dz 2 0) [1,2,3,4,8] [] [] [.ops [1,0] [0,1],.code [1,1]] [⟨w.heap.size,23,true,[i6 a,i6 b]⟩] [] (w.heap.size + 1) ?_
 refine hcV (w:=w) (S':=(LawL (w.heap.size) w)) (Y:=Unit) (fun _=>.bool true) (fun _=>[⟨w.heap.size,23,true,[i6 a,i6 b]⟩]) (fun _ W_=>True) (show _ = some (6,[],some 34,[]) by kernel_rfl) tI (fun wx hm=>?_) (fun y_ W1 hX1 hm1=>?_)
 ·have hm0_:=(hm.wide (S':=LawL (w.heap.size) w) (fun _ h=>h.elim))
  refine (awake_law (lo:=w.heap.size) wx).mono fun e w' hq_=>?_
  obtain ⟨he_,h3_⟩:=hq_
  exact ⟨(),he_,trivial,hm0_.offA (fun _ h=>h) h3_ (lawL_up hm0_.kept) (off_tys hm (es:=TL17) (fun _ h=>h.1) rfl)⟩
 refine hgS 8 (dz 2 2097280) [1,2,3,8,9,35] [] [(w.heap.size,0,2)] [.ops [1,1,0] [1,2,3],.code [1,1,1]] [⟨w.heap.size,23,true,[i6 a,i6 b]⟩] [] W1.heap.size ?_
 refine hcp (.agg #[i6 (N:Int),i6 (S:Int)]) 7 [.agg #[i6 a,i6 b]] (some 36) [] tI rfl (fun wx hm=>by
  have h:=fit5 a b ha hb wx
  rw [hNe,hSe] at h
  exact h) fun z4 hz4=>?_
 replace hz4:W1.heap.size ≤ z4:=hz4
 refine hgS 9 (dz 3 0x200180200180) [1,2,3,8,9,10,37] [] [(z4,0,2),(z4,0,2)] [.ops [1,1,1,0] [1,2],.code [1,1,1,1]] (pfn_b1 a b N S w z4) [] (z4 + 1) ?_
 refine hcV (w:=w) (S':=(LawL (w.heap.size) w)) (Y:=Nat) (fun pa=>(pt pa 0)) (fun pa=>(pfn_b1 a b N S w z4)) (fun pa W_=>NewA w.heap.size N S pa W_) (show _ = some (8,[.agg #[i6 (N:Int),i6 (S:Int)],i6 0,i6 1],some 38,[]) by kernel_rfl) tI (fun wx hm=>?_) (fun pa W2 hX2 hm2=>?_)
 ·have hm0_:=(MemOk.bck hm1 hm)
  refine (new_a hN hS wx hm0_.kept.size).mono fun e w' hq_=>?_
  obtain ⟨pa,he_,nf_q,h3_⟩:=hq_
  exact ⟨pa,he_,nf_q,hm0_.offA (fun _ h=>h) h3_ (lawL_up hm0_.kept) (off_tys hm (es:=TL17) (fun _ h=>h.1) rfl)⟩
 have f2_q:=hX2
 refine hgS 8 (dz 2 2097536) [1,2,3,8,9,10,11,39] [] [(z4,0,2)] [.ops [1,1,1,1,0] [1,2],.code [1,1,1,1,1]] (pfn_b1 a b N S w z4) [] W2.heap.size ?_
 refine hcV (w:=w) (S':=(LawL (w.heap.size) w)) (Y:=Nat) (fun pb=>(pt pb 0)) (fun pb=>(pfn_b1 a b N S w z4)) (fun pb W_=>NewB w.heap.size N S pa pb W_) (show _ = some (8,[.agg #[i6 (N:Int),i6 (S:Int)],i6 1,i6 1],some 40,[]) by kernel_rfl) tI (fun wx hm=>?_) (fun pb W3 hX3 hm3=>?_)
 ·have hm0_:=(MemOk.bck hm2 hm)
  have f_q:=(NewA.stb _ _ _ _ f2_q hm.kept (turned_tys hm2) rfl)
  refine (new_b hN hS wx f_q).mono fun e w' hq_=>?_
  obtain ⟨pb,he_,nf_q,h3_⟩:=hq_
  exact ⟨pb,he_,nf_q,hm0_.offA (fun _ h=>h) h3_ (lawL_up hm0_.kept) (off_tys hm (es:=TL17) (fun _ h=>h.1) rfl)⟩
 have f3_q:=hX3
 refine hgS 24 (dz 13 0x20018040004000000) [1,2,3,8,10,11,12,51] (rE 7 fF) [(z4,0,2)] [.ops [1,1,1,1,1,1,0] [1,2],.code [1,1,1,1,1,1,1]] (pfn_b1 a b N S w z4) [] W3.heap.size ?_
 refine hcV (w:=w) (S':=(LawL (w.heap.size) w)) (Y:=Nat) (fun sb=>(pt sb 0)) (fun sb=>(pfn_b1 a b N S w z4)) (fun sb W_=>TwoE w.heap.size N S sb pa pb 0 (-30) (fun _ _=>zer16) W_) (show _ = some (9,[.agg #[i6 (N:Int),i6 (S:Int)]],some 52,[]) by kernel_rfl) tI (fun wx hm=>?_) (fun sb W4 hX4 hm4=>?_)
 ·have hm0_:=(MemOk.bck hm3 hm)
  have f_q:=(NewB.stb _ _ _ _ f3_q hm.kept (turned_tys hm3) rfl)
  refine (new_s hN hS wx f_q).mono fun e w' hq_=>?_
  obtain ⟨sb,he_,nf_q,h3_⟩:=hq_
  exact ⟨sb,he_,nf_q,hm0_.offA (fun _ h=>h) h3_ (lawL_up hm0_.kept) (off_tys hm (es:=TL17) (fun _ h=>h.1) rfl)⟩
 have f4_q:=hX4
 refine hgS 9 (dz 3 33560576) [1,2,3,8,11,12,13,53,54] [] [(z4,0,2)] [.ops [1,1,1,1,1,1,1,0] [2,3,4],.code [1,1,1,1,1,1,1,1]] (pfn_b1 a b N S w z4) [] W4.heap.size ?_
 refine hcq (i6 ((S:Int) * ((N:Int) - 1))) _ _ (some 55) [] tI rfl (fun wx hm=>ref5Blocks (N:Int) (S:Int) hg wx) fun z12 hz12=>?_
 refine hgS 3 [] [1,2,3,8,11,12,13,53,55] [] [] [.ops [1,1,1,1,1,1,1,0] [3,4],.code [1,1,1,1,1,1,1,1]] (pfn_b1 a b N S w z4) [] z12 ?_
 refine hcp (i6 q) 11 [i6 at_,i6 ((S:Int) * ((N:Int) - 1))] (some 56) [] tI rfl (fun wx hm=>by
  have h:=pick17 at_ ((S:Int) * ((N:Int) - 1)) _ hqe wx (by omega) (by omega) hat
  exact h) fun z14 hz14=>?_
 replace hz14:z12 ≤ z14:=hz14
 refine hgE 10 (dz 4 0) [1,8,11,12,13,59] [] [] [.ops [1,1,1,1,1,1,1,1,0] [3,4],.code [1,1,1,1,1,1,1,1,1]] ⟨[(1,i6 q),(8,.bool false),(11,(pt pa 0)),(12,(pt pb 0)),(13,(pt sb 0)),(59,.slice (some ⟨z14,0,none⟩) 2 2)],[⟨w.heap.size,23,true,[i6 a,i6 b]⟩,⟨z4,23,true,[i6 (N:Int),i6 (S:Int)]⟩,⟨z14,9,true,[sT s1,sT s2]⟩],[],z14 + 1⟩ ?_
 have f5_q:TwoV w.heap.size N S sb pa pb 0 (-30) q zer16 W4:=⟨_,rfl,f4_q⟩
 refine holds_gndF (bk':=(pfn_b2 a b s1 s2 N S w z4 z14)) [true,true,false] rfl (fun W6 hm hmz=>?_)
 have f6_q:TwoV w.heap.size N S sb pa pb 0 (-30) q zer16 W6:=(TwoV.stb _ _ _ _ f5_q hm.kept (turned_tys hm4) rfl)
 have hm6:MemOk w (LawL (w.heap.size) w) (pfn_b2 a b s1 s2 N S w z4 z14) [] W6.heap.size W6:=MemOk.bck hm4 hmz
 clear hm hmz
 refine hcV (w:=w) (S':=(LawL (w.heap.size) w)) (Y:=(Option Addr) × Nat) (fun yq=>.slice yq.1 2 yq.2) (fun yq=>(pfn_b2 a b s1 s2 N S w z4 z14)) (fun yq W_=>TwoV w.heap.size N S sb pa pb 0 (-30) q zer16 W_ ∧ OwnR W_ w.heap.size 9 1 yq.1 2 yq.2 (strsV [strL 16 s1,strL 16 s2])) (show _ = some (24,[.slice (some ⟨z14,0,none⟩) 2 2,i6 2,i6 16],some 60,[]) by kernel_rfl) tI (fun wx hm=>?_) (fun yq W7 hX7 hm7=>?_)
 ·have hm0_:=(MemOk.bck hm6 hm)
  have f_q:=(TwoV.stb _ _ _ _ f6_q hm.kept (turned_tys hm6) rfl)
  refine (texts_law (lo:=w.heap.size) _ TwoV.stb [s1,s2] 2 (z14) 2 rfl (by omega) wx (hm.at_ 2 rfl).lt (fun j v hj=>by rw [Nat.zero_add]; exact (hm.at_ 2 rfl).at_ hj) f_q).mono fun e w' hq_=>?_
  obtain ⟨A,ca,he_,nf_q,no_d,h3_⟩:=hq_
  exact ⟨(A,ca),he_,⟨nf_q,(no_d.below hm0_.kept.size)⟩,hm0_.offA (fun _ h=>h) h3_ (lawL_up hm0_.kept) (off_tys hm (es:=TL17) (fun _ h=>h.1) rfl)⟩
 obtain ⟨A,ca⟩:=yq
 obtain ⟨f7_q,o7_d⟩:=hX7
 replace f7_q:TwoV w.heap.size N S sb pa pb 0 (-30) q zer16 W7:=f7_q
 refine hgE 11 (dz 5 0) [1,8,11,12,13,14,62,63,65] [] [] [.ops [1,1,1,1,1,1,1,1,1,0] pfn_n1,.code [1,1,1,1,1,1,1,1,1,1]] ⟨[(1,i6 q),(8,.bool false),(11,(pt pa 0)),(12,(pt pb 0)),(13,(pt sb 0)),(14,.slice A 2 ca),(62,(pt sb 0)),(63,(pt pa 0)),(65,.agg #[i6 1,i6 q,sT ⟨#[]⟩])],(pfn_b2 a b s1 s2 N S w z4 z14),[],W7.heap.size⟩ ?_
 obtain ⟨gA,rfl,_⟩:=OwnR.cell (j:=0) (v:=sT (strL 16 s1)) o7_d rfl
 refine holds_prune [1,8,11,12,13,14,62,63,65] [false,false,false] ?_
 refine hcV (w:=w) (S':=(LawL (w.heap.size) w)) (Y:=Unit) (fun _=>.tuple #[i6 0,sT zer16,.bool true]) (fun _=>[]) (fun _ W_=>TwoV w.heap.size N S sb pa pb (0 + 1) 0 q zer16 W_ ∧ OwnR W_ w.heap.size 9 1 (some ⟨gA,0,none⟩) 2 ca (strsV [strL 16 s1,strL 16 s2])) (show _ = some (23,[(pt sb 0),(pt pa 0),i6 0,.agg #[i6 1,i6 q,sT ⟨#[]⟩]],some 66,[]) by kernel_rfl) tI (fun wx hm=>?_) (fun y_ W8 hX8 hm8=>?_)
 ·have hm0_:=(MemOk.bck hm7 hm)
  have f_q:=(TwoV.stb _ _ _ _ f7_q hm.kept (turned_tys hm7) rfl)
  have o_d:=(o7_d.keptT hm.kept (turned_tys hm7) rfl)
  refine (rd_a hN hS hq0 (by omega) (by omega) wx f_q).mono fun e w' hq_=>?_
  obtain ⟨he_,nf_q,h3_⟩:=hq_
  exact ⟨(),he_,⟨nf_q,(o_d.keptT h3_ (fun _ h=>h.1) rfl)⟩,hm0_.offA (fun _ h=>h) h3_ (lawL_up hm0_.kept) (off_tys hm (es:=TL17) (fun _ h=>h.1) rfl)⟩
 obtain ⟨f8_q,o8_d⟩:=hX8
 refine holds_wins [⟨gA,0,[sT (strL 16 s1),sT (strL 16 s2)]⟩] (fun _ y hy=>?_) ?_
 ·obtain rfl:=List.mem_singleton.1 hy
  obtain ⟨g1,e1,l1,l2,c1⟩:=OwnR.cell (j:=0) (v:=sT (strL 16 s1)) o8_d rfl
  obtain ⟨g2,e2,_,_,c2⟩:=OwnR.cell (j:=1) (v:=sT (strL 16 s2)) o8_d rfl
  cases e1
  cases e2
  refine ⟨fun ⟨b,hb,_⟩=>(by cases hb),l2,fun j v hj=>?_⟩
  match j,hj with
  | 0,hj=>cases hj; exact c1
  | 1,hj=>cases hj; exact c2
 refine hgS 20 [oh0,oh0,oh0,oh0,oh0,oh0,oh0,oh0,oh0,oh0,oh0,oh2,⟨false,0,[⟨true,0,0,1⟩]⟩,oh0] [1,8,11,12,13,14,15,16,17,71,72,77] [oE ((0:Int) ≤ 0 ∧ 0 < ((2:Nat):Int))] [(gA,0,1)] [.ops [1,1,1,1,1,1,1,1,1,1,0] [7,8,9,10,11,12,13,14],.code [1,1,1,1,1,1,1,1,1,1,1]] [] [⟨gA,0,[sT (strL 16 s1),sT (strL 16 s2)]⟩] W8.heap.size ?_
 refine hcV (w:=w) (S':=(LawL (w.heap.size) w)) (Y:=Unit) (fun _=>.tuple #[i6 0,sT ⟨#[]⟩,.bool true]) (fun _=>[]) (fun _ W_=>TwoV w.heap.size N S sb pa pb (0 + 1 + 1) 100 q (strL 16 s1) W_ ∧ OwnR W_ w.heap.size 9 1 (some ⟨gA,0,none⟩) 2 ca (strsV [strL 16 s1,strL 16 s2])) (show _ = some (23,[(pt sb 0),(pt pb 0),i6 100,.agg #[i6 2,i6 q,sT (strL 16 s1)]],some 78,[]) by kernel_rfl) tI (fun wx hm=>?_) (fun y_ W9 hX9 hm9=>?_)
 ·have hm0_:=(MemOk.bck hm8 hm)
  have f_q:=(TwoV.stb _ _ _ _ f8_q hm.kept (turned_tys hm8) rfl)
  have o_d:=(o8_d.keptT hm.kept (turned_tys hm8) rfl)
  refine (wr_b (size_strL 16 s1) hN hS hq0 (by omega) (by omega) wx f_q).mono fun e w' hq_=>?_
  obtain ⟨he_,nf_q,h3_⟩:=hq_
  exact ⟨(),he_,⟨nf_q,(o_d.keptT h3_ (fun _ h=>h.1) rfl)⟩,hm0_.offA (fun _ h=>h) h3_ (lawL_up hm0_.kept) (off_tys hm (es:=TL17) (fun _ h=>h.1) rfl)⟩
 obtain ⟨f9_q,o9_d⟩:=hX9
 refine hgS 17 pfn_n2 [1,8,11,12,13,14,15,16,17,18,20,83,84,86] [] [] [.ops [1,1,1,1,1,1,1,1,1,1,1,0] pfn_n1,.code [1,1,1,1,1,1,1,1,1,1,1,1]] [] [] W9.heap.size ?_
 refine hcV (w:=w) (S':=(LawL (w.heap.size) w)) (Y:=Unit) (fun _=>.tuple #[i6 0,sT (strL 16 s1),.bool true]) (fun _=>[]) (fun _ W_=>TwoV w.heap.size N S sb pa pb (0 + 1 + 1 + 1) 300 q (strL 16 s1) W_ ∧ OwnR W_ w.heap.size 9 1 (some ⟨gA,0,none⟩) 2 ca (strsV [strL 16 s1,strL 16 s2])) (show _ = some (23,[(pt sb 0),(pt pa 0),i6 300,.agg #[i6 1,i6 q,sT ⟨#[]⟩]],some 87,[]) by kernel_rfl) tI (fun wx hm=>?_) (fun y_ W10 hX10 hm10=>?_)
 ·have hm0_:=(MemOk.bck hm9 hm)
  have f_q:=(TwoV.stb _ _ _ _ f9_q hm.kept (turned_tys hm9) rfl)
  have o_d:=(o9_d.keptT hm.kept (turned_tys hm9) rfl)
  refine (rd_a hN hS hq0 (by omega) (by omega) wx f_q).mono fun e w' hq_=>?_
  obtain ⟨he_,nf_q,h3_⟩:=hq_
  exact ⟨(),he_,⟨nf_q,(o_d.keptT h3_ (fun _ h=>h.1) rfl)⟩,hm0_.offA (fun _ h=>h) h3_ (lawL_up hm0_.kept) (off_tys hm (es:=TL17) (fun _ h=>h.1) rfl)⟩
 obtain ⟨f10_q,o10_d⟩:=hX10
 refine hgS 17 pfn_n2 [1,8,11,12,13,14,15,16,17,18,20,21,22,23,92,93,95] [] [] [.ops [1,1,1,1,1,1,1,1,1,1,1,1,0] pfn_n1,.code [1,1,1,1,1,1,1,1,1,1,1,1,1]] [] [] W10.heap.size ?_
 refine hcV (w:=w) (S':=(LawL (w.heap.size) w)) (Y:=Unit) (fun _=>.tuple #[i6 0,sT (strL 16 s1),.bool true]) (fun _=>[]) (fun _ W_=>TwoV w.heap.size N S sb pa pb (0 + 1 + 1 + 1 + 1) 500 q (strL 16 s1) W_ ∧ OwnR W_ w.heap.size 9 1 (some ⟨gA,0,none⟩) 2 ca (strsV [strL 16 s1,strL 16 s2])) (show _ = some (23,[(pt sb 0),(pt pb 0),i6 500,.agg #[i6 1,i6 q,sT ⟨#[]⟩]],some 96,[]) by kernel_rfl) tI (fun wx hm=>?_) (fun y_ W11 hX11 hm11=>?_)
 ·have hm0_:=(MemOk.bck hm10 hm)
  have f_q:=(TwoV.stb _ _ _ _ f10_q hm.kept (turned_tys hm10) rfl)
  have o_d:=(o10_d.keptT hm.kept (turned_tys hm10) rfl)
  refine (rd_b hN hS hq0 (by omega) (by omega) wx f_q).mono fun e w' hq_=>?_
  obtain ⟨he_,nf_q,h3_⟩:=hq_
  exact ⟨(),he_,⟨nf_q,(o_d.keptT h3_ (fun _ h=>h.1) rfl)⟩,hm0_.offA (fun _ h=>h) h3_ (lawL_up hm0_.kept) (off_tys hm (es:=TL17) (fun _ h=>h.1) rfl)⟩
 obtain ⟨f11_q,o11_d⟩:=hX11
 refine holds_wins [⟨gA,0,[sT (strL 16 s1),sT (strL 16 s2)]⟩] (fun _ y hy=>?_) ?_
 ·obtain rfl:=List.mem_singleton.1 hy
  obtain ⟨g1,e1,l1,l2,c1⟩:=OwnR.cell (j:=0) (v:=sT (strL 16 s1)) o11_d rfl
  obtain ⟨g2,e2,_,_,c2⟩:=OwnR.cell (j:=1) (v:=sT (strL 16 s2)) o11_d rfl
  cases e1
  cases e2
  refine ⟨fun ⟨b,hb,_⟩=>(by cases hb),l2,fun j v hj=>?_⟩
  match j,hj with
  | 0,hj=>cases hj; exact c1
  | 1,hj=>cases hj; exact c2
 refine hgS 20 [oh0,oh0,oh0,oh0,oh0,oh0,oh0,oh0,oh0,oh0,oh0,oh2,⟨false,0,[⟨true,0,1,1⟩]⟩,oh0] [1,8,12,13,14,15,16,17,18,20,21,22,23,24,26,101,102,107] [oE ((0:Int) ≤ 1 ∧ 1 < ((2:Nat):Int))] [(gA,1,1)] [.ops [1,1,1,1,1,1,1,1,1,1,1,1,1,0] [7,8,9,10,11,12,13,14],.code [1,1,1,1,1,1,1,1,1,1,1,1,1,1]] [] [⟨gA,0,[sT (strL 16 s1),sT (strL 16 s2)]⟩] W11.heap.size ?_
 refine hcV (w:=w) (S':=(LawL (w.heap.size) w)) (Y:=Unit) (fun _=>.tuple #[i6 0,sT ⟨#[]⟩,.bool true]) (fun _=>[]) (fun _ W_=>TwoV w.heap.size N S sb pa pb (0 + 1 + 1 + 1 + 1 + 1) 700 q (strL 16 s2) W_ ∧ OwnR W_ w.heap.size 9 1 (some ⟨gA,0,none⟩) 2 ca (strsV [strL 16 s1,strL 16 s2])) (show _ = some (23,[(pt sb 0),(pt pa 0),i6 700,.agg #[i6 2,i6 q,sT (strL 16 s2)]],some 108,[]) by kernel_rfl) tI (fun wx hm=>?_) (fun y_ W12 hX12 hm12=>?_)
 ·have hm0_:=(MemOk.bck hm11 hm)
  have f_q:=(TwoV.stb _ _ _ _ f11_q hm.kept (turned_tys hm11) rfl)
  have o_d:=(o11_d.keptT hm.kept (turned_tys hm11) rfl)
  refine (wr_a (size_strL 16 s2) hN hS hq0 (by omega) (by omega) wx f_q).mono fun e w' hq_=>?_
  obtain ⟨he_,nf_q,h3_⟩:=hq_
  exact ⟨(),he_,⟨nf_q,(o_d.keptT h3_ (fun _ h=>h.1) rfl)⟩,hm0_.offA (fun _ h=>h) h3_ (lawL_up hm0_.kept) (off_tys hm (es:=TL17) (fun _ h=>h.1) rfl)⟩
 obtain ⟨f12_q,o12_d⟩:=hX12
 refine hgS 17 pfn_n2 [8,14,15,16,17,18,20,21,22,23,24,26,27,29,113,114,116] [] [] [.ops [1,1,1,1,1,1,1,1,1,1,1,1,1,1,0] pfn_n1,.code [1,1,1,1,1,1,1,1,1,1,1,1,1,1,1]] [] [] W12.heap.size ?_
 refine hcV (w:=w) (S':=(LawL (w.heap.size) w)) (Y:=Unit) (fun _=>.tuple #[i6 0,sT (strL 16 s2),.bool true]) (fun _=>[]) (fun _ W_=>TwoV w.heap.size N S sb pa pb (0 + 1 + 1 + 1 + 1 + 1 + 1) 900 q (strL 16 s2) W_ ∧ OwnR W_ w.heap.size 9 1 (some ⟨gA,0,none⟩) 2 ca (strsV [strL 16 s1,strL 16 s2])) (show _ = some (23,[(pt sb 0),(pt pb 0),i6 900,.agg #[i6 1,i6 q,sT ⟨#[]⟩]],some 117,[]) by kernel_rfl) tI (fun wx hm=>?_) (fun y_ W13 hX13 hm13=>?_)
 ·have hm0_:=(MemOk.bck hm12 hm)
  have f_q:=(TwoV.stb _ _ _ _ f12_q hm.kept (turned_tys hm12) rfl)
  have o_d:=(o12_d.keptT hm.kept (turned_tys hm12) rfl)
  refine (rd_b hN hS hq0 (by omega) (by omega) wx f_q).mono fun e w' hq_=>?_
  obtain ⟨he_,nf_q,h3_⟩:=hq_
  exact ⟨(),he_,⟨nf_q,(o_d.keptT h3_ (fun _ h=>h.1) rfl)⟩,hm0_.offA (fun _ h=>h) h3_ (lawL_up hm0_.kept) (off_tys hm (es:=TL17) (fun _ h=>h.1) rfl)⟩
 obtain ⟨f13_q,o13_d⟩:=hX13
 refine hgE 41 (dz 32 0x11031100031031031031031000000000) [8,14,18,21,22,24,27,30,31,142,143,144] (rE 15 tT) [] [.ops [1,1,1,1,1,1,1,1,1,1,1,1,1,1,1,1,0] [8,9,10,11,12,13,14,15,16,17,18,19,20,21,22,23,24,25,26,27,28,29,30,31,32,33,34,35,36,37,38,39,40,41,42,43,44,45],.code [1,1,1,1,1,1,1,1,1,1,1,1,1,1,1,1,1]] ⟨[(8,.bool false),(14,.slice (some ⟨gA,0,none⟩) 2 ca),(18,i6 0),(21,i6 0),(22,sT (strL 16 s1)),(24,i6 0),(27,i6 0),(30,i6 0),(31,sT (strL 16 s2)),(142,.bool true),(143,sT zer16),(144,.slice (some ⟨W13.heap.size,0,none⟩) 16 16)],[⟨W13.heap.size,5,true,(pfn_v1)⟩],[],W13.heap.size + 1⟩ ?_
 refine holds_opRG (dst:=(some 145)) (x:=convert 34 9 (.slice (some ⟨W13.heap.size,0,none⟩) 16 16)) (ob:=true = true) (sT zer16) (by kernel_rfl) (rfl) (by kernel_rfl) rfl (fun wx hm=>?_) ?_
 ·exact run_bytesAt (P:=Tryz.prog) wx 34 9 5 _ _ _ _ _ (List.replicate 16 0) [] [] (by kernel_rfl) (by kernel_rfl) (by kernel_rfl) (hm.at_ 0 rfl) rfl rfl byts16z
 refine holds_wins [⟨gA,0,[sT (strL 16 s1),sT (strL 16 s2)]⟩] (fun _ y hy=>?_) ?_
 ·obtain rfl:=List.mem_singleton.1 hy
  obtain ⟨g1,e1,l1,l2,c1⟩:=OwnR.cell (j:=0) (v:=sT (strL 16 s1)) o13_d rfl
  obtain ⟨g2,e2,_,_,c2⟩:=OwnR.cell (j:=1) (v:=sT (strL 16 s2)) o13_d rfl
  cases e1
  cases e2
  refine ⟨fun ⟨b,hb,_⟩=>(by cases hb),l2,fun j v hj=>?_⟩
  match j,hj with
  | 0,hj=>cases hj; exact c1
  | 1,hj=>cases hj; exact c2
 refine hgS 41 [oh1,oh3,oh0,oh1,oh1,oh3,oh0,oh1,oh1,oh3,oh0,oh1,oh1,⟨true,1,[]⟩,⟨true,0,[⟨true,0,0,1⟩]⟩,oh1,oh3,oh0,oh1,oh1,oh3,oh0,oh1,oh1,oh3,oh0,oh1,oh1,oh3,oh0,oh1,oh1,⟨true,1,[]⟩,⟨true,0,[⟨true,0,1,1⟩]⟩,oh1,oh3,oh0] [8] ([tT,tT] ++ rE 3 (oE ((ByteArray.toList zer16 == ByteArray.toList zer16) = true) (beq_self_eq_true _)) ++ [tT,tT,tT,tT,tT,tT,oE ((0:Int) ≤ 0 ∧ 0 < ((2:Nat):Int)),tT,tT,tT] ++ rE 3 (oE ((ByteArray.toList (strL 16 s1) == ByteArray.toList (strL 16 s1)) = true) (beq_self_eq_true _)) ++ rE 9 tT ++ [oE ((0:Int) ≤ 1 ∧ 1 < ((2:Nat):Int)),tT,tT,tT]) [(gA,0,1),(gA,1,1)] [.code [1,1,1,1,1,1,1,1,1,1,1,1,1,1,1,1,1]] [⟨W13.heap.size,5,true,(pfn_v1)⟩] [⟨gA,0,[sT (strL 16 s1),sT (strL 16 s2)]⟩] (W13.heap.size + 1) ?_
 refine hrt [] [.bool (ByteArray.toList (strL 16 s2) == ByteArray.toList (strL 16 s2))] [] ?_
 intro wx hm
 exact ⟨ret_bool (beq_self_eq_true _),lawL_none (MemOk.bck hm13 hm).kept⟩
end Go.Proofs.YtcmpkkapkdlfhaaGreat
