import Derived.Test.YtcmpkkapkdlfhaaGreatMade17
namespace Go.Proofs.YtcmpkkapkdlfhaaGreat
open Go.RowKit
set_option maxHeartbeats 4000000
set_option maxRecDepth 100000
def txt_v1:List Value:=rp 16 (.int .u8 0)
def txt_n1:List Nat:=[1,1,0,1,0,0,1,0,0,1,1]
def TxtI (R:List ByteArray) (n:Nat) (gR:Nat) (cR:Nat) (w:World)  (m:Nat) (st:St) (W0:World):Prop:=
 ∃ (i:Nat) (A:Option Addr) (cp:Nat) (z:Nat),m + i = n ∧ i ≤ n ∧ OwnR W0 w.heap.size 9 1 A i cp (strsV ((R.map (strL 16)).take i)) ∧ st = ⟨[(0,.slice (some ⟨gR,0,none⟩) n cR),(1,i6 (n:Int)),(2,i6 16),(6,.slice none 0 0),(7,.slice A i cp),(8,i6 (i:Int))],[],[],z⟩
theorem texts_list (R:List ByteArray) (n gR cR:Nat) (hn:R.length = n) (h9:n ≤ 9) (w:World) (hg:gR < w.heap.size) (hc:∀ (j:Nat) (v:Value),(strsV R)[j]? = some v → w.cell? ⟨gR,0 + j,none⟩ = some v) :
  Calls Tryz.prog 24 #[.slice (some ⟨gR,0,none⟩) n cR,i6 (n:Int),i6 16] w (fun e w'=>∃ A_ c_,e = .returned (.slice A_ n c_) ∧ OwnR w' w.heap.size 9 1 A_ n c_ (strsV (R.map (strL 16))) ∧ Kept (fun _=>False) w w'):=by
 refine cH (S:=(fun _=>False)) (n:=33) Tryz.func24 (MemOk.none w _) ?_
 refine hgE 17 (dz 3 0) [0,1,2,6,7,8] [] [] [.code [1,1,0,1,0],.blk 0,.code [1,1,1]] ⟨[(0,.slice (some ⟨gR,0,none⟩) n cR),(1,i6 (n:Int)),(2,i6 16),(6,.slice none 0 0),(7,.slice none 0 0),(8,i6 0)],[],[],w.heap.size⟩ ?_
 refine holds_loopW (w:=w) (S':=fun _=>False) (TxtI R n gR cR w) n (by kernel_rfl) (fun W0 hm=>⟨⟨0,none,0,_,by omega,by omega,OwnR.nil _ _ _ _,rfl⟩,hm⟩) ?_
 rintro m _ W1 ⟨i,A,cp,z,hmi,hin,hO1,rfl⟩ hm1 J hJ
 by_cases h1:i < n
 rotate_left
 ·skip
  refine hgS 17 (dz 6 0) [6] [dF (((i:Int):Int) < (n:Int))] [] [.code [1,1,1,1]] [] [] W1.heap.size ?_
  refine hrt [] [.slice A i cp] [] ?_
  intro wx hm
  obtain rfl:i = n:=by omega
  have hO2:=hO1.keptT (es:=[]) hm.kept (fun y ⟨b,hb,_⟩=>by cases hb) rfl
  rw [List.take_of_length_le (by simp [hn])] at hO2
  exact ⟨A,cp,rfl,hO2,(MemOk.bck hm1 hm).kept⟩
 obtain ⟨s,hs⟩:∃ s,R[i]? = some s:=⟨_,List.getElem?_eq_getElem (by omega)⟩
 refine holds_wins [⟨gR,0 + i * 1,[sT s]⟩] (fun _ y hy=>?_) ?_
 ·obtain rfl:=List.mem_singleton.1 hy
  exact ⟨(fun ⟨b,hb,_⟩=>by cases hb),Nat.lt_of_lt_of_le hg hm1.kept.size,strs_cell (fun j v hj=>cell_kept hm1.kept hg (hc j v hj)) hs⟩
 refine hgE 35 [oh0,oh0,oh0,oh1,oh0,oh0,oh0,oh0,oh0,oh0,oh0,oh1,oh0,oh0,oh0,oh2,⟨false,0,[⟨true,0,0,1⟩]⟩] [0,1,2,6,7,8,9,21,25] (rE 2 (dT (((i:Int):Int) < (n:Int))) ++ [oE ((0:Int) ≤ (i:Int) ∧ (i:Int) < ((n:Nat):Int))]) [(gR,0 + i * 1,1)] [.ops [1,1,0,1,0,0,1,0,0,1,0,1,0] [5],.code txt_n1,.blk 1,.code [1,1,0,1,0,0,1,1],.inv J,.blk 0,.code [1,1,1]] ⟨[(0,.slice (some ⟨gR,0,none⟩) n cR),(1,i6 (n:Int)),(2,i6 16),(6,.slice none 0 0),(7,.slice A i cp),(8,i6 (i:Int)),(9,.slice (some ⟨W1.heap.size,0,none⟩) 16 16),(21,.slice (some ⟨W1.heap.size,0,none⟩) 16 16),(25,sT s)],[⟨W1.heap.size,5,true,(txt_v1)⟩],[⟨gR,0 + i * 1,[sT s]⟩],W1.heap.size + 1⟩ ?_
 refine holds_op1 (dst:=(some 26)) (x:=Builtin.copy_ #[34,9] 3 #[.slice (some ⟨W1.heap.size,0,none⟩) 16 16,sT s]) (i6 ((Nat.min (s.size) 16:Nat):Int)) [⟨W1.heap.size,5,true,(bytesV (cutL 16 s))⟩] (by kernel_rfl) (by kernel_rfl) rfl (fun wx hm=>?_) fun z5 hz5=>?_
 ·have hB:=hm.at_ 0 rfl
  have h1:=run_copyStr (P:=Tryz.prog) wx 34 9 3 5 _ 16 16 _ s _ (by kernel_rfl) (by kernel_rfl) hB (Nat.le_of_ble_eq_true (by kernel_rfl))
  have h2:=hm.set1 0 (b:=⟨W1.heap.size,5,true,List.replicate 16 (.int .u8 0)⟩) (cs:=bytesV (cutL 16 s)) rfl rfl (setRow_kept wx _ _) (by
   have:=setRow_blk hB (bytesV (cutL 16 s))
   exact this)
  refine ⟨_,h1,?_⟩
  rw [show (List.replicate 16 (Value.int .u8 0)) = (txt_v1) from rfl] at h2
  have e:=copy_cut 16 s
  rw [show (List.replicate 16 (Value.int .u8 0)) = (txt_v1) from rfl] at e
  rw [e]
  exact h2
 replace hz5:W1.heap.size + 1 ≤ z5:=hz5
 refine hgE 7 (dz 2 0) [0,1,2,6,7,8,27,28] [] [] [.ops txt_n1 [2,3,4,5],.blk 1,.code [1,1,0,1,0,0,1,1],.inv J,.blk 0,.code [1,1,1]] ⟨[(0,.slice (some ⟨gR,0,none⟩) n cR),(1,i6 (n:Int)),(2,i6 16),(6,.slice none 0 0),(7,.slice A i cp),(8,i6 (i:Int)),(27,.slice A i cp),(28,.slice (some ⟨W1.heap.size,0,none⟩) 16 16)],[⟨W1.heap.size,5,true,(bytesV (cutL 16 s))⟩],[⟨gR,0 + i * 1,[sT s]⟩],z5⟩ ?_
 refine holds_opR (dst:=(some 29)) (x:=convert 34 9 (.slice (some ⟨W1.heap.size,0,none⟩) 16 16)) (sT (strL 16 s)) (by kernel_rfl) (by kernel_rfl) rfl (fun wx hm=>?_) ?_
 ·exact run_bytesBack wx _ _ 5 _ _ _ _ _ (by kernel_rfl) (by kernel_rfl) (by kernel_rfl) (hm.at_ 0 rfl) (length_cutL _ _)
 refine hgE 4 [oh0] [0,1,2,6,7,8,27,30] [] [] [.ops txt_n1 [4,5],.blk 1,.code [1,1,0,1,0,0,1,1],.inv J,.blk 0,.code [1,1,1]] ⟨[(0,.slice (some ⟨gR,0,none⟩) n cR),(1,i6 (n:Int)),(2,i6 16),(6,.slice none 0 0),(7,.slice A i cp),(8,i6 (i:Int)),(27,.slice A i cp),(30,.slice (some ⟨z5,0,none⟩) 1 1)],[⟨W1.heap.size,5,true,(bytesV (cutL 16 s))⟩,⟨z5,9,true,[sT (strL 16 s)]⟩],[⟨gR,0 + i * 1,[sT s]⟩],z5 + 1⟩ ?_
 refine holds_opV (w:=w) (S':=(fun _=>False)) (Y:=Option Addr × Nat) (dst:=(some 31)) (x:=Builtin.append_ #[32,32] 32 #[.slice A i cp,.slice (some ⟨z5,0,none⟩) 1 1]) (fun yq=>.slice yq.1 (i + 1) yq.2) [] (fun yq W_=>OwnR W_ w.heap.size 9 1 yq.1 (i + 1) yq.2 (strsV ((R.map (strL 16)).take (i + 1)))) (fun yq=>[(31,.slice yq.1 (i + 1) yq.2),(0,.slice (some ⟨gR,0,none⟩) n cR),(1,i6 (n:Int)),(2,i6 16),(6,.slice none 0 0),(7,.slice A i cp),(8,i6 (i:Int)),(27,.slice A i cp),(30,.slice (some ⟨z5,0,none⟩) 1 1)]) (by kernel_rfl) (by kernel_rfl) (fun _=>rfl) (fun wx hm=>?_) (fun yq W3 hXa hma=>?_)
 ·have hO_:=hO1.keptT (es:=[]) hm.kept (fun y ⟨b,hb,_⟩=>by cases hb) rfl
  have hm0:=MemOk.bck hm1 hm
  obtain ⟨A',cp',w',h1,h2,h3,h4⟩:=run_appendR (P:=Tryz.prog) wx w.heap.size 32 32 9 (sT ⟨#[]⟩) 1 16 A i cp (strsV ((R.map (strL 16)).take i)) ⟨z5,0,none⟩ 1 1 [sT (strL 16 s)] (by kernel_rfl) (by kernel_rfl) (by kernel_rfl) (by decide) hO_ rfl (fun j x hj=>by rw [add_norm,Nat.zero_add]; exact (hm.at_ 1 rfl).at_ hj) (ones_all rfl) (by omega) (by decide) hm0.kept.size
  rw [show strsV ((R.map (strL 16)).take i) ++ [sT (strL 16 s)] = strsV ((R.map (strL 16)).take (i + 1)) by rw [List.take_add_one,List.getElem?_map,hs]; simp [strsV]] at h2
  exact ⟨(A',cp'),w',h1,h2,(hm0.sub (bk':=[]) (by simp)).offA (fun _ h=>h) h3 (fun y hy=>.inr (hO_.own y hy).1) (off_tys (hm0.sub (bk':=[]) (by simp)) (own_tys hO_) rfl)⟩
 obtain ⟨A2,cp2⟩:=yq
 refine hgE 11 (dz 4 512) [0,1,2,6,7,8] [n64 (((i:Int) + 1))] [] [.inv J,.blk 0,.code [1,1,1]] ⟨[(0,.slice (some ⟨gR,0,none⟩) n cR),(1,i6 (n:Int)),(2,i6 16),(6,.slice none 0 0),(7,.slice A2 (i + 1) cp2),(8,i6 ((i:Int) + 1))],[],[],W3.heap.size⟩ ?_
 rw [← cast_succ i]
 intro a_ w9 hf hm
 exact hJ (m - 1) _ a_ w9 (by omega) ⟨i + 1,A2,cp2,_,by omega,by omega,hXa.keptT (es:=[]) hm.kept (fun y ⟨b,hb,_⟩=>by cases hb) rfl,rfl⟩ hf (MemOk.bck hma hm)
theorem platRight_no  (w:World) :
  Calls Tryz.prog 26 #[.agg #[i6 0,i6 0]] w (RetK (.bool false) w):=by
 refine cH (S:=(fun _=>False)) (n:=14) Tryz.func26 (MemOk.none w _) ?_
 refine hgS 23 (dz 14 0x2000010108000010008002000800) [2] [vV] [(w.heap.size,0,2),(w.heap.size,0,1),(w.heap.size,1,1)] [.code [1,1]] [⟨w.heap.size,23,true,[i6 0,i6 0]⟩] [] (w.heap.size + 1) ?_
 refine hrt [] [.bool false] [] ?_
 intro wx hm
 exact ⟨rfl,hm.kept⟩
theorem pil_no  (w:World) :
  Calls Tryz.prog 8 #[.agg #[i6 0,i6 0],i6 0,i6 1] w (RetK (.pointer none) w):=by
 refine cH (S:=(fun _=>False)) (n:=34) Tryz.func8 (MemOk.none w _) ?_
 refine hgS 12 (dz 3 33556480) [1,2,3,6,7] [] [(w.heap.size,0,2)] [.ops [1,0,0] [1,2,3,4,5,6,7,8,9,10,11,12,13,14,15,16,17,18],.code [1,0,1],.code [1,1]] [⟨w.heap.size,23,true,[i6 0,i6 0]⟩] [] (w.heap.size + 1) ?_
 refine hcq (.bool false) _ _ (some 8) [] tI rfl (fun wx hm=>platRight_no wx) fun z2 hz2=>?_
 refine hgS 26 (dz 19 0x131103110311031100) [1,2,3,6] (rE 13 tT) [] [.code [1,0,1,0,1],.code [1,1]] [⟨w.heap.size,23,true,[i6 0,i6 0]⟩] [] z2 ?_
 refine hrt [] [.pointer none] [] ?_
 intro wx hm
 exact ⟨rfl,hm.kept⟩
theorem bit_s0 (v u t:Nat):v + 2 * u * t = v + u * (2 * t + 0):=by rw [Nat.add_zero,Nat.mul_comm 2 u,Nat.mul_assoc]
theorem bit_s1 (v u t:Nat):v + u + 2 * u * t = v + u * (2 * t + 1):=by
 rw [Nat.mul_add,Nat.mul_one,Nat.mul_comm 2 u,Nat.mul_assoc]
 omega
theorem bit_xhalf (x y:Nat):x ^^^ y = 2 * (x / 2 ^^^ y / 2) + (if x % 2 = y % 2 then 0 else 1):=by
 have h1:(x ^^^ y) / 2 = x / 2 ^^^ y / 2:=Nat.xor_div_two
 have h2:(x ^^^ y) % 2 = 1 ↔ ¬ (x % 2 = 1 ↔ y % 2 = 1):=Nat.xor_mod_two_eq_one
 rw [← h1]
 split
 ·have h3:¬ (x ^^^ y) % 2 = 1:=fun h=>(h2.1 h) (by omega)
  omega
 ·have h3:(x ^^^ y) % 2 = 1:=h2.2 (by omega)
  omega
theorem bit_hlt {i x:Nat} (hi:i < 8) (h:x < 2 ^ (8 - i)):x / 2 < 2 ^ (8 - (i + 1)):=by
 have e:8 - i = (8 - (i + 1)) + 1:=by omega
 rw [e,Nat.pow_succ] at h
 omega
theorem bit_bd {i x y u v a b:Nat} (h1:i < 8) (hu:u = 2 ^ i) (hx:x < 2 ^ (8 - i)) (hy:y < 2 ^ (8 - i)) (hv:v + u * (x ^^^ y) = a ^^^ b) (hxy:a ^^^ b < 2 ^ 8):0 < u ∧ u ≤ 128 ∧ x < 256 ∧ y < 256 ∧ v < 256:=by
 have e1:2 ^ i ≤ 2 ^ 7:=Nat.pow_le_pow_right (by decide) (by omega)
 have e2:2 ^ (8 - i) ≤ 2 ^ 8:=Nat.pow_le_pow_right (by decide) (by omega)
 have e3:0 < 2 ^ i:=Nat.pow_pos (by decide)
 omega
def BitI (a b:Nat) (w:World) (m:Nat) (st:St):Prop:=∃ (i x y u v z:Nat),m + i = 8 ∧ w.heap.size ≤ z ∧ v + u * (x ^^^ y) = a ^^^ b ∧ u = 2 ^ i ∧ x < 2 ^ (8 - i) ∧ y < 2 ^ (8 - i) ∧ st = ⟨[(4,u6 0),(5,i6 (v:Int)),(6,i6 (u:Int)),(7,i6 (x:Int)),(8,i6 (y:Int)),(9,i6 (i:Int))],[],[],z⟩
theorem ref1bit (a b:Nat) (ha:a < 2 ^ 8) (hb:b < 2 ^ 8) (w:World) :
  Calls Tryz.prog 103 #[.int .u8 (a:Int),.int .u8 (b:Int)] w (RetK (.int .u8 ((a ^^^ b:Nat):Int)) w):=by
 refine cH (S:=(fun _=>False)) (n:=34) Tryz.func103 (MemOk.none w _) ?_
 refine hgE 33 (dz 10 537001984) [4,5,6,7,8,9] [n64 ((a:Int)),n64 ((b:Int))] [] [.code [1,1,1,1,1,0,1,0],.blk 0,.code [1,1,1,1,1,1]] ⟨[(4,u6 0),(5,i6 0),(6,i6 1),(7,i6 (a:Int)),(8,i6 (b:Int)),(9,i6 0)],[],[],w.heap.size⟩ ?_
 refine holds_loop (BitI a b w) 8 (by kernel_rfl) ⟨0,a,b,1,0,_,rfl,Nat.le_refl _,by omega,rfl,ha,hb,rfl⟩ ?_
 rintro m _ ⟨i,x,y,u,v,z,hmi,hz,hv,hu,hx,hy,rfl⟩ J hJ
 have hxy:=Nat.xor_lt_two_pow ha hb
 by_cases h1:i < 8
 rotate_left
 ·skip
  have hi8:i = 8:=by omega
  rw [hi8] at hx hy
  have hx0:x = 0:=by simp at hx; omega
  have hy0:y = 0:=by simp at hy; omega
  subst hx0 hy0
  have hve:v = a ^^^ b:=by simpa using hv
  have hvl:v < 256:=by omega
  refine hgS 17 (dz 6 131072) [4] [dF (((i:Int):Int) < 8),n8 ((v:Int))] [] [.code [1,1,1,1,1,1,1]] [] [] z ?_
  refine hrt [] [u6 (v:Int)] [] ?_
  intro wx hm
  exact ⟨by rw [hve]; rfl,hm.kept⟩
 obtain ⟨h2i,hul,hxl,hyl,hvl⟩:=bit_bd h1 hu hx hy hv hxy
 by_cases h2:x % 2 = y % 2
 ·skip
  refine hgE 47 (dz 21 0x20020020020002020100) [4,5,6,7,8,9] [dT (((i:Int):Int) < 8),oE ((0:Int) ≤ (x:Int) ∧ (0:Int) < 2),oE ((0:Int) ≤ (y:Int) ∧ (0:Int) < 2),oE ((((x:Int) % 2) != ((y:Int) % 2)) = false) (bne_eq_false_iff_eq.2 (by omega)),oE ((0:Int) ≤ (x:Int) ∧ (0:Int) < 2 ∧ (x:Int) ≤ IntKind.max .i64) (⟨by omega,by omega,le_max64 (by omega)⟩),oE ((0:Int) ≤ (y:Int) ∧ (0:Int) < 2 ∧ (y:Int) ≤ IntKind.max .i64) (⟨by omega,by omega,le_max64 (by omega)⟩),n64 ((2 * (u:Int))),n64 (((i:Int) + 1))] [] [.inv J,.blk 0,.code [1,1,1,1,1,1]] ⟨[(4,u6 0),(5,i6 (v:Int)),(6,i6 (2 * (u:Int))),(7,i6 ((x:Int) / 2)),(8,i6 ((y:Int) / 2)),(9,i6 ((i:Int) + 1))],[],[],z⟩ ?_
  exact hJ (m - 1) _ (by omega) ⟨i + 1,x / 2,y / 2,2 * u,v,z,by omega,hz,by have h3:=bit_xhalf x y; rw [if_pos h2] at h3; rw [← hv,h3]; exact bit_s0 _ _ _,by rw [hu,Nat.pow_succ,Nat.mul_comm],bit_hlt h1 hx,bit_hlt h1 hy,rfl⟩
 ·skip
  refine hgE 52 (dz 25 0x200200200200200102020100) [4,5,6,7,8,9] [dT (((i:Int):Int) < 8),oE ((0:Int) ≤ (x:Int) ∧ (0:Int) < 2),oE ((0:Int) ≤ (y:Int) ∧ (0:Int) < 2),oE ((((x:Int) % 2) != ((y:Int) % 2)) = true) (bne_iff_ne.2 (by omega)),n64 (((v:Int) + (u:Int))),oE ((0:Int) ≤ (x:Int) ∧ (0:Int) < 2 ∧ (x:Int) ≤ IntKind.max .i64) (⟨by omega,by omega,le_max64 (by omega)⟩),oE ((0:Int) ≤ (y:Int) ∧ (0:Int) < 2 ∧ (y:Int) ≤ IntKind.max .i64) (⟨by omega,by omega,le_max64 (by omega)⟩),n64 ((2 * (u:Int))),n64 (((i:Int) + 1))] [] [.inv J,.blk 0,.code [1,1,1,1,1,1]] ⟨[(4,u6 0),(5,i6 ((v:Int) + (u:Int))),(6,i6 (2 * (u:Int))),(7,i6 ((x:Int) / 2)),(8,i6 ((y:Int) / 2)),(9,i6 ((i:Int) + 1))],[],[],z⟩ ?_
  exact hJ (m - 1) _ (by omega) ⟨i + 1,x / 2,y / 2,2 * u,v + u,z,by omega,hz,by have h3:=bit_xhalf x y; rw [if_neg h2] at h3; rw [← hv,h3]; exact bit_s1 _ _ _,by rw [hu,Nat.pow_succ,Nat.mul_comm],bit_hlt h1 hx,bit_hlt h1 hy,rfl⟩
theorem ref1bitZ (a b:Int) (ha:0 ≤ a ∧ a ≤ 255) (hb:0 ≤ b ∧ b ≤ 255) (w:World):Calls Tryz.prog 103 #[.int .u8 (a),.int .u8 (b)] w (RetK (.int .u8 (xorZ (a) (b))) w):=by
 obtain ⟨n,rfl⟩:=Int.eq_ofNat_of_zero_le ha.1
 obtain ⟨m,rfl⟩:=Int.eq_ofNat_of_zero_le hb.1
 have h:=ref1bit n m (by omega) (by omega) w
 rw [show xorZ (n:Int) (m:Int) = ((n ^^^ m:Nat):Int) by unfold xorZ; rw [Int.toNat_natCast,Int.toNat_natCast]]
 exact h
def TwoJ (a:ByteArray) (b:ByteArray) (c:Nat) (w:World)  (m:Nat) (st:St) (W0:World):Prop:=
 ∃ (j:Nat) (z:Nat),m + j = 16 ∧ FB W0 w.heap.size 5 (xorP j (intsOf a) (intsOf b)) ∧ st = ⟨[(0,sT a),(1,sT b),(4,sT ⟨#[]⟩),(5,i6 0),(6,.slice (some ⟨w.heap.size,0,none⟩) 16 c),(7,i6 (j:Int))],[],[],z⟩
theorem r1t_q9 (a:ByteArray) (b:ByteArray) (j:Nat) (c:Nat) (w:World) (W3:World):Out.prune [0,1,4,5,6,7,29,30] (qList Tryz.prog 33 W3 (Turned []) ((opsOf (getCode (bodyOf Tryz.f74) [1,1,1,0,1,0,0,1,0,0])).toList.take 10) ⟨[(0,sT a),(1,sT b),(4,sT ⟨#[]⟩),(5,i6 0),(6,.slice (some ⟨w.heap.size,0,none⟩) 16 c),(7,i6 (j:Int))],[],[],W3.heap.size⟩ [.op oh0,.op oh0,.op oh0,.op oh0,.op oh2,.op oh0,.op oh0,.op oh2,.call (u6 (xorZ (byteAt a (Int.toNat (j:Int))) (byteAt b (Int.toNat (j:Int))))),.op oh2]) = some ⟨[(0:Int) ≤ (j:Int) ∧ (j:Int) < ((a).size:Int),(0:Int) ≤ (j:Int) ∧ (j:Int) < ((b).size:Int),∀ w',MemC W3 (Turned []) [] [] W3.heap.size w' → Calls Tryz.prog 103 #[u6 (byteAt a (Int.toNat (j:Int))),u6 (byteAt b (Int.toNat (j:Int)))] w' (RetK (u6 (xorZ (byteAt a (Int.toNat (j:Int))) (byteAt b (Int.toNat (j:Int))))) w'),(0:Int) ≤ (j:Int) ∧ (j:Int) < ((16:Nat):Int)],dupR [],⟨[(0,sT a),(1,sT b),(4,sT ⟨#[]⟩),(5,i6 0),(6,.slice (some ⟨w.heap.size,0,none⟩) 16 c),(7,i6 (j:Int)),(29,u6 (xorZ (byteAt a (Int.toNat (j:Int))) (byteAt b (Int.toNat (j:Int))))),(30,.pointer (some ⟨w.heap.size,0 + j * 1,none⟩))],[],[],W3.heap.size⟩⟩:=by kernel_rfl
theorem ref1two (a b:ByteArray) (ha:a.size = 16) (hb:b.size = 16) (w:World) :
  Calls Tryz.prog 74 #[sT a,sT b] w (RetK (.tuple #[sT (bytesI (xorI (intsOf a) (intsOf b))),i6 0]) w):=by
 refine cH (S:=(fun _=>False)) (n:=33) Tryz.func74 (MemOk.none w _) ?_
 have ea:(intsOf a).length = 16:=by rw [length_intsOf,ha]
 have eb:(intsOf b).length = 16:=by rw [length_intsOf,hb]
 refine hgE 22 (dz 9 0) [0,1,4,5,13] [oE (((a.size:Int) != (b.size:Int)) = false) (bne_eq_false_iff_eq.2 (by omega))] [] [.ops [1,1,0] [1,2],.code [1,1,1]] ⟨[(0,sT a),(1,sT b),(4,sT ⟨#[]⟩),(5,i6 0),(13,sT a)],[],[],w.heap.size⟩ ?_
 refine holds_opW (w:=w) (S':=fun _=>False) (dst:=(some 14)) (x:=convert 9 34 (sT a)) (fun c=>.slice (some ⟨w.heap.size,0,none⟩) 16 c) (fun _ W=>FB W w.heap.size 5 (intsOf a)) (fun c=>[(14,.slice (some ⟨w.heap.size,0,none⟩) 16 c),(0,sT a),(1,sT b),(4,sT ⟨#[]⟩),(5,i6 0),(13,sT a)]) (by kernel_rfl) (by kernel_rfl) (fun _=>rfl) (fun wx hm=>?_) (fun c W1 hF1 hm1=>?_)
 ·obtain ⟨c,w',h1,h2,h3⟩:=run_newBytes (P:=Tryz.prog) wx 9 34 5 a (by kernel_rfl) (by kernel_rfl) (by kernel_rfl)
  rw [hm.size,ha] at h1
  rw [hm.size] at h2
  exact ⟨c,w',h1,h2,(hm.same h3).2⟩
 refine hgE 11 (dz 2 0) [0,1,4,5,6,7] [] [] [.code [1,1,1,0,1,0],.blk 0,.code [1,1,1,1]] ⟨[(0,sT a),(1,sT b),(4,sT ⟨#[]⟩),(5,i6 0),(6,.slice (some ⟨w.heap.size,0,none⟩) 16 c),(7,i6 0)],[],[],W1.heap.size⟩ ?_
 refine holds_loopW (w:=w) (S':=fun _=>False) (TwoJ a b c w) 16 (by kernel_rfl) (fun W0 hm=>⟨⟨0,_,rfl,by rw [xorP_zero]; exact hF1.kept hm.kept (fun ⟨_,h,_⟩=>by cases h),rfl⟩,MemOk.bck hm1 hm⟩) ?_
 rintro m2 _ W3 ⟨j,z,hmj,hF3,rfl⟩ hm3 J hJ2
 by_cases h2:j < 16
 rotate_left
 ·skip
  refine hgE 16 (dz 6 0) [4,5,31] [dF (((j:Int):Int) < 16)] [] [.ops [1,1,1,1,0] [1,2,3],.code [1,1,1,1,1]] ⟨[(4,sT ⟨#[]⟩),(5,i6 0),(31,.slice (some ⟨w.heap.size,0,none⟩) 16 c)],[],[],W3.heap.size⟩ ?_
  have hj16:j = 16:=by omega
  subst hj16
  rw [xorP_all ea eb] at hF3
  refine holds_opR (dst:=(some 32)) (x:=convert 34 9 (.slice (some ⟨w.heap.size,0,none⟩) 16 c)) (sT (bytesI (xorI (intsOf a) (intsOf b)))) (by kernel_rfl) (by kernel_rfl) rfl (fun wx hm=>?_) ?_
  ·exact run_bytesFB (P:=Tryz.prog) wx 34 9 5 _ _ _ 5 _ (by kernel_rfl) (by kernel_rfl) (by kernel_rfl) (hF3.kept hm.kept (fun ⟨_,h,_⟩=>by cases h)) (by rw [xorI_len (ea.trans eb.symm),ea]) (byts_xorI (byts_intsOf a) (byts_intsOf b))
  refine hgS 6 (dz 2 0) [4,5] [] [] [.code [1,1,1,1,1]] [] [] W3.heap.size ?_
  refine hrt [] [sT (bytesI (xorI (intsOf a) (intsOf b))),i6 0] [] ?_
  intro wx hm
  exact ⟨rfl,(MemOk.bck hm3 hm).kept⟩
 have hb1:=byteAt_bd a (Int.toNat (j:Int))
 have hb2:=byteAt_bd b (Int.toNat (j:Int))
 refine hgE 15 (dz 5 65536) [0,1,4,5,6,7] [dT (((j:Int):Int) < 16)] [] [.code [1,1,1,0,1,0,0,1,0,0],.blk 1,.code [1,1,1,0,1,0,0,1,1],.inv J,.blk 0,.code [1,1,1,1]] ⟨[(0,sT a),(1,sT b),(4,sT ⟨#[]⟩),(5,i6 0),(6,.slice (some ⟨w.heap.size,0,none⟩) 16 c),(7,i6 (j:Int))],[],[],W3.heap.size⟩ ?_
 refine holds_draw (f:=1) (ls:=(bA 11 1023)) 10 _ _ (by kernel_rfl) (by kernel_rfl) (by kernel_rfl) (by kernel_rfl) (r1t_q9 a b j c w W3) ⟨⟨by omega,by omega⟩,⟨by omega,by omega⟩,(fun wx hm=>ref1bitZ _ _ hb1 hb2 wx),⟨by omega,by omega⟩,trivial⟩ fun z9 hz9=>?_
 replace hz9:W3.heap.size ≤ z9:=hz9
 refine holds_anyW (i:=10) (w:=w) (S':=fun _=>False) (ls':=(bA 11 2047)) (x:=Instr.storeAt 5 (.pointer (some ⟨w.heap.size,0 + j * 1,none⟩)) (.int .u8 (xorZ (byteAt a (Int.toNat (j:Int))) (byteAt b (Int.toNat (j:Int)))))) (fun W4=>FB W4 w.heap.size 5 (xorP (j + 1) (intsOf a) (intsOf b))) (by kernel_rfl) (by kernel_rfl) (by kernel_rfl) (by kernel_rfl) (fun wx hm=>?_) (fun W4 hF4 hm4=>?_)
 ·obtain ⟨w',r1,r2,r3,r4⟩:=run_store1 (P:=Tryz.prog) wx 5 w.heap.size (0 + j * 1) 5 (xorP j (intsOf a) (intsOf b)) (xorZ (byteAt a (Int.toNat (j:Int))) (byteAt b (Int.toNat (j:Int)))) (by kernel_rfl) (hF3.kept hm.kept (fun ⟨_,h,_⟩=>by cases h)) (by rw [xorP_len ea eb (by omega)]; omega)
  rw [show (xorP j (intsOf a) (intsOf b)).set (0 + j * 1) (xorZ (byteAt a (Int.toNat (j:Int))) (byteAt b (Int.toNat (j:Int)))) = xorP (j + 1) (intsOf a) (intsOf b) from by rw [Nat.zero_add,Nat.mul_one,Int.toNat_natCast,byteAt_eq,byteAt_eq]; exact xorP_set ea eb h2] at r2
  exact ⟨w',r1,r2,(MemOk.bck hm3 hm).offA (fun _ h=>h) r3 (fun y hy=>.inr (Nat.le_of_eq hy.symm)) (fun _ h=>by cases h)⟩
 refine holds_done (by kernel_rfl) ?_
 refine hgE 9 (dz 3 32) [0,1,4,5,6,7] [n64 (((j:Int) + 1))] [] [.inv J,.blk 0,.code [1,1,1,1]] ⟨[(0,sT a),(1,sT b),(4,sT ⟨#[]⟩),(5,i6 0),(6,.slice (some ⟨w.heap.size,0,none⟩) 16 c),(7,i6 ((j:Int) + 1))],[],[],W4.heap.size⟩ ?_
 rw [← cast_succ j]
 intro a_ w9 hf hm
 exact hJ2 (m2 - 1) _ a_ w9 (by omega) ⟨j + 1,_,by omega,hF4.kept hm.kept (fun ⟨_,h,_⟩=>by cases h),rfl⟩ hf (MemOk.bck hm4 hm)
def allB:List ByteArray → ByteArray
 | []=>⟨#[]⟩
 | t :: R=>R.foldl xorS t
theorem allB_one {L:List ByteArray} {t:ByteArray} (h:L[0]? = some t):allB (L.take 1) = t:=by
 cases L with
 | nil=>cases h
 | cons x R=>cases h; rfl
theorem xorS_size {a b:ByteArray} (ha:a.size = 16) (hb:b.size = 16):(xorS a b).size = 16:=by
 rw [xorS,size_bytesI,xorI_len (by rw [length_intsOf,length_intsOf,ha,hb]),length_intsOf,ha]
theorem foldl_size {R:List ByteArray} (hR:∀ x ∈ R,x.size = 16):∀ {t:ByteArray},t.size = 16 → (R.foldl xorS t).size = 16:=by
 induction R with
 | nil=>exact fun h=>h
 | cons x R ih=>exact fun h=>ih (fun y hy=>hR y (List.mem_cons_of_mem _ hy)) (xorS_size h (hR x List.mem_cons_self))
theorem allB_size {L:List ByteArray} (hL:∀ x ∈ L,x.size = 16) (h:1 ≤ L.length):(allB L).size = 16:=by
 cases L with
 | nil=>simp at h
 | cons t R=>exact foldl_size (fun y hy=>hL y (List.mem_cons_of_mem _ hy)) (hL t List.mem_cons_self)
theorem allB_snoc {L:List ByteArray} {i:Nat} {t:ByteArray} (hi:1 ≤ i) (h:L[i]? = some t):allB (L.take (i + 1)) = xorS (allB (L.take i)) t:=by
 cases L with
 | nil=>cases h
 | cons x R=>
  obtain ⟨j,rfl⟩:∃ j,i = j + 1:=⟨i - 1,by omega⟩
  have h':R[j]? = some t:=h
  show (R.take (j + 1)).foldl xorS x = xorS ((R.take j).foldl xorS x) t
  rw [List.take_add_one,h',List.foldl_append]
  rfl
def All1I (L:List ByteArray) (gL:Nat) (cp:Nat) (w:World)  (m:Nat) (st:St) (W0:World):Prop:=
 ∃ (i:Nat) (z:Nat),m + i = L.length ∧ 1 ≤ i ∧ w.heap.size ≤ W0.heap.size ∧ st = ⟨[(0,.slice (some ⟨gL,0,none⟩) L.length cp),(2,sT ⟨#[]⟩),(3,i6 0),(4,sT (allB (L.take i))),(5,i6 0),(6,i6 (i:Int))],[],[],z⟩
theorem ref1all (L:List ByteArray) (hL:∀ t ∈ L,t.size = 16) (hll:1 ≤ L.length ∧ L.length ≤ 100) (gL cp:Nat) (w:World) (hgL:gL < w.heap.size) (hc:∀ (j:Nat) (v:Value),(strsV L)[j]? = some v → w.cell? ⟨gL,0 + j,none⟩ = some v) :
  Calls Tryz.prog 43 #[.slice (some ⟨gL,0,none⟩) L.length cp] w (RetK (.tuple #[sT (allB L),i6 0]) w):=by
 refine cH (S:=(fun _=>False)) (n:=34) Tryz.func43 (MemOk.none w _) ?_
 obtain ⟨t,ht⟩:∃ t,L[0]? = some t:=⟨_,List.getElem?_eq_getElem (by omega)⟩
 refine holds_wins [⟨gL,0 + 0 * 1,[sT t]⟩] (fun _ y hy=>?_) ?_
 ·simp only [List.mem_cons,List.not_mem_nil,or_false] at hy
  subst hy
  exact ⟨(fun h=>h),hgL,fun j v hj=>strs_cell hc ht j v hj⟩
 refine hgE 34 [oh0,oh0,oh0,oh0,oh0,oh0,oh0,oh2,⟨false,0,[⟨true,0,0,1⟩]⟩,oh0,oh0,oh0] [0,2,3,4,5,6] [oE ((((L.length:Nat):Int) == 0) = false) (beq_eq_false_iff_ne.2 (by omega)),oE ((0:Int) ≤ 0 ∧ 0 < ((L.length:Nat):Int))] [(gL,0,1)] [.code [1,1,1,1,0,1,0],.blk 0,.code [1,1,1,1,1]] ⟨[(0,.slice (some ⟨gL,0,none⟩) L.length cp),(2,sT ⟨#[]⟩),(3,i6 0),(4,sT t),(5,i6 0),(6,i6 1)],[],[⟨gL,0,[sT t]⟩],w.heap.size⟩ ?_
 refine holds_wins [] (fun _ _ h=>by cases h) ?_
 refine holds_loopW (w:=w) (S':=fun _=>False) (All1I L gL cp w) (L.length - 1) (by kernel_rfl) (fun W0 hm=>⟨⟨1,_,by omega,by omega,hm.kept.size,by rw [allB_one ht]; rfl⟩,hm.wide (fun _ h=>h)⟩) ?_
 rintro m _ W2 ⟨i,z,hmi,hi1,hsz,rfl⟩ hm2 J hJ
 by_cases h1:i < L.length
 rotate_left
 ·skip
  refine hgS 24 (dz 13 1073741824) [2,3] (rE 3 (dF (((i:Int):Int) < ((L.length:Nat):Int))) ++ [fF]) [] [.code [1,1,1,1,1,1]] [] [] W2.heap.size ?_
  refine hrt [] [sT (allB (L.take i)),i6 0] [] ?_
  intro wx hm
  refine ⟨?_,(MemOk.bck hm2 hm).kept⟩
  rw [List.take_of_length_le (by omega)]
  rfl
 clear ht t
 obtain ⟨t,ht⟩:∃ t,L[i]? = some t:=⟨_,List.getElem?_eq_getElem h1⟩
 have ht16:=hL t (List.mem_of_getElem? ht)
 refine holds_wins [⟨gL,0 + i * 1,[sT t]⟩] (fun _ y hy=>?_) ?_
 ·simp only [List.mem_cons,List.not_mem_nil,or_false] at hy
  subst hy
  exact ⟨(fun ⟨_,h,_⟩=>by cases h),Nat.lt_of_lt_of_le hgL hm2.kept.size,fun j v hj=>cell_kept hm2.kept hgL (strs_cell hc ht j v hj)⟩
 refine hgS 25 [oh0,oh0,oh0,oh0,oh0,oh1,oh1,oh3,oh1,oh0,oh0,oh0,oh2,⟨false,0,[⟨true,0,0,1⟩]⟩] [0,2,3,4,5,6,24,28] (rE 3 (dT (((i:Int):Int) < ((L.length:Nat):Int))) ++ [tT,oE ((0:Int) ≤ (i:Int) ∧ (i:Int) < ((L.length:Nat):Int))]) [(gL,0 + i * 1,1)] [.ops [1,1,1,1,0,1,0,0,1,0,0] [5,6,7,8,9,10],.blk 1,.code [1,1,1,1,0,1,0,0,1,1],.inv J,.blk 0,.code [1,1,1,1,1]] [] [⟨gL,0 + i * 1,[sT t]⟩] W2.heap.size ?_
 refine hcq (.tuple #[sT (xorS (allB (L.take i)) t),i6 0]) 74 [sT (allB (L.take i)),sT t] (some 29) [] tI rfl (fun wx hm=>ref1two _ _ (allB_size (fun x hx=>hL x (List.mem_of_mem_take hx)) (by rw [List.length_take]; omega)) ht16 wx) fun z5 hz5=>?_
 refine holds_wins [] (fun _ _ h=>by cases h) ?_
 refine hgE 15 (dz 8 33554432) [0,2,3,4,5,6] [n64 (((i:Int) + 1))] [] [.inv J,.blk 0,.code [1,1,1,1,1]] ⟨[(0,.slice (some ⟨gL,0,none⟩) L.length cp),(2,sT ⟨#[]⟩),(3,i6 0),(4,sT (xorS (allB (L.take i)) t)),(5,i6 0),(6,i6 ((i:Int) + 1))],[],[],z5⟩ ?_
 rw [← cast_succ i]
 intro a_ w9 hf hm
 exact hJ (m - 1) _ a_ w9 (by omega) ⟨i + 1,_,by omega,by omega,Nat.le_trans hsz hm.kept.size,by rw [allB_snoc hi1 ht]⟩ hf (MemOk.bck hm2 hm)
end Go.Proofs.YtcmpkkapkdlfhaaGreat
