import Derived.Test.YtpilmccjjbgmiaaCrcM
import Derived.Test.YtpilmccjjbgmiaaProg
namespace Go.Proofs.Ytpilmccjjbgmiaa
open Go.RowKit
theorem byts_take (s:ByteArray) (n:Nat):Byts ((intsOf s).take n):=fun x hx=>byts_intsOf s x (List.mem_of_mem_take hx)
def StepI (T:Int) (z:Nat) (m:Nat) (st:St):Prop:=∃ x:Int,1 ≤ m ∧ m ≤ 8 ∧ Sum24 x ∧ crcN m x = T ∧ st = ⟨[(0,i6 x),(5,i6 (m:Int))],[],[],z⟩
set_option maxRecDepth 100000 in
set_option maxHeartbeats 4000000 in
theorem step_any (c b:Int) (hc:Sum24 c) (hb:0 ≤ b ∧ b ≤ 255) (w:World) :
  Calls Try.prog 78 #[.int .i64 c,.int .u8 b] w (RetK (.int .i64 (crcB c b)) w):=by
 refine calls_of_holds (S:=(fun _=>False)) (l:=[.int .i64 c,.int .u8 b]) (n:=22) Try.func78 (body_of (by kernel_rfl)) rfl (by simp) (MemOk.none w _) ?_
 refine hgE 7 [oh0] [0,1] [] [] [.code [1]] ⟨[(0,i6 c),(1,u6 b)],[],[],w.heap.size⟩ ?_
 refine holds_scope (c:=getCode (bodyOf Try.f78) [1,0]) (l:=0) (rest:=Code.seq .skip (getCode (bodyOf Try.f78) [1,0,1,1,1])) (by kernel_rfl) (by kernel_rfl) (StepI (crcB c b) w.heap.size) ?_ ?_
 ·intro J hJ
  have hx:=xor24 hc hb
  have hxx:=hx
  unfold Sum24 at hx hc
  refine hgE 17 [oh0,oh0,oh2,oh2,oh2,oh0,oh0] [0,5] [n64 (b),oE (inR .i64 (b * 65536) ∧ (0:Int) ≤ 16 ∧ (16:Int) ≤ (IntKind.bits .i64:Nat)) (⟨in64 (by omega),by decide,by decide⟩),oE ((0:Int) ≤ c ∧ (0:Int) ≤ (b * 65536) ∧ c ≤ IntKind.max .i64 ∧ (b * 65536) ≤ IntKind.max .i64) (bits_ob64 (by omega) (by omega))] [] [.code [1,1,0],.code [1,1,1]] ⟨[(0,i6 (xorZ c (b * 65536))),(5,i6 8)],[],[],w.heap.size⟩ ?_
  refine holds_label (l:=0) (by kernel_rfl) ?_
  refine hgE 15 [oh0,oh2,oh0,oh0,oh0] [0,5,14] [n64 (((xorZ c (b * 65536)) * 2))] [] [.code [1,1,1,1,0,1],.code [1,1,1,1,1]] ⟨[(0,i6 ((xorZ c (b * 65536)) * 2)),(5,i6 8),(14,.bool (decide ((((xorZ c (b * 65536)) * 2):Int) ≥ 16777216)))],[],[],w.heap.size⟩ ?_
  rcases Bool.eq_false_or_eq_true (decide ((((xorZ c (b * 65536)) * 2):Int) ≥ 16777216)) with d1 | d1
  ·skip
   have d1':=of_decide_eq_true d1
   refine hgE 22 [oh1,oh0,oh2,oh0,oh0,oh0,oh0,oh0,oh0,oh1] [0,5] [eD d1,oE ((0:Int) ≤ ((xorZ c (b * 65536)) * 2) ∧ (0:Int) ≤ 25578747 ∧ ((xorZ c (b * 65536)) * 2) ≤ IntKind.max .i64 ∧ 25578747 ≤ IntKind.max .i64) (bits_ob64 (by omega) (by omega)),tT] [] [.code [1,1,1,1,1,1,0,1,0],.code [1,1,1,1,1,1,1]] ⟨[(0,i6 (xorZ ((xorZ c (b * 65536)) * 2) 25578747)),(5,i6 7)],[],[],w.heap.size⟩ ?_
   refine holds_goto (by kernel_rfl) (fun a w hf hm=>?_)
   refine hJ 7 _ ⟨crc1 (xorZ c (b * 65536)),by omega,by omega,crc1_bd hxx,rfl,?_⟩ a w hf hm
   unfold crc1
   rw [if_pos (by omega)]
   rfl
  ·skip
   have d1':=of_decide_eq_false d1
   refine hgE 18 [oh0,oh0,oh0,oh0,oh0,oh0,oh1] [0,5] [eD d1,tT] [] [.code [1,1,1,1,1,1,0,1,0],.code [1,1,1,1,1,1,1]] ⟨[(0,i6 ((xorZ c (b * 65536)) * 2)),(5,i6 7)],[],[],w.heap.size⟩ ?_
   refine holds_goto (by kernel_rfl) (fun a w hf hm=>?_)
   refine hJ 7 _ ⟨crc1 (xorZ c (b * 65536)),by omega,by omega,crc1_bd hxx,rfl,?_⟩ a w hf hm
   unfold crc1
   rw [if_neg (by omega)]
   rfl
 ·rintro m _ ⟨x,h1,h8,hx,hT,rfl⟩ J hJ
  have hxx:=hx
  unfold Sum24 at hx
  obtain ⟨j,rfl⟩:∃ j,m = j + 1:=⟨m - 1,by omega⟩
  have e1:crc1 x = _:=rfl
  refine hgE 17 [oh0,oh2,oh0,oh0,oh0] [0,5,14] [n64 ((x * 2))] [] [.code [1,1,0,1],.code [1,1,1]] ⟨[(0,i6 (x * 2)),(5,i6 ((j + 1:Nat):Int)),(14,.bool (decide (((x * 2):Int) ≥ 16777216)))],[],[],w.heap.size⟩ ?_
  rcases Bool.eq_false_or_eq_true (decide (((x * 2):Int) ≥ 16777216)) with d2 | d2
  ·skip
   have d2':=of_decide_eq_true d2
   refine hgE 21 [oh1,oh0,oh2,oh0,oh0,oh2,oh0,oh0,oh0] [0,5,20] [eD d2,oE ((0:Int) ≤ (x * 2) ∧ (0:Int) ≤ 25578747 ∧ (x * 2) ≤ IntKind.max .i64 ∧ 25578747 ≤ IntKind.max .i64) (bits_ob64 (by omega) (by omega)),n64 ((((j + 1:Nat):Int) - 1))] [] [.code [1,1,1,1,0,1],.code [1,1,1,1,1]] ⟨[(0,i6 (xorZ (x * 2) 25578747)),(5,i6 (((j + 1:Nat):Int) - 1)),(20,.bool (decide (((((j + 1:Nat):Int) - 1):Int) > 0)))],[],[],w.heap.size⟩ ?_
   rcases Bool.eq_false_or_eq_true (decide (((((j + 1:Nat):Int) - 1):Int) > 0)) with d3 | d3
   ·skip
    have d3':=of_decide_eq_true d3
    refine hgE 4 [oh1] [0,5] [eD d3] [] [.code [1,1,1,1,0,1,0],.code [1,1,1,1,1]] ⟨[(0,i6 (xorZ (x * 2) 25578747)),(5,i6 (((j + 1:Nat):Int) - 1))],[],[],w.heap.size⟩ ?_
    refine holds_goto (by kernel_rfl) (fun a w hf hm=>?_)
    refine hJ j _ (by omega) ⟨crc1 x,by omega,by omega,crc1_bd hxx,hT,?_⟩ a w hf hm
    have e2:((j + 1:Nat):Int) - 1 = (j:Int):=by omega
    unfold crc1
    rw [if_pos (by omega),e2]
   ·skip
    have d3':=of_decide_eq_false d3
    refine hgE 10 [oh0,oh0,oh0] [0,4,5] [eD d3] [] [.code [1,1,1,1,1,1]] ⟨[(0,i6 (xorZ (x * 2) 25578747)),(4,i6 (xorZ (x * 2) 25578747)),(5,i6 (((j + 1:Nat):Int) - 1))],[],[],w.heap.size⟩ ?_
    refine holds_retJ [] (by kernel_rfl) (show _ = some ([.int .i64 (xorZ (x * 2) 25578747)],dupR []) by kernel_rfl) ?_
    intro wx hm
    refine ⟨?_,hm.kept⟩
    obtain rfl:j = 0:=by omega
    rw [← hT]
    show _ = Ending.returned (Value.int .i64 (crc1 x))
    unfold crc1
    rw [if_pos (by omega)]
    rfl
  ·skip
   have d2':=of_decide_eq_false d2
   refine hgE 17 [oh0,oh0,oh2,oh0,oh0,oh0] [0,5,20] [eD d2,n64 ((((j + 1:Nat):Int) - 1))] [] [.code [1,1,1,1,0,1],.code [1,1,1,1,1]] ⟨[(0,i6 (x * 2)),(5,i6 (((j + 1:Nat):Int) - 1)),(20,.bool (decide (((((j + 1:Nat):Int) - 1):Int) > 0)))],[],[],w.heap.size⟩ ?_
   rcases Bool.eq_false_or_eq_true (decide (((((j + 1:Nat):Int) - 1):Int) > 0)) with d4 | d4
   ·skip
    have d4':=of_decide_eq_true d4
    refine hgE 4 [oh1] [0,5] [eD d4] [] [.code [1,1,1,1,0,1,0],.code [1,1,1,1,1]] ⟨[(0,i6 (x * 2)),(5,i6 (((j + 1:Nat):Int) - 1))],[],[],w.heap.size⟩ ?_
    refine holds_goto (by kernel_rfl) (fun a w hf hm=>?_)
    refine hJ j _ (by omega) ⟨crc1 x,by omega,by omega,crc1_bd hxx,hT,?_⟩ a w hf hm
    have e2:((j + 1:Nat):Int) - 1 = (j:Int):=by omega
    unfold crc1
    rw [if_neg (by omega),e2]
   ·skip
    have d4':=of_decide_eq_false d4
    refine hgE 10 [oh0,oh0,oh0] [0,4,5] [eD d4] [] [.code [1,1,1,1,1,1]] ⟨[(0,i6 (x * 2)),(4,i6 (x * 2)),(5,i6 (((j + 1:Nat):Int) - 1))],[],[],w.heap.size⟩ ?_
    refine holds_retJ [] (by kernel_rfl) (show _ = some ([.int .i64 (x * 2)],dupR []) by kernel_rfl) ?_
    intro wx hm
    refine ⟨?_,hm.kept⟩
    obtain rfl:j = 0:=by omega
    rw [← hT]
    show _ = Ending.returned (Value.int .i64 (crc1 x))
    unfold crc1
    rw [if_neg (by omega)]
    rfl
def GoI (s:ByteArray) (z0:Nat) (m:Nat) (st:St):Prop:=∃ i z:Nat,i ≤ s.size ∧ z0 ≤ z ∧ m + i = s.size ∧ st = ⟨[(0,i6 (crcL 11994318 ((intsOf s).take i))),(1,sT s),(4,i6 0),(9,i6 (s.size:Int)),(10,i6 (i:Int))],[],[],z⟩
set_option maxRecDepth 100000 in
set_option maxHeartbeats 4000000 in
theorem go_any (s:ByteArray) (hs:(s.size:Int) ≤ 9223372036854775807) (w:World) :
  Calls Try.prog 69 #[.int .i64 11994318,.string s] w (RetK (.int .i64 (crcS s)) w):=by
 refine calls_of_holds (S:=(fun _=>False)) (l:=[.int .i64 11994318,.string s]) (n:=20) Try.func69 (body_of (by kernel_rfl)) rfl (by simp) (MemOk.none w _) ?_
 refine hgE 21 [oh0,oh0,oh0,oh0,oh0,oh0,oh0] [0,1,4,9,10] [] [] [.code [1,1,0,1,0],.blk 0,.code [1,1,1]] ⟨[(0,i6 11994318),(1,sT s),(4,i6 0),(9,i6 (s.size:Int)),(10,i6 0)],[],[],w.heap.size⟩ ?_
 refine holds_loop (GoI s w.heap.size) s.size (by kernel_rfl) ⟨0,w.heap.size,by omega,Nat.le_refl _,rfl,rfl⟩ ?_
 rintro m _ ⟨i,z,hi,hz,hmi,rfl⟩ J hJ
 have hS:=crcL_bd ((intsOf s).take i) (c:=11994318) ⟨by decide,by decide⟩ (byts_take _ _)
 have hby:=byteAt_bd s (Int.toNat (i:Int))
 by_cases hlt:i < s.size
 ·skip
  refine hgE 22 [oh0,oh1,oh0,oh0,oh0,oh0,oh0,oh2] [0,1,4,9,10,13,16] [dT (((i:Int):Int) < (s.size:Int)),oE ((0:Int) ≤ (i:Int) ∧ (i:Int) < ((s).size:Int))] [] [.ops [1,1,0,1,0,0,1,1,0,0,1] [4,5],.blk 1,.code [1,1,0,1,0,0,1,1,1],.inv J,.blk 0,.code [1,1,1]] ⟨[(0,i6 (crcL 11994318 ((intsOf s).take i))),(1,sT s),(4,i6 0),(9,i6 (s.size:Int)),(10,i6 (i:Int)),(13,i6 (crcL 11994318 ((intsOf s).take i))),(16,u6 (byteAt s (Int.toNat (i:Int))))],[],[],z⟩ ?_
  refine hcp (i6 (crcB (crcL 11994318 ((intsOf s).take i)) (byteAt s (Int.toNat (i:Int))))) 78 [i6 (crcL 11994318 ((intsOf s).take i)),u6 (byteAt s (Int.toNat (i:Int)))] (some 17) [] tI rfl (fun wx hm=>step_any _ _ hS hby wx) fun z3 hz3=>?_
  replace hz3:z ≤ z3:=hz3
  refine hgE 10 [oh0,oh2,oh0] [0,1,4,9,10] [n64 (((i:Int) + 1))] [] [.inv J,.blk 0,.code [1,1,1]] ⟨[(0,i6 (crcB (crcL 11994318 ((intsOf s).take i)) (byteAt s (Int.toNat (i:Int))))),(1,sT s),(4,i6 0),(9,i6 (s.size:Int)),(10,i6 ((i:Int) + 1))],[],[],z3⟩ ?_
  exact hJ (s.size - (i + 1)) _ (by omega) ⟨i + 1,z3,by omega,by omega,by omega,by rw [crcL_take _ _ hlt,cast_succ]; rfl⟩
 ·skip
  refine hgE 15 [oh0,oh0,oh0,oh0] [4] [dF (((i:Int):Int) < (s.size:Int))] [] [.code [1,1,1,1]] ⟨[(4,i6 (crcL 11994318 ((intsOf s).take i)))],[],[],z⟩ ?_
  refine hrt [] [i6 (crcL 11994318 ((intsOf s).take i))] [] ?_
  intro wx hm
  refine ⟨?_,hm.kept⟩
  obtain rfl:i = s.size:=by omega
  rw [take_all]
  rfl
set_option maxRecDepth 100000 in
set_option maxHeartbeats 4000000 in
theorem sum_any (s:ByteArray) (hs:(s.size:Int) ≤ 9223372036854775807) (w:World) :
  Calls Try.prog 47 #[.string s] w (RetK (.int .i64 (crcS s)) w):=by
 refine calls_of_holds (S:=(fun _=>False)) (l:=[.string s]) (n:=5) Try.func47 (body_of (by kernel_rfl)) rfl (by simp) (MemOk.none w _) ?_
 refine hgE 10 [oh0,oh0] [2,3] [] [] [.ops [1,0] [1,2],.code [1,1]] ⟨[(2,i6 0),(3,sT s)],[],[],w.heap.size⟩ ?_
 refine hcp (i6 (crcS s)) 69 [i6 11994318,sT s] (some 4) [] tI rfl (fun wx hm=>go_any s hs wx) fun z2 hz2=>?_
 replace hz2:w.heap.size ≤ z2:=hz2
 refine hgE 5 [oh0] [2] [] [] [.code [1,1]] ⟨[(2,i6 (crcS s))],[],[],z2⟩ ?_
 refine hrt [] [i6 (crcS s)] [] ?_
 intro wx hm
 exact ⟨rfl,hm.kept⟩
def XorI (a0 b0:Int) (z0:Nat) (m:Nat) (st:St):Prop:=∃ (i z:Nat) (a b n u:Int),i ≤ 25 ∧ z0 ≤ z ∧ m + i = 25 ∧ u = ((2 ^ i:Nat):Int) ∧ (0 ≤ a ∧ a < ((2 ^ m:Nat):Int)) ∧ (0 ≤ b ∧ b < ((2 ^ m:Nat):Int)) ∧ (0 ≤ n ∧ n < u) ∧ n + u * xorZ a b = xorZ a0 b0 ∧ st = ⟨[(0,i6 a),(1,i6 b),(4,i6 0),(5,i6 n),(6,i6 u),(7,i6 (i:Int))],[],[],z⟩
set_option maxRecDepth 100000 in
set_option maxHeartbeats 4000000 in
theorem xor_any (a0 b0:Int) (ha0:0 ≤ a0 ∧ a0 < 33554432) (hb0:0 ≤ b0 ∧ b0 < 33554432) (w:World) :
  Calls Try.prog 79 #[.int .i64 a0,.int .i64 b0] w (RetK (.int .i64 (xorZ a0 b0)) w):=by
 refine calls_of_holds (S:=(fun _=>False)) (l:=[.int .i64 a0,.int .i64 b0]) (n:=27) Try.func79 (body_of (by kernel_rfl)) rfl (by simp) (MemOk.none w _) ?_
 refine hgE 21 [oh0,oh0,oh0,oh0] [0,1,4,5,6,7] [] [] [.code [1,1,1,0,1,0],.blk 0,.code [1,1,1,1]] ⟨[(0,i6 a0),(1,i6 b0),(4,i6 0),(5,i6 0),(6,i6 1),(7,i6 0)],[],[],w.heap.size⟩ ?_
 refine holds_loop (XorI a0 b0 w.heap.size) 25 (by kernel_rfl) ⟨0,w.heap.size,a0,b0,0,1,by omega,Nat.le_refl _,rfl,rfl,by omega,by omega,by omega,by omega,rfl⟩ ?_
 rintro m _ ⟨i,z,a,b,n,u,hi,hz,hmi,hu,ha,hb,hn,he,rfl⟩ J hJ
 by_cases hlt:i < 25
 ·skip
  have hp:2 ^ i ≤ 2 ^ 24:=Nat.pow_le_pow_right (by decide) (by omega)
  obtain ⟨m',rfl⟩:∃ m',m = m' + 1:=⟨m - 1,by omega⟩
  have hpm:2 ^ (m' + 1) ≤ 2 ^ 25:=Nat.pow_le_pow_right (by decide) (by omega)
  have hps:(2:Nat) ^ (m' + 1) = 2 * 2 ^ m':=by rw [Nat.pow_succ,Nat.mul_comm]
  have hpi:(2:Nat) ^ (i + 1) = 2 * 2 ^ i:=by rw [Nat.pow_succ,Nat.mul_comm]
  have hh:=xorZ_half a b ha.1 hb.1
  have hub:u ≤ 16777216:=by omega
  refine hgE 22 [oh0,oh0,oh1,oh0,oh2,oh0,oh2,oh0] [0,1,4,5,6,7,16] [dT (((i:Int):Int) < 25),oE ((0:Int) ≤ a ∧ (0:Int) < 2),oE ((0:Int) ≤ b ∧ (0:Int) < 2)] [] [.code [1,1,1,0,1,0,0,1,0,0,0,1],.code [1,1,1,0,1,0,0,1,0,0,1],.blk 1,.code [1,1,1,0,1,0,0,1,1],.inv J,.blk 0,.code [1,1,1,1]] ⟨[(0,i6 a),(1,i6 b),(4,i6 0),(5,i6 n),(6,i6 u),(7,i6 (i:Int)),(16,.bool ((a % 2) != (b % 2)))],[],[],z⟩ ?_
  rcases Bool.eq_false_or_eq_true ((a % 2) != (b % 2)) with d1 | d1
  ·skip
   refine hgE 33 [oh1,oh0,oh0,oh2,oh0,oh0,oh2,oh0,oh0,oh2,oh0,oh0,oh2,oh0,oh0,oh2,oh0] [0,1,4,5,6,7] [eD d1,n64 ((n + u)),oE ((0:Int) ≤ a ∧ (0:Int) < 2 ∧ a ≤ IntKind.max .i64) (⟨by omega,by omega,le_max64 (by omega)⟩),oE ((0:Int) ≤ b ∧ (0:Int) < 2 ∧ b ≤ IntKind.max .i64) (⟨by omega,by omega,le_max64 (by omega)⟩),n64 ((2 * u)),n64 (((i:Int) + 1))] [] [.inv J,.blk 0,.code [1,1,1,1]] ⟨[(0,i6 (a / 2)),(1,i6 (b / 2)),(4,i6 0),(5,i6 (n + u)),(6,i6 (2 * u)),(7,i6 ((i:Int) + 1))],[],[],z⟩ ?_
   have hr:(if a % 2 ≠ b % 2 then (1:Int) else 0) = 1:=by
    have h1:=d1
    exact if_pos (bne_iff_ne.1 h1)
   rw [hr] at hh
   have e5:u * (2 * xorZ (a / 2) (b / 2)) = 2 * u * xorZ (a / 2) (b / 2):=by rw [← Int.mul_assoc,Int.mul_comm u 2]
   rw [hh,Int.mul_add,e5] at he
   exact hJ m' _ (by omega) ⟨i + 1,z,a / 2,b / 2,n + u,2 * u,by omega,by omega,by omega,by omega,⟨by omega,by omega⟩,⟨by omega,by omega⟩,⟨by omega,by omega⟩,by omega,by rw [cast_succ]⟩
  ·skip
   refine hgE 28 [oh0,oh0,oh2,oh0,oh0,oh2,oh0,oh0,oh2,oh0,oh0,oh2,oh0] [0,1,4,5,6,7] [eD d1,oE ((0:Int) ≤ a ∧ (0:Int) < 2 ∧ a ≤ IntKind.max .i64) (⟨by omega,by omega,le_max64 (by omega)⟩),oE ((0:Int) ≤ b ∧ (0:Int) < 2 ∧ b ≤ IntKind.max .i64) (⟨by omega,by omega,le_max64 (by omega)⟩),n64 ((2 * u)),n64 (((i:Int) + 1))] [] [.inv J,.blk 0,.code [1,1,1,1]] ⟨[(0,i6 (a / 2)),(1,i6 (b / 2)),(4,i6 0),(5,i6 n),(6,i6 (2 * u)),(7,i6 ((i:Int) + 1))],[],[],z⟩ ?_
   have hr:(if a % 2 ≠ b % 2 then (1:Int) else 0) = 0:=by
    have h1:=d1
    exact if_neg (fun h2=>h2 (bne_eq_false_iff_eq.1 h1))
   rw [hr] at hh
   have e5:u * (2 * xorZ (a / 2) (b / 2)) = 2 * u * xorZ (a / 2) (b / 2):=by rw [← Int.mul_assoc,Int.mul_comm u 2]
   rw [hh,Int.mul_add,e5] at he
   exact hJ m' _ (by omega) ⟨i + 1,z,a / 2,b / 2,n,2 * u,by omega,by omega,by omega,by omega,⟨by omega,by omega⟩,⟨by omega,by omega⟩,⟨by omega,by omega⟩,by omega,by rw [cast_succ]⟩
 ·skip
  refine hgE 16 [oh0,oh0,oh0,oh0,oh0] [4] [dF (((i:Int):Int) < 25)] [] [.code [1,1,1,1,1]] ⟨[(4,i6 n)],[],[],z⟩ ?_
  refine hrt [] [i6 n] [] ?_
  intro wx hm
  refine ⟨?_,hm.kept⟩
  obtain rfl:m = 0:=by omega
  obtain rfl:a = 0:=by omega
  obtain rfl:b = 0:=by omega
  have e0:xorZ 0 0 = 0:=by decide
  rw [e0] at he
  rw [← he,Int.mul_zero,Int.add_zero]
  rfl
def rgo_n1:List Nat:=[1,1,0,1,0,0,1,1]
def RGoI (s:ByteArray) (z0:Nat) (m:Nat) (st:St):Prop:=∃ i z:Nat,i ≤ s.size ∧ z0 ≤ z ∧ m + i = s.size ∧ st = ⟨[(1,sT s),(4,i6 0),(5,i6 (crcL 11994318 ((intsOf s).take i))),(6,i6 (i:Int))],[],[],z⟩
def RBitI (s:ByteArray) (i:Nat) (T:Int) (z0:Nat) (m:Nat) (st:St):Prop:=∃ (k y:Nat) (x:Int),k ≤ 8 ∧ z0 ≤ y ∧ m + k = 8 ∧ Sum24 x ∧ crcN m x = T ∧ st = ⟨[(1,sT s),(4,i6 0),(5,i6 x),(6,i6 (i:Int)),(7,i6 (k:Int))],[],[],y⟩
set_option maxRecDepth 100000 in
set_option maxHeartbeats 4000000 in
theorem rgo_any (s:ByteArray) (hs:(s.size:Int) ≤ 9223372036854775807) (w:World) :
  Calls Try.prog 70 #[.int .i64 11994318,.string s] w (RetK (.int .i64 (crcS s)) w):=by
 refine calls_of_holds (S:=(fun _=>False)) (l:=[.int .i64 11994318,.string s]) (n:=36) Try.func70 (body_of (by kernel_rfl)) rfl (by simp) (MemOk.none w _) ?_
 refine hgE 21 [oh0,oh0,oh2,oh2,oh2,oh0,oh0] [1,4,5,6] [oE ((0:Int) ≤ 11994318 ∧ (0:Int) < 16777216),n64 (((11994318 % 16777216) + 16777216)),oE ((0:Int) ≤ ((11994318 % 16777216) + 16777216) ∧ (0:Int) < 16777216)] [] [.code [1,1,0,1,0],.blk 0,.code [1,1,1]] ⟨[(1,sT s),(4,i6 0),(5,i6 (((11994318 % 16777216) + 16777216) % 16777216)),(6,i6 0)],[],[],w.heap.size⟩ ?_
 refine holds_loop (RGoI s w.heap.size) s.size (by kernel_rfl) ⟨0,w.heap.size,by omega,Nat.le_refl _,rfl,rfl⟩ ?_
 rintro m _ ⟨i,z,hi,hz,hmi,rfl⟩ J hJ
 have hS:=crcL_bd ((intsOf s).take i) (c:=11994318) ⟨by decide,by decide⟩ (byts_take _ _)
 have hby:=byteAt_bd s (Int.toNat (i:Int))
 have hx:=xor24 hS hby
 have hS':=hS
 unfold Sum24 at hS'
 by_cases hlt:i < s.size
 ·skip
  refine hgE 23 [oh0,oh0,oh0,oh0,oh1,oh0,oh0,oh0,oh2,oh2,oh2] [1,4,5,6,18,23] [dT (((i:Int):Int) < (s.size:Int)),oE ((0:Int) ≤ (i:Int) ∧ (i:Int) < ((s).size:Int)),n64 ((byteAt s (Int.toNat (i:Int)))),n64 (((byteAt s (Int.toNat (i:Int))) * 65536))] [] [.ops [1,1,0,1,0,0,1,0,0,0] [6,7],.code [1,1,0,1,0,0,1,0,0,1],.blk 1,.code rgo_n1,.inv J,.blk 0,.code [1,1,1]] ⟨[(1,sT s),(4,i6 0),(5,i6 (crcL 11994318 ((intsOf s).take i))),(6,i6 (i:Int)),(18,i6 (crcL 11994318 ((intsOf s).take i))),(23,i6 ((byteAt s (Int.toNat (i:Int))) * 65536))],[],[],z⟩ ?_
  refine hcp (i6 (xorZ (crcL 11994318 ((intsOf s).take i)) (byteAt s (Int.toNat (i:Int)) * 65536))) 79 [i6 (crcL 11994318 ((intsOf s).take i)),i6 ((byteAt s (Int.toNat (i:Int))) * 65536)] (some 24) [] tI rfl (fun wx hm=>xor_any _ _ (by omega) (by omega) wx) fun z3 hz3=>?_
  replace hz3:z ≤ z3:=hz3
  refine hgE 10 [oh0,oh0] [1,4,5,6,7] [] [] [.code [1,1,0,1,0,0,1,0,0,1,1,0],.blk 2,.blk 1,.code rgo_n1,.inv J,.blk 0,.code [1,1,1]] ⟨[(1,sT s),(4,i6 0),(5,i6 (xorZ (crcL 11994318 ((intsOf s).take i)) (byteAt s (Int.toNat (i:Int)) * 65536))),(6,i6 (i:Int)),(7,i6 0)],[],[],z3⟩ ?_
  refine holds_loop (RBitI s i (crcB (crcL 11994318 ((intsOf s).take i)) (byteAt s (Int.toNat (i:Int)))) z3) 8 (by kernel_rfl) ⟨0,z3,xorZ (crcL 11994318 ((intsOf s).take i)) (byteAt s (Int.toNat (i:Int)) * 65536),by omega,Nat.le_refl _,rfl,hx,rfl,rfl⟩ ?_
  rintro m2 _ ⟨k,y,x,hk,hy,hmk,hxs,hT,rfl⟩ J2 hJ2
  have hxs':=hxs
  unfold Sum24 at hxs'
  by_cases hk8:k < 8
  ·skip
   obtain ⟨j,rfl⟩:∃ j,m2 = j + 1:=⟨m2 - 1,by omega⟩
   have e2:2 * x = x * 2:=Int.mul_comm _ _
   refine hgE 24 [oh0,oh0,oh1,oh0,oh2,oh0,oh0,oh0] [1,4,5,6,7,32] [dT (((k:Int):Int) < 8),n64 ((2 * x))] [] [.code [1,1,0,1,0,0,1,0,0,1,1,0,0,1,0,0,1,1],.blk 3,.code [1,1,0,1,0,0,1,0,0,1,1,0,0,1,1],.inv J2,.blk 2,.blk 1,.code rgo_n1,.inv J,.blk 0,.code [1,1,1]] ⟨[(1,sT s),(4,i6 0),(5,i6 (2 * x)),(6,i6 (i:Int)),(7,i6 (k:Int)),(32,.bool (decide (((2 * x):Int) ≥ 16777216)))],[],[],y⟩ ?_
   rcases Bool.eq_false_or_eq_true (decide (((2 * x):Int) ≥ 16777216)) with d1 | d1
   ·skip
    refine hgE 6 [oh1,oh0] [1,4,5,6,7,33] [eD d1] [] [.ops [1,1,0,1,0,0,1,0,0,1,1,0,0,1,0,0,1,1,0] [1,2],.blk 3,.code [1,1,0,1,0,0,1,0,0,1,1,0,0,1,1],.inv J2,.blk 2,.blk 1,.code rgo_n1,.inv J,.blk 0,.code [1,1,1]] ⟨[(1,sT s),(4,i6 0),(5,i6 (2 * x)),(6,i6 (i:Int)),(7,i6 (k:Int)),(33,i6 (2 * x))],[],[],y⟩ ?_
    refine hcp (i6 (xorZ (2 * x) 25578747)) 79 [i6 (2 * x),i6 25578747] (some 34) [] tI rfl (fun wx hm=>xor_any _ _ (by omega) (by omega) wx) fun z7 hz7=>?_
    replace hz7:y ≤ z7:=hz7
    refine hgE 11 [oh0,oh0,oh2,oh0] [1,4,5,6,7] [n64 (((k:Int) + 1))] [] [.inv J2,.blk 2,.blk 1,.code rgo_n1,.inv J,.blk 0,.code [1,1,1]] ⟨[(1,sT s),(4,i6 0),(5,i6 (xorZ (2 * x) 25578747)),(6,i6 (i:Int)),(7,i6 ((k:Int) + 1))],[],[],z7⟩ ?_
    have h9:=of_decide_eq_true d1
    exact hJ2 j _ (by omega) ⟨k + 1,z7,crc1 x,by omega,by omega,by omega,crc1_bd hxs,hT,by
     unfold crc1
     rw [if_pos (by omega),← e2,cast_succ]⟩
   ·skip
    refine hgE 11 [oh0,oh0,oh2,oh0] [1,4,5,6,7] [eD d1,n64 (((k:Int) + 1))] [] [.inv J2,.blk 2,.blk 1,.code rgo_n1,.inv J,.blk 0,.code [1,1,1]] ⟨[(1,sT s),(4,i6 0),(5,i6 (2 * x)),(6,i6 (i:Int)),(7,i6 ((k:Int) + 1))],[],[],y⟩ ?_
    have h9:=of_decide_eq_false d1
    exact hJ2 j _ (by omega) ⟨k + 1,y,crc1 x,by omega,by omega,by omega,crc1_bd hxs,hT,by
     unfold crc1
     rw [if_neg (by omega),← e2,cast_succ]⟩
  ·skip
   refine hgE 17 [oh0,oh0,oh0,oh0,oh2,oh0] [1,4,5,6] [dF (((k:Int):Int) < 8),n64 (((i:Int) + 1))] [] [.inv J,.blk 0,.code [1,1,1]] ⟨[(1,sT s),(4,i6 0),(5,i6 x),(6,i6 ((i:Int) + 1))],[],[],y⟩ ?_
   obtain rfl:m2 = 0:=by omega
   have hT':x = _:=hT
   exact hJ (s.size - (i + 1)) _ (by omega) ⟨i + 1,y,by omega,by omega,by omega,by rw [crcL_take _ _ hlt,cast_succ,hT']; rfl⟩
 ·skip
  refine hgE 18 [oh0,oh0,oh0,oh0,oh0,oh0,oh0] [4] [dF (((i:Int):Int) < (s.size:Int))] [] [.code [1,1,1,1]] ⟨[(4,i6 (crcL 11994318 ((intsOf s).take i)))],[],[],z⟩ ?_
  refine hrt [] [i6 (crcL 11994318 ((intsOf s).take i))] [] ?_
  intro wx hm
  refine ⟨?_,hm.kept⟩
  obtain rfl:i = s.size:=by omega
  rw [take_all]
  rfl
set_option maxRecDepth 100000 in
set_option maxHeartbeats 4000000 in
theorem rsum_any (s:ByteArray) (hs:(s.size:Int) ≤ 9223372036854775807) (w:World) :
  Calls Try.prog 50 #[.string s] w (RetK (.int .i64 (crcS s)) w):=by
 refine calls_of_holds (S:=(fun _=>False)) (l:=[.string s]) (n:=5) Try.func50 (body_of (by kernel_rfl)) rfl (by simp) (MemOk.none w _) ?_
 refine hgE 10 [oh0,oh0] [2,3] [] [] [.ops [1,0] [1,2],.code [1,1]] ⟨[(2,i6 0),(3,sT s)],[],[],w.heap.size⟩ ?_
 refine hcp (i6 (crcS s)) 70 [i6 11994318,sT s] (some 4) [] tI rfl (fun wx hm=>rgo_any s hs wx) fun z2 hz2=>?_
 replace hz2:w.heap.size ≤ z2:=hz2
 refine hgE 5 [oh0] [2] [] [] [.code [1,1]] ⟨[(2,i6 (crcS s))],[],[],z2⟩ ?_
 refine hrt [] [i6 (crcS s)] [] ?_
 intro wx hm
 exact ⟨rfl,hm.kept⟩
end Go.Proofs.Ytpilmccjjbgmiaa
