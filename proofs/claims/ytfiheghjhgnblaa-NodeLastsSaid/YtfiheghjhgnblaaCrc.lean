import Derived.Test.YtfiheghjhgnblaaCrcM
import Derived.Test.YtfiheghjhgnblaaProg
namespace Go.Proofs.Ytfiheghjhgnblaa
open Go.RowKit
theorem byts_take (s:ByteArray) (n:Nat):Byts ((intsOf s).take n):=fun x hx=>byts_intsOf s x (List.mem_of_mem_take hx)
def StepI (T:Int) (z:Nat) (m:Nat) (st:St):Prop:=∃ x:Int,1 ≤ m ∧ m ≤ 8 ∧ Sum24 x ∧ crcN m x = T ∧ st = ⟨[(0,i6 x),(5,i6 (m:Int))],[],[],z⟩
set_option maxRecDepth 100000 in
set_option maxHeartbeats 4000000 in
theorem step_any (c b:Int) (hc:Sum24 c) (hb:0 ≤ b ∧ b ≤ 255) (w:World) :
  Calls Try.prog 96 #[.int .i64 c,.int .u8 b] w (RetK (.int .i64 (crcB c b)) w):=by
 refine calls_of_holds (S:=(fun _=>False)) (l:=[.int .i64 c,.int .u8 b]) (n:=22) Try.func96 (body_of (by kernel_rfl)) rfl (by simp) (MemOk.none w _) ?_
 refine hgE 7 [oh0] [0,1] [] [] [.code [1]] ⟨[(0,i6 c),(1,u6 b)],[],[],w.heap.size⟩ ?_
 refine holds_scope (c:=getCode (bodyOf Try.f96) [1,0]) (l:=0) (rest:=Code.seq .skip (getCode (bodyOf Try.f96) [1,0,1,1,1])) (by kernel_rfl) (by kernel_rfl) (StepI (crcB c b) w.heap.size) ?_ ?_
 ·intro J hJ
  have hx:=xor24 hc hb
  have hxx:=hx
  unfold Sum24 at hx hc
  refine hgE 17 [oh0,oh0,oh2,oh2,oh2,oh0,oh0] [0,5] [n64 (b),oE (inR .i64 (b * 65536) ∧ (0:Int) ≤ 16 ∧ (16:Int) ≤ (IntKind.bits .i64:Nat)) (⟨in64 (by omega),by decide,by decide⟩),oE ((0:Int) ≤ c ∧ (0:Int) ≤ (b * 65536) ∧ c ≤ IntKind.max .i64 ∧ (b * 65536) ≤ IntKind.max .i64) (bits_ob64 (by omega) (by omega))] [] [.code [1,1,0],.code [1,1,1]] ⟨[(0,i6 (xorZ c (b * 65536))),(5,i6 8)],[],[],w.heap.size⟩ ?_
  refine holds_label (l:=0) (by kernel_rfl) ?_
  refine hgE 15 [oh0,oh2,oh0,oh0,oh0] [0,5,14] [n64 (((xorZ c (b * 65536)) * 2))] [] [.code [1,1,1,1,0,1],.code [1,1,1,1,1]] ⟨[(0,i6 ((xorZ c (b * 65536)) * 2)),(5,i6 8),(14,.bool (decide ((((xorZ c (b * 65536)) * 2):Int) ≥ 16777216)))],[],[],w.heap.size⟩ ?_
  rcases Bool.eq_false_or_eq_true (decide ((((xorZ c (b * 65536)) * 2):Int) ≥ 16777216)) with d1 | d1
  ·skip
   have d1':=of_decide_eq_true d1
   refine hgE 22 [oh1,oh0,oh2,oh0,oh0,oh0,oh0,oh0,oh0,oh1] [0,5] [eD d1,oE ((0:Int) ≤ ((xorZ c (b * 65536)) * 2) ∧ (0:Int) ≤ 25578747 ∧ ((xorZ c (b * 65536)) * 2) ≤ IntKind.max .i64 ∧ 25578747 ≤ IntKind.max .i64) (bits_ob64 (by omega) (by omega)),tT] [] [.code [1,1,1,1,1,1,0,1,0],.code [1,1,1,1,1,1,1]] ⟨[(0,i6 (xorZ ((xorZ c (b * 65536)) * 2) 25578747)),(5,i6 7)],[],[],w.heap.size⟩ ?_
   refine holds_goto (by kernel_rfl) (fun a w hf hm=>?_)
   refine hJ 7 _ ⟨crc1 (xorZ c (b * 65536)),by omega,by omega,crc1_bd hxx,rfl,?_⟩ a w hf hm
   unfold crc1
   rw [if_pos (by omega)]
   rfl
  ·skip
   have d1':=of_decide_eq_false d1
   refine hgE 18 [oh0,oh0,oh0,oh0,oh0,oh0,oh1] [0,5] [eD d1,tT] [] [.code [1,1,1,1,1,1,0,1,0],.code [1,1,1,1,1,1,1]] ⟨[(0,i6 ((xorZ c (b * 65536)) * 2)),(5,i6 7)],[],[],w.heap.size⟩ ?_
   refine holds_goto (by kernel_rfl) (fun a w hf hm=>?_)
   refine hJ 7 _ ⟨crc1 (xorZ c (b * 65536)),by omega,by omega,crc1_bd hxx,rfl,?_⟩ a w hf hm
   unfold crc1
   rw [if_neg (by omega)]
   rfl
 ·rintro m _ ⟨x,h1,h8,hx,hT,rfl⟩ J hJ
  have hxx:=hx
  unfold Sum24 at hx
  obtain ⟨j,rfl⟩:∃ j,m = j + 1:=⟨m - 1,by omega⟩
  have e1:crc1 x = _:=rfl
  refine hgE 17 [oh0,oh2,oh0,oh0,oh0] [0,5,14] [n64 ((x * 2))] [] [.code [1,1,0,1],.code [1,1,1]] ⟨[(0,i6 (x * 2)),(5,i6 ((j + 1:Nat):Int)),(14,.bool (decide (((x * 2):Int) ≥ 16777216)))],[],[],w.heap.size⟩ ?_
  rcases Bool.eq_false_or_eq_true (decide (((x * 2):Int) ≥ 16777216)) with d2 | d2
  ·skip
   have d2':=of_decide_eq_true d2
   refine hgE 21 [oh1,oh0,oh2,oh0,oh0,oh2,oh0,oh0,oh0] [0,5,20] [eD d2,oE ((0:Int) ≤ (x * 2) ∧ (0:Int) ≤ 25578747 ∧ (x * 2) ≤ IntKind.max .i64 ∧ 25578747 ≤ IntKind.max .i64) (bits_ob64 (by omega) (by omega)),n64 ((((j + 1:Nat):Int) - 1))] [] [.code [1,1,1,1,0,1],.code [1,1,1,1,1]] ⟨[(0,i6 (xorZ (x * 2) 25578747)),(5,i6 (((j + 1:Nat):Int) - 1)),(20,.bool (decide (((((j + 1:Nat):Int) - 1):Int) > 0)))],[],[],w.heap.size⟩ ?_
   rcases Bool.eq_false_or_eq_true (decide (((((j + 1:Nat):Int) - 1):Int) > 0)) with d3 | d3
   ·skip
    have d3':=of_decide_eq_true d3
    refine hgE 4 [oh1] [0,5] [eD d3] [] [.code [1,1,1,1,0,1,0],.code [1,1,1,1,1]] ⟨[(0,i6 (xorZ (x * 2) 25578747)),(5,i6 (((j + 1:Nat):Int) - 1))],[],[],w.heap.size⟩ ?_
    refine holds_goto (by kernel_rfl) (fun a w hf hm=>?_)
    refine hJ j _ (by omega) ⟨crc1 x,by omega,by omega,crc1_bd hxx,hT,?_⟩ a w hf hm
    have e2:((j + 1:Nat):Int) - 1 = (j:Int):=by omega
    unfold crc1
    rw [if_pos (by omega),e2]
   ·skip
    have d3':=of_decide_eq_false d3
    refine hgE 10 [oh0,oh0,oh0] [0,4,5] [eD d3] [] [.code [1,1,1,1,1,1]] ⟨[(0,i6 (xorZ (x * 2) 25578747)),(4,i6 (xorZ (x * 2) 25578747)),(5,i6 (((j + 1:Nat):Int) - 1))],[],[],w.heap.size⟩ ?_
    refine holds_retJ [] (by kernel_rfl) (show _ = some ([.int .i64 (xorZ (x * 2) 25578747)],dupR []) by kernel_rfl) ?_
    intro wx hm
    refine ⟨?_,hm.kept⟩
    obtain rfl:j = 0:=by omega
    rw [← hT]
    show _ = Ending.returned (Value.int .i64 (crc1 x))
    unfold crc1
    rw [if_pos (by omega)]
    rfl
  ·skip
   have d2':=of_decide_eq_false d2
   refine hgE 17 [oh0,oh0,oh2,oh0,oh0,oh0] [0,5,20] [eD d2,n64 ((((j + 1:Nat):Int) - 1))] [] [.code [1,1,1,1,0,1],.code [1,1,1,1,1]] ⟨[(0,i6 (x * 2)),(5,i6 (((j + 1:Nat):Int) - 1)),(20,.bool (decide (((((j + 1:Nat):Int) - 1):Int) > 0)))],[],[],w.heap.size⟩ ?_
   rcases Bool.eq_false_or_eq_true (decide (((((j + 1:Nat):Int) - 1):Int) > 0)) with d4 | d4
   ·skip
    have d4':=of_decide_eq_true d4
    refine hgE 4 [oh1] [0,5] [eD d4] [] [.code [1,1,1,1,0,1,0],.code [1,1,1,1,1]] ⟨[(0,i6 (x * 2)),(5,i6 (((j + 1:Nat):Int) - 1))],[],[],w.heap.size⟩ ?_
    refine holds_goto (by kernel_rfl) (fun a w hf hm=>?_)
    refine hJ j _ (by omega) ⟨crc1 x,by omega,by omega,crc1_bd hxx,hT,?_⟩ a w hf hm
    have e2:((j + 1:Nat):Int) - 1 = (j:Int):=by omega
    unfold crc1
    rw [if_neg (by omega),e2]
   ·skip
    have d4':=of_decide_eq_false d4
    refine hgE 10 [oh0,oh0,oh0] [0,4,5] [eD d4] [] [.code [1,1,1,1,1,1]] ⟨[(0,i6 (x * 2)),(4,i6 (x * 2)),(5,i6 (((j + 1:Nat):Int) - 1))],[],[],w.heap.size⟩ ?_
    refine holds_retJ [] (by kernel_rfl) (show _ = some ([.int .i64 (x * 2)],dupR []) by kernel_rfl) ?_
    intro wx hm
    refine ⟨?_,hm.kept⟩
    obtain rfl:j = 0:=by omega
    rw [← hT]
    show _ = Ending.returned (Value.int .i64 (crc1 x))
    unfold crc1
    rw [if_neg (by omega)]
    rfl
def GoI (s:ByteArray) (z0:Nat) (m:Nat) (st:St):Prop:=∃ i z:Nat,i ≤ s.size ∧ z0 ≤ z ∧ m + i = s.size ∧ st = ⟨[(0,i6 (crcL 11994318 ((intsOf s).take i))),(1,sT s),(4,i6 0),(9,i6 (s.size:Int)),(10,i6 (i:Int))],[],[],z⟩
set_option maxRecDepth 100000 in
set_option maxHeartbeats 4000000 in
theorem go_any (s:ByteArray) (hs:(s.size:Int) ≤ 9223372036854775807) (w:World) :
  Calls Try.prog 82 #[.int .i64 11994318,.string s] w (RetK (.int .i64 (crcS s)) w):=by
 refine calls_of_holds (S:=(fun _=>False)) (l:=[.int .i64 11994318,.string s]) (n:=20) Try.func82 (body_of (by kernel_rfl)) rfl (by simp) (MemOk.none w _) ?_
 refine hgE 21 [oh0,oh0,oh0,oh0,oh0,oh0,oh0] [0,1,4,9,10] [] [] [.code [1,1,0,1,0],.blk 0,.code [1,1,1]] ⟨[(0,i6 11994318),(1,sT s),(4,i6 0),(9,i6 (s.size:Int)),(10,i6 0)],[],[],w.heap.size⟩ ?_
 refine holds_loop (GoI s w.heap.size) s.size (by kernel_rfl) ⟨0,w.heap.size,by omega,Nat.le_refl _,rfl,rfl⟩ ?_
 rintro m _ ⟨i,z,hi,hz,hmi,rfl⟩ J hJ
 have hS:=crcL_bd ((intsOf s).take i) (c:=11994318) ⟨by decide,by decide⟩ (byts_take _ _)
 have hby:=byteAt_bd s (Int.toNat (i:Int))
 by_cases hlt:i < s.size
 ·skip
  refine hgE 22 [oh0,oh1,oh0,oh0,oh0,oh0,oh0,oh2] [0,1,4,9,10,13,16] [dT (((i:Int):Int) < (s.size:Int)),oE ((0:Int) ≤ (i:Int) ∧ (i:Int) < ((s).size:Int))] [] [.ops [1,1,0,1,0,0,1,1,0,0,1] [4,5],.blk 1,.code [1,1,0,1,0,0,1,1,1],.inv J,.blk 0,.code [1,1,1]] ⟨[(0,i6 (crcL 11994318 ((intsOf s).take i))),(1,sT s),(4,i6 0),(9,i6 (s.size:Int)),(10,i6 (i:Int)),(13,i6 (crcL 11994318 ((intsOf s).take i))),(16,u6 (byteAt s (Int.toNat (i:Int))))],[],[],z⟩ ?_
  refine hcp (i6 (crcB (crcL 11994318 ((intsOf s).take i)) (byteAt s (Int.toNat (i:Int))))) 96 [i6 (crcL 11994318 ((intsOf s).take i)),u6 (byteAt s (Int.toNat (i:Int)))] (some 17) [] tI rfl (fun wx hm=>step_any _ _ hS hby wx) fun z3 hz3=>?_
  replace hz3:z ≤ z3:=hz3
  refine hgE 10 [oh0,oh2,oh0] [0,1,4,9,10] [n64 (((i:Int) + 1))] [] [.inv J,.blk 0,.code [1,1,1]] ⟨[(0,i6 (crcB (crcL 11994318 ((intsOf s).take i)) (byteAt s (Int.toNat (i:Int))))),(1,sT s),(4,i6 0),(9,i6 (s.size:Int)),(10,i6 ((i:Int) + 1))],[],[],z3⟩ ?_
  exact hJ (s.size - (i + 1)) _ (by omega) ⟨i + 1,z3,by omega,by omega,by omega,by rw [crcL_take _ _ hlt,cast_succ]; rfl⟩
 ·skip
  refine hgE 15 [oh0,oh0,oh0,oh0] [4] [dF (((i:Int):Int) < (s.size:Int))] [] [.code [1,1,1,1]] ⟨[(4,i6 (crcL 11994318 ((intsOf s).take i)))],[],[],z⟩ ?_
  refine hrt [] [i6 (crcL 11994318 ((intsOf s).take i))] [] ?_
  intro wx hm
  refine ⟨?_,hm.kept⟩
  obtain rfl:i = s.size:=by omega
  rw [take_all]
  rfl
set_option maxRecDepth 100000 in
set_option maxHeartbeats 4000000 in
theorem sum_any (s:ByteArray) (hs:(s.size:Int) ≤ 9223372036854775807) (w:World) :
  Calls Try.prog 68 #[.string s] w (RetK (.int .i64 (crcS s)) w):=by
 refine calls_of_holds (S:=(fun _=>False)) (l:=[.string s]) (n:=5) Try.func68 (body_of (by kernel_rfl)) rfl (by simp) (MemOk.none w _) ?_
 refine hgE 10 [oh0,oh0] [2,3] [] [] [.ops [1,0] [1,2],.code [1,1]] ⟨[(2,i6 0),(3,sT s)],[],[],w.heap.size⟩ ?_
 refine hcp (i6 (crcS s)) 82 [i6 11994318,sT s] (some 4) [] tI rfl (fun wx hm=>go_any s hs wx) fun z2 hz2=>?_
 replace hz2:w.heap.size ≤ z2:=hz2
 refine hgE 5 [oh0] [2] [] [] [.code [1,1]] ⟨[(2,i6 (crcS s))],[],[],z2⟩ ?_
 refine hrt [] [i6 (crcS s)] [] ?_
 intro wx hm
 exact ⟨rfl,hm.kept⟩
end Go.Proofs.Ytfiheghjhgnblaa
