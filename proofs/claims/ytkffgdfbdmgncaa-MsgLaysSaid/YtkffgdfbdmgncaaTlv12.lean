import Derived.Test.YtkffgdfbdmgncaaTlvM
import Derived.Test.YtkffgdfbdmgncaaOwnR
import Derived.Test.YtkffgdfbdmgncaaEngU
import Derived.Test.YtkffgdfbdmgncaaEngJ
import Derived.Test.YtkffgdfbdmgncaaRight8
import Derived.Test.YtkffgdfbdmgncaaProg
namespace Go.Proofs.Ytkffgdfbdmgncaa
open Go.RowKit
def NumI (n:Int) (w:World) (m:Nat) (st:St) (W1:World):Prop:=∃ (A:Option Addr) (k cp:Nat) (L:List Int) (z:Nat),k = L.length ∧ k ≤ 8 ∧ m < 256 ^ (8 - k) ∧ Byts L ∧ L ++ digF (8 - k) m = numI n ∧ OwnR W1 w.heap.size 5 1 A k cp (intsV L) ∧ st = ⟨[(0,i6 (m:Int)),(2,sT ⟨#[]⟩),(3,i6 0),(4,.slice A k cp)],[],[],z⟩
set_option maxRecDepth 100000 in
set_option maxHeartbeats 4000000 in
theorem num_ok (n:Int) (h:-1 ≤ n ∧ n ≤ 1099511627776) (w:World) :
  Calls Try.prog 58 #[.int .i64 n] w (RetK (.tuple #[.string (numT n),.int .i64 0]) w):=by
 refine calls_of_holds (S:=(fun _=>False)) (l:=[.int .i64 n]) (n:=24) Try.func58 (body_of (by kernel_rfl)) rfl (by simp) (MemOk.none w _) ?_
 refine hgE 32 [oh0,oh0,oh0,oh0,oh0,oh0,oh0,⟨false,3,[]⟩,oh0,oh0,oh0,oh2,oh0] [0,2,3,4] [dF ((n:Int) < (-1)),dF ((n:Int) < (-1)),dF ((n:Int) < (-1)),dF ((n:Int) > 1099511627776),n64 ((n + 1))] [] [.code [1,1,1,0,1,0],.blk 0,.code [1,1,1,1]] ⟨[(0,i6 (n + 1)),(2,sT ⟨#[]⟩),(3,i6 0),(4,.slice none 0 0)],[],[],w.heap.size⟩ ?_
 obtain ⟨m0,hm0⟩:∃ m0:Nat,n + 1 = (m0:Int):=⟨(n + 1).toNat,by omega⟩
 have h256:m0 < 256 ^ (8 - 0):=by
  have:(256:Nat) ^ (8 - 0) = 18446744073709551616:=by decide
  omega
 rw [hm0]
 refine holds_loopW (w:=w) (S':=fun _=>False) (NumI n w) m0 (by kernel_rfl) (fun W1 hm=>⟨⟨none,0,0,[],_,rfl,by omega,h256,fun _ h=>(by cases h),(by unfold numI digN; rw [hm0]; rfl),OwnR.nil _ _ _ _,rfl⟩,hm⟩) ?_
 rintro m _ W1 ⟨A,k,cp,L,z,hk,hk8,hmb,hbL,hL,hO,rfl⟩ hm1 J hJ
 by_cases h1:0 < m
 rotate_left
 ·skip
  refine hgE 14 [oh0,oh0,oh0,oh0] [2,3,22] [dF (((m:Int):Int) > 0)] [] [.ops [1,1,1,1,0] [1,2,3],.code [1,1,1,1,1]] ⟨[(2,sT ⟨#[]⟩),(3,i6 0),(22,.slice A k cp)],[],[],W1.heap.size⟩ ?_
  refine holds_opR (dst:=(some 23)) (x:=convert 50 9 (.slice A k cp)) (.string (bytesI L)) (by kernel_rfl) (by kernel_rfl) rfl (fun wx hm=>?_) ?_
  ·exact run_bytesR (P:=Try.prog) wx w.heap.size 50 9 5 A k cp L (by kernel_rfl) (by kernel_rfl) (by kernel_rfl) (hO.kept hm.kept (hO.calm hm1 (by simp))) hbL
  refine hgE 6 [oh0,oh0] [2,3] [] [] [.code [1,1,1,1,1]] ⟨[(2,sT (bytesI L)),(3,i6 0)],[],[],W1.heap.size⟩ ?_
  refine hrt [] [sT (bytesI L),i6 0] [] ?_
  intro wx hm
  obtain rfl:m = 0:=by omega
  refine ⟨?_,(MemOk.bck hm1 hm).kept⟩
  rw [digF_zero,List.append_nil] at hL
  unfold numT
  rw [← hL]
  rfl
 have hk7:k < 8:=by
  rcases Nat.lt_or_ge k 8 with h | h
  ·exact h
  ·have:8 - k = 0:=by omega
   rw [this] at hmb
   omega
 have hn1:8 - k = (8 - (k + 1)) + 1:=by omega
 have hm2:m / 256 < 256 ^ (8 - (k + 1)):=by rw [hn1,Nat.pow_succ] at hmb; omega
 have hL2:(L ++ [((m % 256:Nat):Int)]) ++ digF (8 - (k + 1)) (m / 256) = numI n:=by
  rw [← hL,hn1]
  show _ = L ++ (if m = 0 then [] else ((m % 256:Nat):Int) :: digF (8 - (k + 1)) (m / 256))
  rw [if_neg (by omega),List.append_assoc]
  rfl
 refine hgE 18 [oh0,oh0,oh1,oh0,oh0,oh3,oh0] [0,2,3,4,17,20] [dT (((m:Int):Int) > 0),vV] [] [.ops [1,1,1,0,1,0,0,1,0,0] [4,5],.blk 1,.code [1,1,1,0,1,0,0,1,1],.inv J,.blk 0,.code [1,1,1,1]] ⟨[(0,i6 (m:Int)),(2,sT ⟨#[]⟩),(3,i6 0),(4,.slice A k cp),(17,.slice A k cp),(20,.slice (some ⟨W1.heap.size,0,none⟩) 1 1)],[⟨W1.heap.size,5,true,[u6 ((m:Int) % 256)]⟩],[],W1.heap.size + 1⟩ ?_
 refine holds_opV (w:=w) (S':=(fun _=>False)) (Y:=Option Addr × Nat) (dst:=(some 21)) (x:=Builtin.append_ #[50,50] 50 #[.slice A k cp,.slice (some ⟨W1.heap.size,0,none⟩) 1 1]) (fun yq=>.slice yq.1 (k + 1) yq.2) [] (fun yq W_=>OwnR W_ w.heap.size 5 1 yq.1 (k + 1) yq.2 ((intsV L) ++ [.int .u8 ((m:Int) % 256)])) (fun yq=>[(21,.slice yq.1 (k + 1) yq.2),(0,.int .i64 (m:Int)),(2,.string ⟨#[]⟩),(3,.int .i64 0),(4,.slice A k cp),(17,.slice A k cp),(20,.slice (some ⟨W1.heap.size,0,none⟩) 1 1)]) (by kernel_rfl) (by kernel_rfl) (fun _=>rfl) (fun wx hm=>?_) (fun yq W41 hX41 hm41=>?_)
 ·have hO_:=(hO.kept hm.kept (hO.calm hm1 (by simp)))
  obtain ⟨A',cp',w',h1,h2,h3,_⟩:=run_appendR (P:=Try.prog) wx w.heap.size 50 50 5 (.int .u8 0) 1 1 A k cp (intsV L) ⟨W1.heap.size,0,none⟩ 1 1 [.int .u8 ((m:Int) % 256)] (by kernel_rfl) (by kernel_rfl) (by kernel_rfl) (by decide) hO_ rfl (fun j x hj=>by rw [add_norm,Nat.zero_add]; exact (hm.at_ 0 rfl).at_ hj) (ones_all (by kernel_rfl)) (by omega) (by decide) (MemOk.bck hm1 hm).kept.size
  refine ⟨(A',cp'),w',h1,h2,((MemOk.bck hm1 hm).none_).offA (fun _ h=>h) h3 (fun x hx=>.inr (hO_.own x hx).1) (by intro b hb; simp at hb)⟩
 obtain ⟨A41,c41⟩:=yq
 replace hX41:OwnR W41 w.heap.size 5 1 A41 (k + 1) c41 ((intsV L) ++ [.int .u8 ((m:Int) % 256)]):=hX41
 refine hgE 11 [oh0,oh0,oh2,oh0] [0,2,3,4] [oE ((0:Int) ≤ 8 ∧ (8:Int) ≤ (IntKind.bits .i64:Nat)) (⟨by decide,by decide⟩)] [] [.inv J,.blk 0,.code [1,1,1,1]] ⟨[(0,i6 ((m:Int) / 256)),(2,sT ⟨#[]⟩),(3,i6 0),(4,.slice A41 (k + 1) c41)],[],[],W41.heap.size⟩ ?_
 intro a_ w4 hf hm
 have e1:((m:Int) / 256) = ((m / 256:Nat):Int):=by omega
 have e2:((m:Int) % 256) = ((m % 256:Nat):Int):=by omega
 rw [e1] at hf
 exact hJ (m / 256) _ a_ w4 (by omega) ⟨_,_,_,L ++ [((m % 256:Nat):Int)],_,by simp [hk],by omega,hm2,hbL.append (fun x hx=>by simp at hx; omega),hL2,by
  have h:=hX41.kept hm.kept (hX41.calm hm41 (by simp))
  rw [e2] at h
  simpa [intsV] using h,rfl⟩ hf (MemOk.bck hm41 hm)
theorem pow_8 (i:Nat) (hi:i ≤ 5):2 ^ (8 * i) ≤ 1099511627776:=by
 have:(2:Nat) ^ (8 * i) ≤ 2 ^ 40:=Nat.pow_le_pow_right (by omega) (by omega)
 exact this
theorem shl_bd (s:ByteArray) (i:Nat) (hi:i ≤ 5):0 ≤ byteAt s (Int.toNat (i:Int)) * ((2 ^ Int.toNat (8 * (i:Int)):Nat):Int) ∧ byteAt s (Int.toNat (i:Int)) * ((2 ^ Int.toNat (8 * (i:Int)):Nat):Int) ≤ 280375465082880:=by
 have h1:=byteAt_bd s (Int.toNat (i:Int))
 have h2:=pow_8 i hi
 have e:Int.toNat (8 * (i:Int)) = 8 * i:=by omega
 rw [e]
 refine ⟨Int.mul_nonneg h1.1 (Int.natCast_nonneg _),?_⟩
 have h3:byteAt s (Int.toNat (i:Int)) * ((2 ^ (8 * i):Nat):Int) ≤ 255 * 1099511627776:=Int.mul_le_mul h1.2 (by omega) (Int.natCast_nonneg _) (by omega)
 omega
theorem val_take_bd (s:ByteArray) (i:Nat) (hi:i ≤ 6):0 ≤ valL ((intsOf s).take i) ∧ valL ((intsOf s).take i) < 281474976710656:=by
 have h1:=val_take_lt s i
 have h2:(256:Nat) ^ i ≤ 256 ^ 6:=Nat.pow_le_pow_right (by omega) hi
 have h3:(256:Nat) ^ 6 = 281474976710656:=by decide
 refine ⟨h1.1,Int.lt_of_lt_of_le h1.2 ?_⟩
 rw [h3] at h2
 exact Int.ofNat_le.2 h2
theorem last_byte (s:ByteArray) (h:s.size ≠ 0):(intsOf s).getLast? = some (byteAt s (Int.toNat ((s.size:Int) - 1))):=by
 rw [List.getLast?_eq_getElem?,length_intsOf,byteAt_eq,show Int.toNat ((s.size:Int) - 1) = s.size - 1 by omega]
 have h1:s.size - 1 < (intsOf s).length:=by rw [length_intsOf]; omega
 rw [List.getElem?_eq_getElem h1]
 rfl
theorem get_bad {s:ByteArray} (h:getOk s = false):(.tuple #[.int .i64 0,.int .i64 30]:Value) = .tuple #[.int .i64 (getI s),.int .i64 (getE s)]:=by
 unfold getI getE
 rw [h]
 rfl
theorem get_good {s:ByteArray} (h:getOk s = true):(.tuple #[.int .i64 (getV s),.int .i64 0]:Value) = .tuple #[.int .i64 (getI s),.int .i64 (getE s)]:=by
 unfold getI getE
 rw [h]
 rfl
def GetI (s:ByteArray) (z0:Nat) (m:Nat) (st:St):Prop:=∃ i z:Nat,m + i = s.size ∧ z0 ≤ z ∧ st = ⟨[(0,sT s),(2,i6 0),(3,i6 0),(4,i6 (valL ((intsOf s).take i))),(22,i6 (s.size:Int)),(23,i6 (i:Int))],[],[],z⟩
set_option maxRecDepth 100000 in
set_option maxHeartbeats 4000000 in
theorem get_any (s:ByteArray) (hs:(s.size:Int) ≤ 9223372036854775807) (w:World) :
  Calls Try.prog 62 #[.string s] w (RetK (.tuple #[.int .i64 (getI s),.int .i64 (getE s)]) w):=by
 refine calls_of_holds (S:=(fun _=>False)) (l:=[.string s]) (n:=41) Try.func62 (body_of (by kernel_rfl)) rfl (by simp) (MemOk.none w _) ?_
 have hsz:(s.size:Int) ≤ 9223372036854775807:=hs
 by_cases h6:6 < s.size
 ·skip
  refine hgE 33 [oh0,oh0,oh0,oh0,oh0,oh0,oh1,oh1,oh1,oh0,oh0,oh0,oh0,oh0,oh0,oh1,oh3,oh1,oh0,oh0] [0,2,3] [dT (((s.size:Int):Int) > 6),dT (((s.size:Int):Int) > 6),dT (((s.size:Int):Int) > 6),dT (((s.size:Int):Int) > 6),dT (((s.size:Int):Int) > 6),tT] [] [.code [1,0,1,0,1],.code [1,1]] ⟨[(0,sT s),(2,i6 0),(3,i6 30)],[],[],w.heap.size⟩ ?_
  refine hrt [] [i6 0,i6 30] [] ?_
  intro wx hm
  exact ⟨congrArg _ (get_bad (by unfold getOk; rw [decide_eq_false (by omega)]; rfl)),hm.kept⟩
 have hmain:(s.size ≠ 0 → byteAt s (Int.toNat ((s.size:Int) - 1)) ≠ 0) → Holds [] Try.prog (bodyOf Try.f62) 41 w (fun _=>False) (bodyPost Try.prog Try.f62 (RetK (.tuple #[.int .i64 (getI s),.int .i64 (getE s)]) w)) [.code []] ⟨[(0,.string s)],[],[],w.heap.size⟩:=by
  intro hz0
  have hzl:(intsOf s).getLast? ≠ some 0:=by
   by_cases he:s.size = 0
   ·rw [(size_zero.1 he:s = noText)]; decide
   ·rw [last_byte s he]; intro h; exact hz0 he (Option.some.inj h)
  suffices HL:Holds [] Try.prog (bodyOf Try.f62) 41 w (fun _=>False) (bodyPost Try.prog Try.f62 (RetK (.tuple #[.int .i64 (getI s),.int .i64 (getE s)]) w)) [.code [1,1,1,0,1,0],.blk 0,.code [1,1,1,1]] ⟨[(0,.string s),(2,.int .i64 0),(3,.int .i64 0),(4,.int .i64 0),(22,.int .i64 (s.size:Int)),(23,.int .i64 0)],[],[],w.heap.size⟩ by
   by_cases he:s.size = 0
   ·skip
    refine hgE 41 [oh0,oh0,oh0,oh0,oh0,oh0,oh0,oh0,oh0,oh0,oh0,oh0,oh0,oh0,oh0,⟨false,3,[]⟩,⟨false,3,[]⟩,oh0,oh0,oh0,oh0,oh0] [0,2,3,4,22,23] [dF (((s.size:Int):Int) > 6),dF (((s.size:Int):Int) > 6),dF (((s.size:Int):Int) > 6),oE ((!(ByteArray.toList s == ByteArray.toList ⟨#[]⟩)) = false) (by rw [show (ByteArray.toList s == ByteArray.toList ⟨#[]⟩) = true from by rw [empty_text]; exact decide_eq_true (by omega)]; rfl),oE ((!(ByteArray.toList s == ByteArray.toList ⟨#[]⟩)) = false) (by rw [show (ByteArray.toList s == ByteArray.toList ⟨#[]⟩) = true from by rw [empty_text]; exact decide_eq_true (by omega)]; rfl),oE ((!(ByteArray.toList s == ByteArray.toList ⟨#[]⟩)) = false) (by rw [show (ByteArray.toList s == ByteArray.toList ⟨#[]⟩) = true from by rw [empty_text]; exact decide_eq_true (by omega)]; rfl),oE ((!(ByteArray.toList s == ByteArray.toList ⟨#[]⟩)) = false) (by rw [show (ByteArray.toList s == ByteArray.toList ⟨#[]⟩) = true from by rw [empty_text]; exact decide_eq_true (by omega)]; rfl),oE ((!(ByteArray.toList s == ByteArray.toList ⟨#[]⟩)) = false) (by rw [show (ByteArray.toList s == ByteArray.toList ⟨#[]⟩) = true from by rw [empty_text]; exact decide_eq_true (by omega)]; rfl),oE ((!(ByteArray.toList s == ByteArray.toList ⟨#[]⟩)) = false) (by rw [show (ByteArray.toList s == ByteArray.toList ⟨#[]⟩) = true from by rw [empty_text]; exact decide_eq_true (by omega)]; rfl),dF (((s.size:Int):Int) > 6),oE ((!(ByteArray.toList s == ByteArray.toList ⟨#[]⟩)) = false) (by rw [show (ByteArray.toList s == ByteArray.toList ⟨#[]⟩) = true from by rw [empty_text]; exact decide_eq_true (by omega)]; rfl),dF (((s.size:Int):Int) > 6),fF] [] [.code [1,1,1,0,1,0],.blk 0,.code [1,1,1,1]] ⟨[(0,sT s),(2,i6 0),(3,i6 0),(4,i6 0),(22,i6 (s.size:Int)),(23,i6 0)],[],[],w.heap.size⟩ ?_
    exact HL
   ·skip
    have hz:=hz0 he
    refine hgE 41 [oh0,oh0,oh0,oh0,oh0,oh0,oh0,oh0,oh0,oh1,oh1,oh1,⟨true,1,[]⟩,⟨true,1,[]⟩,oh1,oh3,⟨false,3,[]⟩,oh0,oh0,oh0,oh0,oh0] [0,2,3,4,22,23] [dF (((s.size:Int):Int) > 6),dF (((s.size:Int):Int) > 6),dF (((s.size:Int):Int) > 6),oE ((!(ByteArray.toList s == ByteArray.toList ⟨#[]⟩)) = true) (by rw [show (ByteArray.toList s == ByteArray.toList ⟨#[]⟩) = false from by rw [empty_text]; exact decide_eq_false (by omega)]; rfl),oE ((!(ByteArray.toList s == ByteArray.toList ⟨#[]⟩)) = true) (by rw [show (ByteArray.toList s == ByteArray.toList ⟨#[]⟩) = false from by rw [empty_text]; exact decide_eq_false (by omega)]; rfl),oE ((!(ByteArray.toList s == ByteArray.toList ⟨#[]⟩)) = true) (by rw [show (ByteArray.toList s == ByteArray.toList ⟨#[]⟩) = false from by rw [empty_text]; exact decide_eq_false (by omega)]; rfl),oE ((!(ByteArray.toList s == ByteArray.toList ⟨#[]⟩)) = true) (by rw [show (ByteArray.toList s == ByteArray.toList ⟨#[]⟩) = false from by rw [empty_text]; exact decide_eq_false (by omega)]; rfl),n64 (((s.size:Int) - 1)),oE ((!(ByteArray.toList s == ByteArray.toList ⟨#[]⟩)) = true) (by rw [show (ByteArray.toList s == ByteArray.toList ⟨#[]⟩) = false from by rw [empty_text]; exact decide_eq_false (by omega)]; rfl),oE ((0:Int) ≤ ((s.size:Int) - 1) ∧ ((s.size:Int) - 1) < ((s).size:Int)),oE ((!(ByteArray.toList s == ByteArray.toList ⟨#[]⟩)) = true) (by rw [show (ByteArray.toList s == ByteArray.toList ⟨#[]⟩) = false from by rw [empty_text]; exact decide_eq_false (by omega)]; rfl),dF (((s.size:Int):Int) > 6),oE ((!(ByteArray.toList s == ByteArray.toList ⟨#[]⟩)) = true) (by rw [show (ByteArray.toList s == ByteArray.toList ⟨#[]⟩) = false from by rw [empty_text]; exact decide_eq_false (by omega)]; rfl),dF (((s.size:Int):Int) > 6),oE (((byteAt s (Int.toNat ((s.size:Int) - 1))) == 0) = false) (beq_eq_false_iff_ne.2 hz)] [] [.code [1,1,1,0,1,0],.blk 0,.code [1,1,1,1]] ⟨[(0,sT s),(2,i6 0),(3,i6 0),(4,i6 0),(22,i6 (s.size:Int)),(23,i6 0)],[],[],w.heap.size⟩ ?_
    exact HL
  refine holds_loop (GetI s w.heap.size) s.size (by kernel_rfl) ⟨0,w.heap.size,rfl,Nat.le_refl _,rfl⟩ ?_
  rintro m _ ⟨i,z,hmi,hz,rfl⟩ J hJ
  have hv:=val_take_bd s i (by omega)
  by_cases h1:i < s.size
  ·skip
   have hP:=shl_bd s i (by omega)
   have hb:=byteAt_bd s (Int.toNat (i:Int))
   refine hgE 34 [oh0,oh1,oh0,oh0,oh0,oh0,oh0,oh2,oh2,oh0,oh2,oh2,oh2,oh0,oh2,oh0] [0,2,3,4,22,23] [dT (((i:Int):Int) < (s.size:Int)),oE ((0:Int) ≤ (i:Int) ∧ (i:Int) < ((s).size:Int)),n64 ((byteAt s (Int.toNat (i:Int)))),n64 ((8 * (i:Int))),oE (inR .i64 ((byteAt s (Int.toNat (i:Int))) * ((2 ^ Int.toNat (8 * (i:Int)):Nat):Int)) ∧ (0:Int) ≤ (8 * (i:Int)) ∧ (8 * (i:Int)) ≤ ((IntKind.bits .i64:Nat):Int)) (⟨in64 (by omega),by omega,by show _ ≤ ((64:Nat):Int); omega⟩),oE ((0:Int) ≤ (valL ((intsOf s).take i)) ∧ (0:Int) ≤ ((byteAt s (Int.toNat (i:Int))) * ((2 ^ Int.toNat (8 * (i:Int)):Nat):Int)) ∧ (valL ((intsOf s).take i)) ≤ IntKind.max .i64 ∧ ((byteAt s (Int.toNat (i:Int))) * ((2 ^ Int.toNat (8 * (i:Int)):Nat):Int)) ≤ IntKind.max .i64) (bits_ob64 (by omega) (by omega)),n64 (((i:Int) + 1))] [] [.inv J,.blk 0,.code [1,1,1,1]] ⟨[(0,sT s),(2,i6 0),(3,i6 0),(4,i6 (orZ (valL ((intsOf s).take i)) ((byteAt s (Int.toNat (i:Int))) * ((2 ^ Int.toNat (8 * (i:Int)):Nat):Int)))),(22,i6 (s.size:Int)),(23,i6 ((i:Int) + 1))],[],[],z⟩ ?_
   exact hJ (m - 1) _ (by omega) ⟨i + 1,z,by omega,by omega,by rw [← or_byte s h1,cast_succ,show Int.toNat (i:Int) = i by omega,show Int.toNat (8 * (i:Int)) = 8 * i by omega]⟩
  have hie:i = s.size:=by omega
  have hall:(intsOf s).take i = intsOf s:=by rw [hie,take_all]
  by_cases h2:valL ((intsOf s).take i) - 1 > 1099511627776
  ·skip
   refine hgE 28 [oh0,oh0,oh0,oh2,oh0,oh0,oh0,oh1,oh0,oh0] [2,3,4] [dF (((i:Int):Int) < (s.size:Int)),n64 (((valL ((intsOf s).take i)) - 1)),dT ((((valL ((intsOf s).take i)) - 1):Int) > 1099511627776)] [] [.code [1,1,1,1,1,0,1,0,1],.code [1,1,1,1,1,1]] ⟨[(2,i6 0),(3,i6 30),(4,i6 ((valL ((intsOf s).take i)) - 1))],[],[],z⟩ ?_
   refine hrt [] [i6 0,i6 30] [] ?_
   intro wx hm
   exact ⟨congrArg _ (get_bad (by unfold getOk getV; rw [hall] at h2; rw [decide_eq_false (p:=valL (intsOf s) - 1 ≤ 1099511627776) (by omega),Bool.and_false])),hm.kept⟩
  ·skip
   refine hgE 30 [oh0,oh0,oh0,oh2,oh0,oh0,oh0,oh0,oh0,oh0,oh0] [2,3] [dF (((i:Int):Int) < (s.size:Int)),n64 (((valL ((intsOf s).take i)) - 1)),dF ((((valL ((intsOf s).take i)) - 1):Int) > 1099511627776)] [] [.code [1,1,1,1,1,1,1]] ⟨[(2,i6 ((valL ((intsOf s).take i)) - 1)),(3,i6 0)],[],[],z⟩ ?_
   refine hrt [] [i6 ((valL ((intsOf s).take i)) - 1),i6 0] [] ?_
   intro wx hm
   exact ⟨congrArg _ (by rw [hall]; exact get_good (by unfold getOk getV; rw [hall] at h2; rw [decide_eq_true (p:=s.size ≤ 6) (by omega),decide_eq_true (p:=valL (intsOf s) - 1 ≤ 1099511627776) (by omega),bne_iff_ne.2 hzl]; rfl)),hm.kept⟩
 by_cases he:s.size = 0
 ·exact hmain (fun h=>absurd he h)
 by_cases hz:byteAt s (Int.toNat ((s.size:Int) - 1)) = 0
 rotate_left
 ·exact hmain (fun _=>hz)
 refine hgE 33 [oh0,oh0,oh0,oh0,oh0,oh0,oh0,oh0,oh0,oh1,oh1,oh1,⟨true,1,[]⟩,⟨true,1,[]⟩,oh1,oh3,⟨false,3,[]⟩,oh1,oh0,oh0] [0,2,3] [dF (((s.size:Int):Int) > 6),dF (((s.size:Int):Int) > 6),dF (((s.size:Int):Int) > 6),oE ((!(ByteArray.toList s == ByteArray.toList ⟨#[]⟩)) = true) (by rw [show (ByteArray.toList s == ByteArray.toList ⟨#[]⟩) = false from by rw [empty_text]; exact decide_eq_false (by omega)]; rfl),oE ((!(ByteArray.toList s == ByteArray.toList ⟨#[]⟩)) = true) (by rw [show (ByteArray.toList s == ByteArray.toList ⟨#[]⟩) = false from by rw [empty_text]; exact decide_eq_false (by omega)]; rfl),oE ((!(ByteArray.toList s == ByteArray.toList ⟨#[]⟩)) = true) (by rw [show (ByteArray.toList s == ByteArray.toList ⟨#[]⟩) = false from by rw [empty_text]; exact decide_eq_false (by omega)]; rfl),oE ((!(ByteArray.toList s == ByteArray.toList ⟨#[]⟩)) = true) (by rw [show (ByteArray.toList s == ByteArray.toList ⟨#[]⟩) = false from by rw [empty_text]; exact decide_eq_false (by omega)]; rfl),n64 (((s.size:Int) - 1)),oE ((!(ByteArray.toList s == ByteArray.toList ⟨#[]⟩)) = true) (by rw [show (ByteArray.toList s == ByteArray.toList ⟨#[]⟩) = false from by rw [empty_text]; exact decide_eq_false (by omega)]; rfl),oE ((0:Int) ≤ ((s.size:Int) - 1) ∧ ((s.size:Int) - 1) < ((s).size:Int)),oE ((!(ByteArray.toList s == ByteArray.toList ⟨#[]⟩)) = true) (by rw [show (ByteArray.toList s == ByteArray.toList ⟨#[]⟩) = false from by rw [empty_text]; exact decide_eq_false (by omega)]; rfl),dF (((s.size:Int):Int) > 6),oE ((!(ByteArray.toList s == ByteArray.toList ⟨#[]⟩)) = true) (by rw [show (ByteArray.toList s == ByteArray.toList ⟨#[]⟩) = false from by rw [empty_text]; exact decide_eq_false (by omega)]; rfl),dF (((s.size:Int):Int) > 6),oE (((byteAt s (Int.toNat ((s.size:Int) - 1))) == 0) = true) (by rw [hz]; rfl)] [] [.code [1,0,1,0,1],.code [1,1]] ⟨[(0,sT s),(2,i6 0),(3,i6 30)],[],[],w.heap.size⟩ ?_
 refine hrt [] [i6 0,i6 30] [] ?_
 intro wx hm
 exact ⟨congrArg _ (get_bad (by unfold getOk; rw [last_byte s he,hz]; simp)),hm.kept⟩
theorem lay_step (fs:List FldM) {i:Nat} {f:FldM} (h:fs[i]? = some f):layI (fs.take (i + 1)) = layI (fs.take i) ++ layF f:=by
 rw [List.take_add_one,h]
 exact layI_snoc _ _
theorem lay_bad (fs:List FldM) {i:Nat} {f:FldM} (h:fs[i]? = some f) (hb:fldB f = false):layOk fs = false:=by
 unfold layOk
 rw [(List.all_eq_false).2 ⟨f,List.mem_of_getElem? h,by rw [hb]; decide⟩,Bool.and_false]
theorem layT_good {fs:List FldM} (h:layOk fs = true):(.tuple #[.string (bytesI (layI fs)),.int .i64 0]:Value) = .tuple #[.string (bif layOk fs then bytesI (layI fs) else ⟨#[]⟩),.int .i64 (bif layOk fs then 0 else 30)]:=by rw [h]; rfl
theorem layT_bad {fs:List FldM} (h:layOk fs = false):(.tuple #[.string ⟨#[]⟩,.int .i64 30]:Value) = .tuple #[.string (bif layOk fs then bytesI (layI fs) else ⟨#[]⟩),.int .i64 (bif layOk fs then 0 else 30)]:=by rw [h]; rfl
theorem all_snoc_take (fs:List FldM) {i:Nat} {f:FldM} (h:fs[i]? = some f) (ha:(fs.take i).all fldB = true) (hf:fldB f = true):(fs.take (i + 1)).all fldB = true:=by
 rw [List.take_add_one,h,List.all_append,ha]
 simp [hf]
def lay_v1 (f:FldM):List Value:=[u6 (f.tag % 256),u6 ((f.text.size:Int) % 256),u6 (((f.text.size:Int) / 256) % 256)]
def lay_n1:List Nat:=[1,1,1,0,1,0,0,1,1,0,0,1,0,1,0,1]
def lay_n2:List Nat:=[1,1,1,0,1,0,0,1,1,0,0,1,1]
def lay_n3:List Nat:=[1,1,1,0,1,0,0,1,1,1]
@[simp] def lay_b1 (W1:World) (f:FldM):List Bk:=[⟨W1.heap.size,60,true,[i6 f.tag,sT f.text]⟩]
def LayI (A0:Option Addr) (n cp0:Nat) (fs:List FldM) (w:World) (m:Nat) (st:St) (W1:World):Prop:=∃ (i:Nat) (A:Option Addr) (k cp:Nat) (z:Nat),m + i = n ∧ k ≤ 403 * i ∧ (fs.take i).all fldB = true ∧ OwnR W1 w.heap.size 5 1 A k cp (intsV (layI (fs.take i))) ∧ st = ⟨[(2,sT ⟨#[]⟩),(3,i6 0),(4,.slice A k cp),(11,.slice A0 n cp0),(12,i6 (n:Int)),(13,i6 (i:Int))],[],[],z⟩
set_option maxRecDepth 100000 in
set_option maxHeartbeats 4000000 in
theorem lay_any (A0:Option Addr) (n cp0 b0:Nat) (fs:List FldM) (hS:∀ f ∈ fs,f.text.size ≤ 9223372036854775807) (hn:n ≤ 9223372036854775807) (w:World) (hF:OwnR w b0 60 2 A0 n cp0 (fldV fs)) :
  Calls Try.prog 20 #[.slice A0 n cp0] w (RetK (.tuple #[.string (bif layOk fs then bytesI (layI fs) else ⟨#[]⟩),.int .i64 (bif layOk fs then 0 else 30)]) w):=by
 refine calls_of_holds (S:=(fun _=>False)) (l:=[.slice A0 n cp0]) (n:=52) Try.func20 (body_of (by kernel_rfl)) rfl (by simp) (MemOk.none w _) ?_
 have hfl:fs.length = n:=by have:=hF.len; rw [len_fldV] at this; omega
 by_cases h64:64 < n
 ·skip
  refine hgE 21 [oh0,oh0,oh0,oh0,oh0,oh1,oh0,oh0] [0,2,3] [dT (((n:Int):Int) > 64)] [] [.code [1,0,1,0,1],.code [1,1]] ⟨[(0,.slice A0 n cp0),(2,sT ⟨#[]⟩),(3,i6 30)],[],[],w.heap.size⟩ ?_
  refine hrt [] [sT ⟨#[]⟩,i6 30] [] ?_
  intro wx hm
  exact ⟨congrArg _ (layT_bad (by unfold layOk; rw [decide_eq_false (by omega)]; rfl)),hm.kept⟩
 refine hgE 29 [oh0,oh0,oh0,oh0,oh0,oh0,oh0,oh0,oh0,oh0] [2,3,4,11,12,13] [dF (((n:Int):Int) > 64)] [] [.code [1,1,1,0,1,0],.blk 0,.code [1,1,1,1]] ⟨[(2,sT ⟨#[]⟩),(3,i6 0),(4,.slice none 0 0),(11,.slice A0 n cp0),(12,i6 (n:Int)),(13,i6 0)],[],[],w.heap.size⟩ ?_
 refine holds_loopW (w:=w) (S':=fun _=>False) (LayI A0 n cp0 fs w) n (by kernel_rfl) (fun W1 hm=>⟨⟨0,none,0,0,_,rfl,by omega,rfl,OwnR.nil _ _ _ _,rfl⟩,hm⟩) ?_
 rintro m _ W1 ⟨i,A,k,cp,z,hmi,hk,hall,hO,rfl⟩ hm1 J hJ
 by_cases h1:i < n
 rotate_left
 ·skip
  have ein:fs.take i = fs:=List.take_of_length_le (by omega)
  rw [ein] at hO hall
  refine hgE 13 [oh0,oh0,oh0] [2,3,50] [dF (((i:Int):Int) < (n:Int))] [] [.ops [1,1,1,1,0] [1,2,3],.code [1,1,1,1,1]] ⟨[(2,sT ⟨#[]⟩),(3,i6 0),(50,.slice A k cp)],[],[],W1.heap.size⟩ ?_
  refine holds_opR (dst:=(some 51)) (x:=convert 50 9 (.slice A k cp)) (.string (bytesI (layI fs))) (by kernel_rfl) (by kernel_rfl) rfl (fun wx hm=>?_) ?_
  ·exact run_bytesR (P:=Try.prog) wx w.heap.size 50 9 5 A k cp (layI fs) (by kernel_rfl) (by kernel_rfl) (by kernel_rfl) (hO.kept hm.kept (hO.calm hm1 (by simp))) (byts_layI fs)
  refine hgE 6 [oh0,oh0] [2,3] [] [] [.code [1,1,1,1,1]] ⟨[(2,sT (bytesI (layI fs))),(3,i6 0)],[],[],W1.heap.size⟩ ?_
  refine hrt [] [sT (bytesI (layI fs)),i6 0] [] ?_
  intro wx hm
  exact ⟨congrArg _ (layT_good (by unfold layOk; rw [hall,decide_eq_true (show fs.length ≤ 64 by omega)]; rfl)),(MemOk.bck hm1 hm).kept⟩
 obtain ⟨f,hf⟩:∃ f,fs[i]? = some f:=⟨_,List.getElem?_eq_getElem (by omega)⟩
 have hFW:=hF.kept hm1.kept (fun _ _ h=>h)
 obtain ⟨g,hA0,hgb,hgl,hc0⟩:=hFW.cell (fldV_get fs i 0 f hf (by omega))
 obtain ⟨g',hA1,_,_,hc1⟩:=hFW.cell (fldV_get fs i 1 f hf (by omega))
 rw [hA0] at hA1
 simp only [Option.some.injEq,Addr.mk.injEq,and_true] at hA1
 subst hA1
 subst hA0
 refine holds_wins [⟨g,0 + i * 2,f.cells⟩] (fun _ x hx=>?_) ?_
 ·simp only [List.mem_singleton] at hx
  subst hx
  refine ⟨fun ⟨b,hb,_⟩=>(by cases hb),hgl,fun j v hj=>?_⟩
  match j,hj with
  | 0,hj=>
   rw [Nat.zero_add]
   exact hc0.trans hj
  | 1,hj=>
   rw [Nat.zero_add]
   exact hc1.trans hj
  | j + 2,hj=>simp [FldM.cells] at hj
 have hfs:f.text.size ≤ 9223372036854775807:=hS f (List.mem_of_getElem? hf)
 by_cases t1:f.tag < 1
 ·skip
  refine hgE 43 [oh0,oh1,oh2,⟨false,0,[⟨true,0,0,2⟩]⟩,oh0,(oA 0 0 2),oh0,(oA 0 0 1),oh0,oh0,oh1,oh1,oh1,oh3,oh0,oh1,oh1,oh1,oh1,oh3,oh1,oh0,oh0] [2,3,4,6,11,12,13] [dT (((i:Int):Int) < (n:Int)),oE ((0:Int) ≤ (i:Int) ∧ (i:Int) < ((n:Nat):Int)),dT ((f.tag:Int) < 1),dT ((f.tag:Int) < 1),dT ((f.tag:Int) < 1),dT ((f.tag:Int) < 1),tT,tT,tT,tT,tT,tT] [(g,0 + i * 2,2),(W1.heap.size,0,2),(W1.heap.size,0,1)] [.code lay_n1,.code lay_n2,.blk 1,.code lay_n3,.inv J,.blk 0,.code [1,1,1,1]] ⟨[(2,sT ⟨#[]⟩),(3,i6 30),(4,.slice A k cp),(6,(pt W1.heap.size 0)),(11,.slice (some ⟨g,0,none⟩) n cp0),(12,i6 (n:Int)),(13,i6 (i:Int))],(lay_b1 W1 f),[⟨g,0 + i * 2,[i6 f.tag,sT f.text]⟩],W1.heap.size + 1⟩ ?_
  refine hrt [] [sT ⟨#[]⟩,i6 30] [] ?_
  intro wx hm
  exact ⟨congrArg _ (layT_bad (lay_bad fs hf (by unfold fldB; rw [decide_eq_false (show ¬ 1 ≤ f.tag by omega)]; rfl))),(MemOk.bck hm1 hm).kept⟩
 by_cases t2:f.tag > 255
 ·skip
  refine hgE 43 [oh0,oh1,oh2,⟨false,0,[⟨true,0,0,2⟩]⟩,oh0,(oA 0 0 2),oh0,(oA 0 0 1),oh0,oh0,oh0,(oA 0 0 1),oh0,⟨false,3,[]⟩,oh0,oh1,oh1,oh1,oh1,oh3,oh1,oh0,oh0] [2,3,4,6,11,12,13] [dT (((i:Int):Int) < (n:Int)),oE ((0:Int) ≤ (i:Int) ∧ (i:Int) < ((n:Nat):Int)),dF ((f.tag:Int) < 1),dF ((f.tag:Int) < 1),dF ((f.tag:Int) < 1),dF ((f.tag:Int) < 1),dT ((f.tag:Int) > 255),dT ((f.tag:Int) > 255),dT ((f.tag:Int) > 255),dT ((f.tag:Int) > 255),dT ((f.tag:Int) > 255),tT] [(g,0 + i * 2,2),(W1.heap.size,0,2),(W1.heap.size,0,1),(W1.heap.size,0,1)] [.code lay_n1,.code lay_n2,.blk 1,.code lay_n3,.inv J,.blk 0,.code [1,1,1,1]] ⟨[(2,sT ⟨#[]⟩),(3,i6 30),(4,.slice A k cp),(6,(pt W1.heap.size 0)),(11,.slice (some ⟨g,0,none⟩) n cp0),(12,i6 (n:Int)),(13,i6 (i:Int))],(lay_b1 W1 f),[⟨g,0 + i * 2,[i6 f.tag,sT f.text]⟩],W1.heap.size + 1⟩ ?_
  refine hrt [] [sT ⟨#[]⟩,i6 30] [] ?_
  intro wx hm
  exact ⟨congrArg _ (layT_bad (lay_bad fs hf (by unfold fldB; rw [decide_eq_false (show ¬ f.tag ≤ 255 by omega),Bool.and_false]; rfl))),(MemOk.bck hm1 hm).kept⟩
 by_cases t3:f.text.size > 400
 ·skip
  refine hgE 43 [oh0,oh1,oh2,⟨false,0,[⟨true,0,0,2⟩]⟩,oh0,(oA 0 0 2),oh0,(oA 0 0 1),oh0,oh0,oh0,(oA 0 0 1),oh0,⟨false,3,[]⟩,oh0,oh0,(oA 0 1 1),oh0,oh0,⟨false,3,[]⟩,oh1,oh0,oh0] [2,3,4,6,11,12,13] [dT (((i:Int):Int) < (n:Int)),oE ((0:Int) ≤ (i:Int) ∧ (i:Int) < ((n:Nat):Int)),dF ((f.tag:Int) < 1),dF ((f.tag:Int) < 1),dF ((f.tag:Int) < 1),dF ((f.tag:Int) < 1),dF ((f.tag:Int) > 255),dF ((f.tag:Int) > 255),dF ((f.tag:Int) > 255),dF ((f.tag:Int) > 255),dF ((f.tag:Int) > 255),dT (((f.text.size:Int):Int) > 400)] [(g,0 + i * 2,2),(W1.heap.size,0,2),(W1.heap.size,0,1),(W1.heap.size,0,1),(W1.heap.size,1,1)] [.code lay_n1,.code lay_n2,.blk 1,.code lay_n3,.inv J,.blk 0,.code [1,1,1,1]] ⟨[(2,sT ⟨#[]⟩),(3,i6 30),(4,.slice A k cp),(6,(pt W1.heap.size 0)),(11,.slice (some ⟨g,0,none⟩) n cp0),(12,i6 (n:Int)),(13,i6 (i:Int))],(lay_b1 W1 f),[⟨g,0 + i * 2,[i6 f.tag,sT f.text]⟩],W1.heap.size + 1⟩ ?_
  refine hrt [] [sT ⟨#[]⟩,i6 30] [] ?_
  intro wx hm
  exact ⟨congrArg _ (layT_bad (lay_bad fs hf (by unfold fldB; rw [decide_eq_false (show ¬ f.text.size ≤ 400 by omega),Bool.and_false]))),(MemOk.bck hm1 hm).kept⟩
 have hfb:fldB f = true:=(fldB_iff f).2 ⟨by omega,by omega,by omega⟩
 refine hgE 58 [oh0,oh1,oh2,⟨false,0,[⟨true,0,0,2⟩]⟩,oh0,(oA 0 0 2),oh0,(oA 0 0 1),oh0,oh0,oh0,(oA 0 0 1),oh0,⟨false,3,[]⟩,oh0,oh0,(oA 0 1 1),oh0,oh0,⟨false,3,[]⟩,oh0,oh0,(oA 0 1 1),oh0,oh0,oh0,oh0,(oA 0 0 1),oh3,oh0,oh3,oh0,oh2,oh3,oh0] [2,3,4,6,11,12,13,34,43] [dT (((i:Int):Int) < (n:Int)),oE ((0:Int) ≤ (i:Int) ∧ (i:Int) < ((n:Nat):Int)),dF ((f.tag:Int) < 1),dF ((f.tag:Int) < 1),dF ((f.tag:Int) < 1),dF ((f.tag:Int) < 1),dF ((f.tag:Int) > 255),dF ((f.tag:Int) > 255),dF ((f.tag:Int) > 255),dF ((f.tag:Int) > 255),dF ((f.tag:Int) > 255),dF (((f.text.size:Int):Int) > 400),vV,vV,oE ((0:Int) ≤ 8 ∧ (8:Int) ≤ (IntKind.bits .i64:Nat)) (⟨by decide,by decide⟩),vV] [(g,0 + i * 2,2),(W1.heap.size,0,2),(W1.heap.size,0,1),(W1.heap.size,0,1),(W1.heap.size,1,1),(W1.heap.size,1,1),(W1.heap.size,0,1)] [.ops [1,1,1,0,1,0,0,1,1,0,0,1,1,1,0] [10,11],.code [1,1,1,0,1,0,0,1,1,0,0,1,1,1,1],.blk 1,.code lay_n3,.inv J,.blk 0,.code [1,1,1,1]] ⟨[(2,sT ⟨#[]⟩),(3,i6 0),(4,.slice A k cp),(6,(pt W1.heap.size 0)),(11,.slice (some ⟨g,0,none⟩) n cp0),(12,i6 (n:Int)),(13,i6 (i:Int)),(34,.slice A k cp),(43,.slice (some ⟨W1.heap.size + 1,0,none⟩) 3 3)],[⟨W1.heap.size,60,true,[i6 f.tag,sT f.text]⟩,⟨W1.heap.size + 1,5,true,(lay_v1 f)⟩],[⟨g,0 + i * 2,[i6 f.tag,sT f.text]⟩],W1.heap.size + 2⟩ ?_
 refine holds_wins [] (fun _ _ h=>by cases h) ?_
 refine holds_opV (w:=w) (S':=(fun _=>False)) (Y:=Option Addr × Nat) (dst:=(some 44)) (x:=Builtin.append_ #[50,50] 50 #[.slice A k cp,.slice (some ⟨W1.heap.size + 1,0,none⟩) 3 3]) (fun yq=>.slice yq.1 (k + 3) yq.2) (lay_b1 W1 f) (fun yq W_=>OwnR W_ w.heap.size 5 1 yq.1 (k + 3) yq.2 ((intsV (layI (fs.take i))) ++ (lay_v1 f))) (fun yq=>[(44,.slice yq.1 (k + 3) yq.2),(2,.string ⟨#[]⟩),(3,.int .i64 0),(4,.slice A k cp),(6,(pt W1.heap.size 0)),(11,.slice (some ⟨g,0,none⟩) n cp0),(12,.int .i64 (n:Int)),(13,.int .i64 (i:Int)),(34,.slice A k cp),(43,.slice (some ⟨W1.heap.size + 1,0,none⟩) 3 3)]) (by kernel_rfl) (by kernel_rfl) (fun _=>rfl) (fun wx hm=>?_) (fun yq W41 hX41 hm41=>?_)
 ·have hO_:=(hO.kept hm.kept (hO.calm hm1 (by simp)))
  obtain ⟨A',cp',w',h1,h2,h3,_⟩:=run_appendR (P:=Try.prog) wx w.heap.size 50 50 5 (.int .u8 0) 1 1 A k cp (intsV (layI (fs.take i))) ⟨W1.heap.size + 1,0,none⟩ 3 3 (lay_v1 f) (by kernel_rfl) (by kernel_rfl) (by kernel_rfl) (by decide) hO_ rfl (fun j x hj=>by rw [add_norm,Nat.zero_add]; exact (hm.at_ 1 rfl).at_ hj) (ones_all (by kernel_rfl)) (by omega) (by decide) (MemOk.bck hm1 hm).kept.size
  refine ⟨(A',cp'),w',h1,h2,((MemOk.bck hm1 hm).sub (bk':=(lay_b1 W1 f)) (by simp)).offA (fun _ h=>h) h3 (fun x hx=>.inr (hO_.own x hx).1) (by intro b hb; simp at hb; subst hb; exact hO_.apart hm (List.mem_of_getElem? (i:=0) rfl) (by simp))⟩
 obtain ⟨A41,c41⟩:=yq
 replace hX41:OwnR W41 w.heap.size 5 1 A41 (k + 3) c41 ((intsV (layI (fs.take i))) ++ (lay_v1 f)):=hX41
 refine hgE 9 [oh0,oh0,oh0,(oA 0 1 1)] [2,3,4,11,12,13,45,47] [] [(W1.heap.size,1,1)] [.ops [1,1,1,0,1,0,0,1,1,0,0,1,1,1,1] [3,4],.blk 1,.code lay_n3,.inv J,.blk 0,.code [1,1,1,1]] ⟨[(2,sT ⟨#[]⟩),(3,i6 0),(4,.slice A41 (k + 3) c41),(11,.slice (some ⟨g,0,none⟩) n cp0),(12,i6 (n:Int)),(13,i6 (i:Int)),(45,.slice A41 (k + 3) c41),(47,sT f.text)],(lay_b1 W1 f),[],W41.heap.size⟩ ?_
 refine holds_opV (w:=w) (S':=(fun _=>False)) (Y:=Option Addr × Nat) (dst:=(some 48)) (x:=Builtin.append_ #[50,9] 50 #[.slice A41 (k + 3) c41,.string f.text]) (fun yq=>.slice yq.1 (k + 3 + f.text.size) yq.2) [] (fun yq W_=>OwnR W_ w.heap.size 5 1 yq.1 (k + 3 + f.text.size) yq.2 (((intsV (layI (fs.take i))) ++ (lay_v1 f)) ++ intsV (intsOf f.text))) (fun yq=>[(48,.slice yq.1 (k + 3 + f.text.size) yq.2),(2,.string ⟨#[]⟩),(3,.int .i64 0),(4,.slice A41 (k + 3) c41),(11,.slice (some ⟨g,0,none⟩) n cp0),(12,.int .i64 (n:Int)),(13,.int .i64 (i:Int)),(45,.slice A41 (k + 3) c41),(47,.string f.text)]) (by kernel_rfl) (by kernel_rfl) (fun _=>rfl) (fun wx hm=>?_) (fun yq W42 hX42 hm42=>?_)
 ·have hO_:=(hX41.kept hm.kept (hX41.calm hm41 (by simp)))
  obtain ⟨A',cp',w',h1,h2,h3⟩:=run_appendS (P:=Try.prog) wx w.heap.size 50 9 50 5 A41 (k + 3) c41 ((intsV (layI (fs.take i))) ++ (lay_v1 f)) f.text (by kernel_rfl) (by kernel_rfl) (by kernel_rfl) hO_ (by omega) (MemOk.bck hm41 hm).kept.size
  refine ⟨(A',cp'),w',h1,h2,((MemOk.bck hm41 hm).none_).offA (fun _ h=>h) h3 (fun x hx=>.inr (hO_.own x hx).1) (by intro b hb; simp at hb)⟩
 obtain ⟨A42,c42⟩:=yq
 replace hX42:OwnR W42 w.heap.size 5 1 A42 (k + 3 + f.text.size) c42 (((intsV (layI (fs.take i))) ++ (lay_v1 f)) ++ intsV (intsOf f.text)):=hX42
 refine hgE 10 [oh0,oh2,oh0] [2,3,4,11,12,13] [n64 (((i:Int) + 1))] [] [.inv J,.blk 0,.code [1,1,1,1]] ⟨[(2,sT ⟨#[]⟩),(3,i6 0),(4,.slice A42 (k + 3 + f.text.size) c42),(11,.slice (some ⟨g,0,none⟩) n cp0),(12,i6 (n:Int)),(13,i6 ((i:Int) + 1))],[],[],W42.heap.size⟩ ?_
 intro a_ w4 hf_ hm
 exact hJ (m - 1) _ a_ w4 (by omega) ⟨i + 1,_,_,_,_,by omega,by omega,all_snoc_take fs hf hall hfb,by
  have h:=(hX42.kept hm.kept (hX42.calm hm42 (by simp)))
  have e:intsV (layI (fs.take i) ++ layF f) = (intsV (layI (fs.take i)) ++ intsV [f.tag % 256,(f.text.size:Int) % 256,(f.text.size:Int) / 256 % 256]) ++ intsV (intsOf f.text):=by simp [intsV,layF]
  rw [lay_step fs hf,e]
  exact h,rfl⟩ hf_ (MemOk.bck hm42 hm)
def TakeR (w:World) (t:Option (List FldM)) (e:Ending) (w':World):Prop:=match t with
 | some fs=>∃ A cp,e = .returned (.tuple #[.slice A fs.length cp,.int .i64 0]) ∧ OwnR w' w.heap.size 60 2 A fs.length cp (fldV fs) ∧ Kept (fun _=>False) w w'
 | none=>e = .returned (.tuple #[.slice none 0 0,.int .i64 30]) ∧ Kept (fun _=>False) w w'
def tak_v1 (y:ByteArray):List Value:=[i6 (byteAt y 0),sT (ByteArray.extract y 3 (Int.toNat ((orZ (byteAt y 1) ((byteAt y 2) * 256)) + 3)))]
def tak_n1:List Nat:=[1,1,1,1,1,1,1,1,1,0]
def tak_n2:List Nat:=[1,1,1,1,1,1,1,1,1,1]
def tak_n3:Array Bool:=#[true,true,true,true,true,true,true,true,true,false,false]
def tak_n4:Array Bool:=#[true,true,true,true,true,true,true,true,true,true,false]
def tak_n5:List OH:=[oh0,oh0,oh0,oh0,oh0,oh0,oh0,oh0,oh0,oh0,⟨false,3,[]⟩,oh0,oh0,oh2,oh0,⟨false,3,[]⟩,oh0]
def TakI (s:ByteArray) (w:World) (l m:Nat) (st:St) (W1:World):Prop:=match l with
 | 0=>∃ (y:ByteArray) (A:Option Addr) (k cp:Nat) (fs:List FldM) (z:Nat),m = y.size + 1 ∧ y.size ≤ 9223372036854775807 ∧ k = fs.length ∧ k ≤ 64 ∧ takeM (intsOf s) = (takeF (65 - k) (intsOf y)).map (fs ++ ·) ∧ OwnR W1 w.heap.size 60 2 A k cp (fldV fs) ∧ st = ⟨[(0,.string y),(4,.slice A k cp)],[],[],z⟩
 | 1=>m = 0 ∧ takeM (intsOf s) = none ∧ ∃ z,st = ⟨[],[],[],z⟩
 | _=>False
theorem tak_q8 (A:Option Addr) (k:Nat) (cp:Nat) (W1:World) (y:ByteArray):Out.prune [0,4,5] (qListG Try.prog 51 W1 (Turned []) (opsOf (getCode (getCode (bodyOf Try.f27) [1,0]) [1,1,1,1,1,0])) (opsOf (getCode (getCode (bodyOf Try.f27) [1,0]) [1,1,1,1,1,0])).toList ⟨[(0,sT y),(4,.slice A k cp)],[],[],W1.heap.size⟩ [(false,.op oh0),(false,.op oh2),(false,.op oh2),(false,.op oh0),(false,.op oh2),(false,.op oh2),(false,.op oh2),(false,.op oh2),(false,.op oh0)]) = some ⟨[(0:Int) ≤ 1 ∧ 1 < ((y).size:Int),inR .i64 ((byteAt y 1)),(0:Int) ≤ 2 ∧ 2 < ((y).size:Int),inR .i64 ((byteAt y 2)),inR .i64 ((byteAt y 2) * 256) ∧ (0:Int) ≤ 8 ∧ (8:Int) ≤ (IntKind.bits .i64:Nat),(0:Int) ≤ (byteAt y 1) ∧ (0:Int) ≤ ((byteAt y 2) * 256) ∧ (byteAt y 1) ≤ IntKind.max .i64 ∧ ((byteAt y 2) * 256) ≤ IntKind.max .i64],dupR [],⟨[(0,sT y),(4,.slice A k cp),(5,i6 (orZ (byteAt y 1) ((byteAt y 2) * 256)))],[],[],W1.heap.size⟩⟩:=by kernel_rfl
theorem tak_q11 (A:Option Addr) (k:Nat) (cp:Nat) (W1:World) (y:ByteArray):Out.prune [0,4,5] (qListG Try.prog 51 W1 (Turned []) (opsOf (getCode (getCode (bodyOf Try.f27) [1,0]) [1,1,1,1,1,0])) (opsOf (getCode (getCode (bodyOf Try.f27) [1,0]) [1,1,1,1,1,0])).toList ⟨[(0,sT y),(4,.slice A k cp)],[],[],W1.heap.size⟩ [(false,.op oh0),(false,.op oh2),(false,.op oh2),(false,.op oh0),(false,.op oh2),(false,.op oh2),(false,.op oh2),(false,.op oh2),(false,.op oh0)]) = some ⟨[(0:Int) ≤ 1 ∧ 1 < ((y).size:Int),inR .i64 ((byteAt y 1)),(0:Int) ≤ 2 ∧ 2 < ((y).size:Int),inR .i64 ((byteAt y 2)),inR .i64 ((byteAt y 2) * 256) ∧ (0:Int) ≤ 8 ∧ (8:Int) ≤ (IntKind.bits .i64:Nat),(0:Int) ≤ (byteAt y 1) ∧ (0:Int) ≤ ((byteAt y 2) * 256) ∧ (byteAt y 1) ≤ IntKind.max .i64 ∧ ((byteAt y 2) * 256) ≤ IntKind.max .i64],dupR [],⟨[(0,sT y),(4,.slice A k cp),(5,i6 (orZ (byteAt y 1) ((byteAt y 2) * 256)))],[],[],W1.heap.size⟩⟩:=by kernel_rfl
theorem tak_q14 (A:Option Addr) (k:Nat) (cp:Nat) (W1:World) (y:ByteArray):Out.prune [0,4,5] (qListG Try.prog 51 W1 (Turned []) (opsOf (getCode (getCode (bodyOf Try.f27) [1,0]) [1,1,1,1,1,0])) (opsOf (getCode (getCode (bodyOf Try.f27) [1,0]) [1,1,1,1,1,0])).toList ⟨[(0,sT y),(4,.slice A k cp)],[],[],W1.heap.size⟩ [(false,.op oh0),(false,.op oh2),(false,.op oh2),(false,.op oh0),(false,.op oh2),(false,.op oh2),(false,.op oh2),(false,.op oh2),(false,.op oh0)]) = some ⟨[(0:Int) ≤ 1 ∧ 1 < ((y).size:Int),inR .i64 ((byteAt y 1)),(0:Int) ≤ 2 ∧ 2 < ((y).size:Int),inR .i64 ((byteAt y 2)),inR .i64 ((byteAt y 2) * 256) ∧ (0:Int) ≤ 8 ∧ (8:Int) ≤ (IntKind.bits .i64:Nat),(0:Int) ≤ (byteAt y 1) ∧ (0:Int) ≤ ((byteAt y 2) * 256) ∧ (byteAt y 1) ≤ IntKind.max .i64 ∧ ((byteAt y 2) * 256) ≤ IntKind.max .i64],dupR [],⟨[(0,sT y),(4,.slice A k cp),(5,i6 (orZ (byteAt y 1) ((byteAt y 2) * 256)))],[],[],W1.heap.size⟩⟩:=by kernel_rfl
def tak_16G (s:ByteArray) (w:World) (W1:World) (J:Nat → Act → World → Prop) (m:Nat) (ls:Array Bool) (st:St):Prop:=Holds [] Try.prog (getCode (bodyOf Try.f27) [1,0]) 51 W1 (Turned []) (jumpM J (sem Try.prog (bodyOf Try.f27) (bodyPost Try.prog Try.f27 (TakeR w (takeM (intsOf s)))) [])) (.any tak_n1 m ls :: [.code tak_n2]) st
def tak_16S0 (A:Option Addr) (k:Nat) (cp:Nat) (y:ByteArray) (z14:Nat):St:=⟨[(0,sT y),(4,.slice A k cp),(5,i6 ((orZ (byteAt y 1) ((byteAt y 2) * 256)) + 3)),(38,.slice A k cp),(46,.slice (some ⟨z14,0,none⟩) 1 1)],[⟨z14,60,true,(tak_v1 y)⟩],[],z14 + 1⟩
def tak_16S1 (A:Option Addr) (k:Nat) (cp:Nat) (y:ByteArray) (z14:Nat):St:=⟨[(0,sT y),(4,.slice A k cp),(5,i6 ((orZ (byteAt y 1) ((byteAt y 2) * 256)) + 3)),(38,.slice A k cp),(45,.agg (List.toArray (tak_v1 y)))],[],[],z14⟩
def tak_16S2 (A:Option Addr) (k:Nat) (cp:Nat) (y:ByteArray) (z14:Nat):St:=⟨[(0,sT y),(4,.slice A k cp),(5,i6 ((orZ (byteAt y 1) ((byteAt y 2) * 256)) + 3)),(46,.slice (some ⟨z14,0,none⟩) 1 1)],[⟨z14,60,true,(tak_v1 y)⟩],[],z14 + 1⟩
def tak_16S3 (A:Option Addr) (k:Nat) (cp:Nat) (y:ByteArray) (z14:Nat):St:=⟨[(0,sT y),(4,.slice A k cp),(5,i6 ((orZ (byteAt y 1) ((byteAt y 2) * 256)) + 3)),(38,.slice A k cp),(41,i6 (byteAt y 0)),(44,sT (ByteArray.extract y 3 (Int.toNat ((orZ (byteAt y 1) ((byteAt y 2) * 256)) + 3))))],[],[],z14⟩
def tak_16S4 (A:Option Addr) (k:Nat) (cp:Nat) (y:ByteArray) (z14:Nat):St:=⟨[(0,sT y),(4,.slice A k cp),(5,i6 ((orZ (byteAt y 1) ((byteAt y 2) * 256)) + 3)),(45,.agg (List.toArray (tak_v1 y)))],[],[],z14⟩
def tak_16S5 (A:Option Addr) (k:Nat) (cp:Nat) (y:ByteArray) (z14:Nat):St:=⟨[(0,sT y),(4,.slice A k cp),(5,i6 ((orZ (byteAt y 1) ((byteAt y 2) * 256)) + 3)),(38,.slice A k cp),(41,i6 (byteAt y 0)),(42,sT y),(43,i6 ((orZ (byteAt y 1) ((byteAt y 2) * 256)) + 3))],[],[],z14⟩
def tak_16S6 (A:Option Addr) (k:Nat) (cp:Nat) (y:ByteArray) (z14:Nat):St:=⟨[(0,sT y),(4,.slice A k cp),(5,i6 ((orZ (byteAt y 1) ((byteAt y 2) * 256)) + 3)),(38,.slice A k cp),(40,u6 (byteAt y 0)),(44,sT (ByteArray.extract y 3 (Int.toNat ((orZ (byteAt y 1) ((byteAt y 2) * 256)) + 3))))],[],[],z14⟩
def tak_16S7 (A:Option Addr) (k:Nat) (cp:Nat) (y:ByteArray) (z14:Nat):St:=⟨[(0,sT y),(4,.slice A k cp),(5,i6 ((orZ (byteAt y 1) ((byteAt y 2) * 256)) + 3)),(41,i6 (byteAt y 0)),(44,sT (ByteArray.extract y 3 (Int.toNat ((orZ (byteAt y 1) ((byteAt y 2) * 256)) + 3))))],[],[],z14⟩
def tak_16S8 (A:Option Addr) (k:Nat) (cp:Nat) (y:ByteArray) (z14:Nat):St:=⟨[(0,sT y),(4,.slice A k cp),(5,i6 ((orZ (byteAt y 1) ((byteAt y 2) * 256)) + 3)),(38,.slice A k cp),(41,i6 (byteAt y 0)),(42,sT y)],[],[],z14⟩
def tak_16S9 (A:Option Addr) (k:Nat) (cp:Nat) (y:ByteArray) (z14:Nat):St:=⟨[(0,sT y),(4,.slice A k cp),(5,i6 ((orZ (byteAt y 1) ((byteAt y 2) * 256)) + 3)),(38,.slice A k cp),(41,i6 (byteAt y 0)),(43,i6 ((orZ (byteAt y 1) ((byteAt y 2) * 256)) + 3))],[],[],z14⟩
def tak_16S10 (A:Option Addr) (k:Nat) (cp:Nat) (y:ByteArray) (z14:Nat):St:=⟨[(0,sT y),(4,.slice A k cp),(5,i6 ((orZ (byteAt y 1) ((byteAt y 2) * 256)) + 3)),(38,.slice A k cp),(40,u6 (byteAt y 0)),(42,sT y),(43,i6 ((orZ (byteAt y 1) ((byteAt y 2) * 256)) + 3))],[],[],z14⟩
def tak_16S11 (A:Option Addr) (k:Nat) (cp:Nat) (y:ByteArray) (z14:Nat):St:=⟨[(0,sT y),(4,.slice A k cp),(5,i6 ((orZ (byteAt y 1) ((byteAt y 2) * 256)) + 3)),(38,.slice A k cp),(39,sT y),(44,sT (ByteArray.extract y 3 (Int.toNat ((orZ (byteAt y 1) ((byteAt y 2) * 256)) + 3))))],[],[],z14⟩
def tak_16S12 (A:Option Addr) (k:Nat) (cp:Nat) (y:ByteArray) (z14:Nat):St:=⟨[(0,sT y),(4,.slice A k cp),(5,i6 ((orZ (byteAt y 1) ((byteAt y 2) * 256)) + 3)),(41,i6 (byteAt y 0)),(42,sT y),(43,i6 ((orZ (byteAt y 1) ((byteAt y 2) * 256)) + 3))],[],[],z14⟩
def tak_16S13 (A:Option Addr) (k:Nat) (cp:Nat) (y:ByteArray) (z14:Nat):St:=⟨[(0,sT y),(4,.slice A k cp),(5,i6 ((orZ (byteAt y 1) ((byteAt y 2) * 256)) + 3)),(40,u6 (byteAt y 0)),(44,sT (ByteArray.extract y 3 (Int.toNat ((orZ (byteAt y 1) ((byteAt y 2) * 256)) + 3))))],[],[],z14⟩
def tak_16S14 (A:Option Addr) (k:Nat) (cp:Nat) (y:ByteArray) (z14:Nat):St:=⟨[(0,sT y),(4,.slice A k cp),(5,i6 ((orZ (byteAt y 1) ((byteAt y 2) * 256)) + 3)),(38,.slice A k cp),(41,i6 (byteAt y 0))],[],[],z14⟩
def tak_16S15 (A:Option Addr) (k:Nat) (cp:Nat) (y:ByteArray) (z14:Nat):St:=⟨[(0,sT y),(4,.slice A k cp),(5,i6 ((orZ (byteAt y 1) ((byteAt y 2) * 256)) + 3)),(38,.slice A k cp),(40,u6 (byteAt y 0)),(42,sT y)],[],[],z14⟩
def tak_16S16 (A:Option Addr) (k:Nat) (cp:Nat) (y:ByteArray) (z14:Nat):St:=⟨[(0,sT y),(4,.slice A k cp),(5,i6 ((orZ (byteAt y 1) ((byteAt y 2) * 256)) + 3)),(38,.slice A k cp),(40,u6 (byteAt y 0)),(43,i6 ((orZ (byteAt y 1) ((byteAt y 2) * 256)) + 3))],[],[],z14⟩
def tak_16S17 (A:Option Addr) (k:Nat) (cp:Nat) (y:ByteArray) (z14:Nat):St:=⟨[(0,sT y),(4,.slice A k cp),(5,i6 ((orZ (byteAt y 1) ((byteAt y 2) * 256)) + 3)),(38,.slice A k cp),(39,sT y),(42,sT y),(43,i6 ((orZ (byteAt y 1) ((byteAt y 2) * 256)) + 3))],[],[],z14⟩
def tak_16S18 (A:Option Addr) (k:Nat) (cp:Nat) (y:ByteArray) (z14:Nat):St:=⟨[(0,sT y),(4,.slice A k cp),(5,i6 ((orZ (byteAt y 1) ((byteAt y 2) * 256)) + 3)),(38,.slice A k cp),(44,sT (ByteArray.extract y 3 (Int.toNat ((orZ (byteAt y 1) ((byteAt y 2) * 256)) + 3))))],[],[],z14⟩
def tak_16S19 (A:Option Addr) (k:Nat) (cp:Nat) (y:ByteArray) (z14:Nat):St:=⟨[(0,sT y),(4,.slice A k cp),(5,i6 ((orZ (byteAt y 1) ((byteAt y 2) * 256)) + 3)),(41,i6 (byteAt y 0)),(42,sT y)],[],[],z14⟩
def tak_16S20 (A:Option Addr) (k:Nat) (cp:Nat) (y:ByteArray) (z14:Nat):St:=⟨[(0,sT y),(4,.slice A k cp),(5,i6 ((orZ (byteAt y 1) ((byteAt y 2) * 256)) + 3)),(41,i6 (byteAt y 0)),(43,i6 ((orZ (byteAt y 1) ((byteAt y 2) * 256)) + 3))],[],[],z14⟩
def tak_16S21 (A:Option Addr) (k:Nat) (cp:Nat) (y:ByteArray) (z14:Nat):St:=⟨[(0,sT y),(4,.slice A k cp),(5,i6 ((orZ (byteAt y 1) ((byteAt y 2) * 256)) + 3)),(40,u6 (byteAt y 0)),(42,sT y),(43,i6 ((orZ (byteAt y 1) ((byteAt y 2) * 256)) + 3))],[],[],z14⟩
def tak_16S22 (A:Option Addr) (k:Nat) (cp:Nat) (y:ByteArray) (z14:Nat):St:=⟨[(0,sT y),(4,.slice A k cp),(5,i6 ((orZ (byteAt y 1) ((byteAt y 2) * 256)) + 3)),(39,sT y),(44,sT (ByteArray.extract y 3 (Int.toNat ((orZ (byteAt y 1) ((byteAt y 2) * 256)) + 3))))],[],[],z14⟩
def tak_16S23 (A:Option Addr) (k:Nat) (cp:Nat) (y:ByteArray) (z14:Nat):St:=⟨[(0,sT y),(4,.slice A k cp),(5,i6 ((orZ (byteAt y 1) ((byteAt y 2) * 256)) + 3)),(38,.slice A k cp),(40,u6 (byteAt y 0))],[],[],z14⟩
def tak_16S24 (A:Option Addr) (k:Nat) (cp:Nat) (y:ByteArray) (z14:Nat):St:=⟨[(0,sT y),(4,.slice A k cp),(5,i6 ((orZ (byteAt y 1) ((byteAt y 2) * 256)) + 3)),(38,.slice A k cp),(39,sT y),(42,sT y)],[],[],z14⟩
def tak_16S25 (A:Option Addr) (k:Nat) (cp:Nat) (y:ByteArray) (z14:Nat):St:=⟨[(0,sT y),(4,.slice A k cp),(5,i6 ((orZ (byteAt y 1) ((byteAt y 2) * 256)) + 3)),(38,.slice A k cp),(39,sT y),(43,i6 ((orZ (byteAt y 1) ((byteAt y 2) * 256)) + 3))],[],[],z14⟩
def tak_16S26 (A:Option Addr) (k:Nat) (cp:Nat) (y:ByteArray) (z14:Nat):St:=⟨[(0,sT y),(4,.slice A k cp),(5,i6 ((orZ (byteAt y 1) ((byteAt y 2) * 256)) + 3)),(38,.slice A k cp),(42,sT y),(43,i6 ((orZ (byteAt y 1) ((byteAt y 2) * 256)) + 3))],[],[],z14⟩
def tak_16S27 (A:Option Addr) (k:Nat) (cp:Nat) (y:ByteArray) (z14:Nat):St:=⟨[(0,sT y),(4,.slice A k cp),(5,i6 ((orZ (byteAt y 1) ((byteAt y 2) * 256)) + 3)),(41,i6 (byteAt y 0))],[],[],z14⟩
def tak_16S28 (A:Option Addr) (k:Nat) (cp:Nat) (y:ByteArray) (z14:Nat):St:=⟨[(0,sT y),(4,.slice A k cp),(5,i6 ((orZ (byteAt y 1) ((byteAt y 2) * 256)) + 3)),(40,u6 (byteAt y 0)),(42,sT y)],[],[],z14⟩
def tak_16S29 (A:Option Addr) (k:Nat) (cp:Nat) (y:ByteArray) (z14:Nat):St:=⟨[(0,sT y),(4,.slice A k cp),(5,i6 ((orZ (byteAt y 1) ((byteAt y 2) * 256)) + 3)),(40,u6 (byteAt y 0)),(43,i6 ((orZ (byteAt y 1) ((byteAt y 2) * 256)) + 3))],[],[],z14⟩
def tak_16S30 (A:Option Addr) (k:Nat) (cp:Nat) (y:ByteArray) (z14:Nat):St:=⟨[(0,sT y),(4,.slice A k cp),(5,i6 ((orZ (byteAt y 1) ((byteAt y 2) * 256)) + 3)),(39,sT y),(42,sT y),(43,i6 ((orZ (byteAt y 1) ((byteAt y 2) * 256)) + 3))],[],[],z14⟩
def tak_16S31 (A:Option Addr) (k:Nat) (cp:Nat) (y:ByteArray) (z14:Nat):St:=⟨[(0,sT y),(4,.slice A k cp),(5,i6 ((orZ (byteAt y 1) ((byteAt y 2) * 256)) + 3)),(44,sT (ByteArray.extract y 3 (Int.toNat ((orZ (byteAt y 1) ((byteAt y 2) * 256)) + 3))))],[],[],z14⟩
def tak_16S32 (A:Option Addr) (k:Nat) (cp:Nat) (y:ByteArray) (z14:Nat):St:=⟨[(0,sT y),(4,.slice A k cp),(5,i6 ((orZ (byteAt y 1) ((byteAt y 2) * 256)) + 3)),(38,.slice A k cp),(39,sT y)],[],[],z14⟩
def tak_16S33 (A:Option Addr) (k:Nat) (cp:Nat) (y:ByteArray) (z14:Nat):St:=⟨[(0,sT y),(4,.slice A k cp),(5,i6 ((orZ (byteAt y 1) ((byteAt y 2) * 256)) + 3)),(38,.slice A k cp),(42,sT y)],[],[],z14⟩
def tak_16S34 (A:Option Addr) (k:Nat) (cp:Nat) (y:ByteArray) (z14:Nat):St:=⟨[(0,sT y),(4,.slice A k cp),(5,i6 ((orZ (byteAt y 1) ((byteAt y 2) * 256)) + 3)),(38,.slice A k cp),(43,i6 ((orZ (byteAt y 1) ((byteAt y 2) * 256)) + 3))],[],[],z14⟩
def tak_16S35 (A:Option Addr) (k:Nat) (cp:Nat) (y:ByteArray) (z14:Nat):St:=⟨[(0,sT y),(4,.slice A k cp),(5,i6 ((orZ (byteAt y 1) ((byteAt y 2) * 256)) + 3)),(40,u6 (byteAt y 0))],[],[],z14⟩
def tak_16S36 (A:Option Addr) (k:Nat) (cp:Nat) (y:ByteArray) (z14:Nat):St:=⟨[(0,sT y),(4,.slice A k cp),(5,i6 ((orZ (byteAt y 1) ((byteAt y 2) * 256)) + 3)),(39,sT y),(42,sT y)],[],[],z14⟩
def tak_16S37 (A:Option Addr) (k:Nat) (cp:Nat) (y:ByteArray) (z14:Nat):St:=⟨[(0,sT y),(4,.slice A k cp),(5,i6 ((orZ (byteAt y 1) ((byteAt y 2) * 256)) + 3)),(39,sT y),(43,i6 ((orZ (byteAt y 1) ((byteAt y 2) * 256)) + 3))],[],[],z14⟩
def tak_16S38 (A:Option Addr) (k:Nat) (cp:Nat) (y:ByteArray) (z14:Nat):St:=⟨[(0,sT y),(4,.slice A k cp),(5,i6 ((orZ (byteAt y 1) ((byteAt y 2) * 256)) + 3)),(42,sT y),(43,i6 ((orZ (byteAt y 1) ((byteAt y 2) * 256)) + 3))],[],[],z14⟩
def tak_16S39 (A:Option Addr) (k:Nat) (cp:Nat) (y:ByteArray) (z14:Nat):St:=⟨[(0,sT y),(4,.slice A k cp),(5,i6 ((orZ (byteAt y 1) ((byteAt y 2) * 256)) + 3)),(38,.slice A k cp)],[],[],z14⟩
def tak_16S40 (A:Option Addr) (k:Nat) (cp:Nat) (y:ByteArray) (z14:Nat):St:=⟨[(0,sT y),(4,.slice A k cp),(5,i6 ((orZ (byteAt y 1) ((byteAt y 2) * 256)) + 3)),(39,sT y)],[],[],z14⟩
def tak_16S41 (A:Option Addr) (k:Nat) (cp:Nat) (y:ByteArray) (z14:Nat):St:=⟨[(0,sT y),(4,.slice A k cp),(5,i6 ((orZ (byteAt y 1) ((byteAt y 2) * 256)) + 3)),(42,sT y)],[],[],z14⟩
def tak_16S42 (A:Option Addr) (k:Nat) (cp:Nat) (y:ByteArray) (z14:Nat):St:=⟨[(0,sT y),(4,.slice A k cp),(5,i6 ((orZ (byteAt y 1) ((byteAt y 2) * 256)) + 3)),(43,i6 ((orZ (byteAt y 1) ((byteAt y 2) * 256)) + 3))],[],[],z14⟩
def tak_16S43 (A:Option Addr) (k:Nat) (cp:Nat) (y:ByteArray) (z14:Nat):St:=⟨[(0,sT y),(4,.slice A k cp),(5,i6 ((orZ (byteAt y 1) ((byteAt y 2) * 256)) + 3))],[],[],z14⟩
theorem tak_t18 (A:Option Addr) (k:Nat) (cp:Nat) (y:ByteArray) (z14:Nat) (A41:Option Addr) (c41:Nat) (W41:World):tailP [0,4,5] (tailX Try.prog 51 (opsOf (getCode (getCode (bodyOf Try.f27) [1,0]) tak_n1)) 1 tak_n4 ⟨[(47,.slice A41 (k + 1) c41),(0,sT y),(4,.slice A k cp),(5,i6 ((orZ (byteAt y 1) ((byteAt y 2) * 256)) + 3)),(38,.slice A k cp),(46,.slice (some ⟨z14,0,none⟩) 1 1)],[],[],W41.heap.size⟩ [(10,false,oh0)]) = some (⟨[],dupR [],⟨[(0,sT y),(4,.slice A41 (k + 1) c41),(5,i6 ((orZ (byteAt y 1) ((byteAt y 2) * 256)) + 3))],[],[],W41.heap.size⟩⟩,0,#[true,true,true,true,true,true,true,true,true,true,true]):=by kernel_rfl
set_option maxRecDepth 100000 in
set_option maxHeartbeats 4000000 in
theorem take_any (s:ByteArray) (hs:s.size ≤ 9223372036854775807) (w:World) :
  Calls Try.prog 27 #[.string s] w (TakeR w (takeM (intsOf s))):=by
 refine calls_of_holds (S:=(fun _=>False)) (l:=[.string s]) (n:=51) Try.func27 (body_of (by kernel_rfl)) rfl (by simp) (MemOk.none w _) ?_
 refine hgE 8 [oh0,oh0] [0] [] [] [.code [1]] ⟨[(0,sT s)],[],[],w.heap.size⟩ ?_
 have main:∀ (y:ByteArray) (A:Option Addr) (k cp:Nat) (fs:List FldM) (W1:World),y.size ≤ 9223372036854775807 → k = fs.length → k ≤ 64 → takeM (intsOf s) = (takeF (65 - k) (intsOf y)).map (fs ++ ·) → OwnR W1 w.heap.size 60 2 A k cp (fldV fs) → MemOk w (fun _=>False) [] [] W1.heap.size W1 → ∀ J:Nat → Act → World → Prop,(∀ l' m' st'' a W',m' < y.size + 1 → TakI s w l' m' st'' W' → FrOk [] 51 st''.sl a → MemOk w (fun _=>False) st''.bk [] st''.sz W' → J l' a W') →
   Holds [] Try.prog (getCode (bodyOf Try.f27) [1,0]) 51 W1 (Turned []) (jumpM J (sem Try.prog (bodyOf Try.f27) (bodyPost Try.prog Try.f27 (TakeR w (takeM (intsOf s)))) [])) [.code [1,1,1]] ⟨[(0,.string y),(4,.slice A k cp)],[],[],W1.heap.size⟩:=by
  intro y A k cp fs W1 hys hk hk64 hT hO hm1 J hJ
  have b0:=byteAt_bd y 0
  have b1:=byteAt_bd y 1
  have b2:=byteAt_bd y 2
  obtain ⟨c,hc⟩:∃ c,65 - k = c + 1:=⟨64 - k,by omega⟩
  rw [hc] at hT
  by_cases he:y.size = 0
  ·skip
   refine hgE 16 [oh0,oh0,oh1,oh0,oh0,oh0] [0,2,3,4] [oE ((ByteArray.toList y == ByteArray.toList ⟨#[]⟩) = true) (by rw [empty_text]; exact decide_eq_true he)] [] [.code [1,1,1,0,1,0,1],.code [1,1,1,1]] ⟨[(0,sT y),(2,.slice A k cp),(3,i6 0),(4,.slice A k cp)],[],[],W1.heap.size⟩ ?_
   refine holds_retJM [] (by kernel_rfl) (show _ = some ([.slice A k cp,.int .i64 0],dupR []) by kernel_rfl) ?_
   intro wx hm
   have e0:intsOf y = []:=List.eq_nil_of_length_eq_zero (by rw [length_intsOf]; exact he)
   rw [e0] at hT
   rw [hT]
   show TakeR w (some (fs ++ [])) _ _
   rw [List.append_nil]
   subst hk
   exact ⟨A,cp,rfl,(hO.kept hm.kept (hO.calm hm1 (by simp))),(MemOk.bck hm1 hm).kept⟩
  by_cases h64:k = 64
  ·skip
   refine hgE 29 [oh0,oh0,oh0,oh0,oh0,oh0,oh0,oh1,oh1,oh1,oh3,oh0,oh1,oh1,oh1,oh3,oh1] [] [oE ((ByteArray.toList y == ByteArray.toList ⟨#[]⟩) = false) (by rw [empty_text]; exact decide_eq_false he),oE (((k:Int) == 64) = true) (beq_iff_eq.2 (by omega)),oE (((k:Int) == 64) = true) (beq_iff_eq.2 (by omega)),oE (((k:Int) == 64) = true) (beq_iff_eq.2 (by omega)),oE (((k:Int) == 64) = true) (beq_iff_eq.2 (by omega)),tT,tT,tT,tT,tT] [] [.code [1,1,1,1,0,1,0],.code [1,1,1,1,1]] ⟨[],[],[],W1.heap.size⟩ ?_
   refine holds_gotoM (l:=1) (by kernel_rfl) (fun a_ w4 hf_ hm=>?_)
   exact hJ 1 0 _ a_ w4 (by omega) ⟨rfl,by rw [hT,take_bad (by omega) (.inl (by omega))]; rfl,_,rfl⟩ hf_ (MemOk.bck hm1 hm)
  by_cases h3:y.size < 3
  ·skip
   refine hgE 29 [oh0,oh0,oh0,oh0,oh0,oh0,oh0,oh0,oh0,oh0,⟨false,3,[]⟩,oh0,oh1,oh1,oh1,oh3,oh1] [] [oE ((ByteArray.toList y == ByteArray.toList ⟨#[]⟩) = false) (by rw [empty_text]; exact decide_eq_false he),oE (((k:Int) == 64) = false) (beq_eq_false_iff_ne.2 (by omega)),oE (((k:Int) == 64) = false) (beq_eq_false_iff_ne.2 (by omega)),oE (((k:Int) == 64) = false) (beq_eq_false_iff_ne.2 (by omega)),oE (((k:Int) == 64) = false) (beq_eq_false_iff_ne.2 (by omega)),dT (((y.size:Int):Int) < 3),dT (((y.size:Int):Int) < 3),dT (((y.size:Int):Int) < 3),dT (((y.size:Int):Int) < 3),tT] [] [.code [1,1,1,1,0,1,0],.code [1,1,1,1,1]] ⟨[],[],[],W1.heap.size⟩ ?_
   refine holds_gotoM (l:=1) (by kernel_rfl) (fun a_ w4 hf_ hm=>?_)
   exact hJ 1 0 _ a_ w4 (by omega) ⟨rfl,by rw [hT,take_bad (by omega) (.inr (.inl h3))]; rfl,_,rfl⟩ hf_ (MemOk.bck hm1 hm)
  by_cases h0:byteAt y 0 = 0
  ·skip
   refine hgE 29 [oh0,oh0,oh0,oh0,oh0,oh0,oh0,oh0,oh0,oh0,⟨false,3,[]⟩,oh0,oh0,oh2,oh0,⟨false,3,[]⟩,oh1] [] [oE ((ByteArray.toList y == ByteArray.toList ⟨#[]⟩) = false) (by rw [empty_text]; exact decide_eq_false he),oE (((k:Int) == 64) = false) (beq_eq_false_iff_ne.2 (by omega)),oE (((k:Int) == 64) = false) (beq_eq_false_iff_ne.2 (by omega)),oE (((k:Int) == 64) = false) (beq_eq_false_iff_ne.2 (by omega)),oE (((k:Int) == 64) = false) (beq_eq_false_iff_ne.2 (by omega)),dF (((y.size:Int):Int) < 3),dF (((y.size:Int):Int) < 3),oE ((0:Int) ≤ 0 ∧ 0 < ((y).size:Int)),dF (((y.size:Int):Int) < 3),dF (((y.size:Int):Int) < 3),oE (((byteAt y 0) == 0) = true) (beq_iff_eq.2 h0)] [] [.code [1,1,1,1,0,1,0],.code [1,1,1,1,1]] ⟨[],[],[],W1.heap.size⟩ ?_
   refine holds_gotoM (l:=1) (by kernel_rfl) (fun a_ w4 hf_ hm=>?_)
   exact hJ 1 0 _ a_ w4 (by omega) ⟨rfl,by rw [hT,take_bad (by omega) (.inr (.inr (.inl h0)))]; rfl,_,rfl⟩ hf_ (MemOk.bck hm1 hm)
  have eL:orZ (byteAt y 1) (byteAt y 2 * 256) = takeL y:=by
   have h:=or_three b1 b2 (show (0:Int) ≤ 0 ∧ (0:Int) ≤ 255 by omega)
   rw [show (0:Int) * 65536 = 0 by rfl] at h
   unfold takeL
   have e0:∀ x:Int,0 ≤ x → orZ x 0 = x:=fun x hx=>by unfold orZ; simp; omega
   rw [e0 _ (by unfold orZ; omega)] at h
   omega
  by_cases h4:takeL y > 400
  ·skip
   refine hgE 31 tak_n5 [0,4] [oE ((ByteArray.toList y == ByteArray.toList ⟨#[]⟩) = false) (by rw [empty_text]; exact decide_eq_false he),oE (((k:Int) == 64) = false) (beq_eq_false_iff_ne.2 (by omega)),oE (((k:Int) == 64) = false) (beq_eq_false_iff_ne.2 (by omega)),oE (((k:Int) == 64) = false) (beq_eq_false_iff_ne.2 (by omega)),oE (((k:Int) == 64) = false) (beq_eq_false_iff_ne.2 (by omega)),dF (((y.size:Int):Int) < 3),dF (((y.size:Int):Int) < 3),oE ((0:Int) ≤ 0 ∧ 0 < ((y).size:Int)),dF (((y.size:Int):Int) < 3),dF (((y.size:Int):Int) < 3),oE (((byteAt y 0) == 0) = false) (beq_eq_false_iff_ne.2 h0)] [] [.code [1,1,1,1,1,0],.code [1,1,1,1,1,1]] ⟨[(0,sT y),(4,.slice A k cp)],[],[],W1.heap.size⟩ ?_
   refine holds_quietG _ _ (by kernel_rfl) (by kernel_rfl) (by kernel_rfl) (tak_q8 A k cp W1 y) ⟨⟨by omega,by omega⟩,in64 (by omega),⟨by omega,by omega⟩,in64 (by omega),⟨in64 (by omega),by decide,by decide⟩,(bits_ob64 (by omega) (by omega)),trivial⟩ fun z8 hz8=>?_
   replace hz8:W1.heap.size ≤ z8:=hz8
   refine hgE 10 [oh0,oh0,oh1] [] [oE ((decide (((orZ (byteAt y 1) ((byteAt y 2) * 256)):Int) > 400)) = true) (decide_eq_true (by rw [eL]; omega))] [] [.code [1,1,1,1,1,1,0,1,0],.code [1,1,1,1,1,1,1]] ⟨[],[],[],z8⟩ ?_
   refine holds_gotoM (l:=1) (by kernel_rfl) (fun a_ w4 hf_ hm=>?_)
   exact hJ 1 0 _ a_ w4 (by omega) ⟨rfl,by rw [hT,take_bad (by omega) (.inr (.inr (.inr (.inl h4))))]; rfl,_,rfl⟩ hf_ (MemOk.bck hm1 hm)
  by_cases h5:takeL y + 3 > (y.size:Int)
  ·skip
   refine hgE 31 tak_n5 [0,4] [oE ((ByteArray.toList y == ByteArray.toList ⟨#[]⟩) = false) (by rw [empty_text]; exact decide_eq_false he),oE (((k:Int) == 64) = false) (beq_eq_false_iff_ne.2 (by omega)),oE (((k:Int) == 64) = false) (beq_eq_false_iff_ne.2 (by omega)),oE (((k:Int) == 64) = false) (beq_eq_false_iff_ne.2 (by omega)),oE (((k:Int) == 64) = false) (beq_eq_false_iff_ne.2 (by omega)),dF (((y.size:Int):Int) < 3),dF (((y.size:Int):Int) < 3),oE ((0:Int) ≤ 0 ∧ 0 < ((y).size:Int)),dF (((y.size:Int):Int) < 3),dF (((y.size:Int):Int) < 3),oE (((byteAt y 0) == 0) = false) (beq_eq_false_iff_ne.2 h0)] [] [.code [1,1,1,1,1,0],.code [1,1,1,1,1,1]] ⟨[(0,sT y),(4,.slice A k cp)],[],[],W1.heap.size⟩ ?_
   refine holds_quietG _ _ (by kernel_rfl) (by kernel_rfl) (by kernel_rfl) (tak_q11 A k cp W1 y) ⟨⟨by omega,by omega⟩,in64 (by omega),⟨by omega,by omega⟩,in64 (by omega),⟨in64 (by omega),by decide,by decide⟩,(bits_ob64 (by omega) (by omega)),trivial⟩ fun z11 hz11=>?_
   replace hz11:W1.heap.size ≤ z11:=hz11
   refine hgE 26 [oh0,oh0,oh0,oh0,oh2,oh0,oh0,oh0,oh0,oh0,oh1] [] [oE ((decide (((orZ (byteAt y 1) ((byteAt y 2) * 256)):Int) > 400)) = false) (decide_eq_false (by rw [eL]; omega)),n64 (((orZ (byteAt y 1) ((byteAt y 2) * 256)) + 3)),oE ((decide ((((orZ (byteAt y 1) ((byteAt y 2) * 256)) + 3):Int) > (y.size:Int))) = true) (decide_eq_true (by rw [eL]; omega))] [] [.code [1,1,1,1,1,1,1,1,0,1,0],.code [1,1,1,1,1,1,1,1,1]] ⟨[],[],[],z11⟩ ?_
   refine holds_gotoM (l:=1) (by kernel_rfl) (fun a_ w4 hf_ hm=>?_)
   exact hJ 1 0 _ a_ w4 (by omega) ⟨rfl,by rw [hT,take_bad (by omega) (.inr (.inr (.inr (.inr h5))))]; rfl,_,rfl⟩ hf_ (MemOk.bck hm1 hm)
  have hL0:0 ≤ takeL y:=by unfold takeL; omega
  refine hgE 31 tak_n5 [0,4] [oE ((ByteArray.toList y == ByteArray.toList ⟨#[]⟩) = false) (by rw [empty_text]; exact decide_eq_false he),oE (((k:Int) == 64) = false) (beq_eq_false_iff_ne.2 (by omega)),oE (((k:Int) == 64) = false) (beq_eq_false_iff_ne.2 (by omega)),oE (((k:Int) == 64) = false) (beq_eq_false_iff_ne.2 (by omega)),oE (((k:Int) == 64) = false) (beq_eq_false_iff_ne.2 (by omega)),dF (((y.size:Int):Int) < 3),dF (((y.size:Int):Int) < 3),oE ((0:Int) ≤ 0 ∧ 0 < ((y).size:Int)),dF (((y.size:Int):Int) < 3),dF (((y.size:Int):Int) < 3),oE (((byteAt y 0) == 0) = false) (beq_eq_false_iff_ne.2 h0)] [] [.code [1,1,1,1,1,0],.code [1,1,1,1,1,1]] ⟨[(0,sT y),(4,.slice A k cp)],[],[],W1.heap.size⟩ ?_
  refine holds_quietG _ _ (by kernel_rfl) (by kernel_rfl) (by kernel_rfl) (tak_q14 A k cp W1 y) ⟨⟨by omega,by omega⟩,in64 (by omega),⟨by omega,by omega⟩,in64 (by omega),⟨in64 (by omega),by decide,by decide⟩,(bits_ob64 (by omega) (by omega)),trivial⟩ fun z14 hz14=>?_
  replace hz14:W1.heap.size ≤ z14:=hz14
  refine hgE 28 [oh0,oh0,oh0,oh0,oh2,oh0,oh0,oh0,oh0,oh0,oh0] [0,4,5] [oE ((decide (((orZ (byteAt y 1) ((byteAt y 2) * 256)):Int) > 400)) = false) (decide_eq_false (by rw [eL]; omega)),n64 (((orZ (byteAt y 1) ((byteAt y 2) * 256)) + 3)),oE ((decide ((((orZ (byteAt y 1) ((byteAt y 2) * 256)) + 3):Int) > (y.size:Int))) = false) (decide_eq_false (by rw [eL]; omega))] [] [.code tak_n1,.code tak_n2] ⟨[(0,sT y),(4,.slice A k cp),(5,i6 ((orZ (byteAt y 1) ((byteAt y 2) * 256)) + 3))],[],[],z14⟩ ?_
  suffices HZ16:Holds [] Try.prog (getCode (bodyOf Try.f27) [1,0]) 51 W1 (Turned []) (jumpM J (sem Try.prog (bodyOf Try.f27) (bodyPost Try.prog Try.f27 (TakeR w (takeM (intsOf s)))) [])) [.any tak_n1 2 tak_n3,.code tak_n2] ⟨[(0,.string y),(4,.slice A k cp),(5,.int .i64 ((orZ (byteAt y 1) ((byteAt y 2) * 256)) + 3)),(38,.slice A k cp),(46,.slice (some ⟨z14,0,none⟩) 1 1)],[⟨z14,60,true,(tak_v1 y)⟩],[],z14 + 1⟩ by
   have A16_0:tak_16G s w W1 J 2 tak_n3 (tak_16S0 A k cp y z14):=HZ16
   have A16_1:tak_16G s w W1 J 3 #[true,true,true,true,true,true,true,true,false,false,false] (tak_16S1 A k cp y z14):=by
    exact holds_anyAll (l:=[8]) (by kernel_rfl) (by simp) ⟨edge_op (h0:=oh0) (ks:=[0,4,5,38,46]) (by kernel_rfl) (show _ = some (Out.mk [] (dupR []) _) by kernel_rfl) tI A16_0,tI⟩
   have A16_2:tak_16G s w W1 J 3 #[false,true,true,true,true,true,true,true,true,false,false] (tak_16S2 A k cp y z14):=by
    exact holds_anyAll (l:=[0]) (by kernel_rfl) (by simp) ⟨edge_op (h0:=oh0) (ks:=[0,4,5,38,46]) (by kernel_rfl) (show _ = some (Out.mk [] (dupR []) _) by kernel_rfl) tI A16_0,tI⟩
   have A16_3:tak_16G s w W1 J 4 #[true,true,true,true,true,true,true,false,false,false,false] (tak_16S3 A k cp y z14):=by
    exact holds_anyAll (l:=[7]) (by kernel_rfl) (by simp) ⟨edge_op (h0:=oh0) (ks:=[0,4,5,38,45]) (by kernel_rfl) (show _ = some (Out.mk [] (dupR []) _) by kernel_rfl) tI A16_1,tI⟩
   have A16_4:tak_16G s w W1 J 4 #[false,true,true,true,true,true,true,true,false,false,false] (tak_16S4 A k cp y z14):=by
    exact holds_anyAll (l:=[0,8]) (by kernel_rfl) (by simp) ⟨edge_op (h0:=oh0) (ks:=[0,4,5,38,45]) (by kernel_rfl) (show _ = some (Out.mk [] (dupR []) _) by kernel_rfl) tI A16_1,edge_op (h0:=oh0) (ks:=[0,4,5,46]) (by kernel_rfl) (show _ = some (Out.mk [] (dupR []) _) by kernel_rfl) tI A16_2,tI⟩
   have A16_5:tak_16G s w W1 J 5 #[true,true,true,true,true,true,false,false,false,false,false] (tak_16S5 A k cp y z14):=by
    exact holds_anyAll (l:=[6]) (by kernel_rfl) (by simp) ⟨edge_op (h0:=oh2) (ks:=[0,4,5,38,41,44]) (by kernel_rfl) (show _ = some (Out.mk [(0:Int) ≤ 3 ∧ (3:Int) ≤ ((orZ (byteAt y 1) ((byteAt y 2) * 256)) + 3) ∧ ((orZ (byteAt y 1) ((byteAt y 2) * 256)) + 3) ≤ ((y).size:Int)] (dupR []) _) by kernel_rfl) ⟨⟨by omega,by omega,by omega⟩,tI⟩ A16_3,tI⟩
   have A16_6:tak_16G s w W1 J 5 #[true,true,true,false,true,true,true,false,false,false,false] (tak_16S6 A k cp y z14):=by
    exact holds_anyAll (l:=[3]) (by kernel_rfl) (by simp) ⟨edge_op (h0:=oh2) (ks:=[0,4,5,38,41,44]) (by kernel_rfl) (show _ = some (Out.mk [inR .i64 ((byteAt y 0))] (dupR []) _) by kernel_rfl) ⟨in64 (by omega),tI⟩ A16_3,tI⟩
   have A16_7:tak_16G s w W1 J 5 #[false,true,true,true,true,true,true,false,false,false,false] (tak_16S7 A k cp y z14):=by
    exact holds_anyAll (l:=[0,7]) (by kernel_rfl) (by simp) ⟨edge_op (h0:=oh0) (ks:=[0,4,5,38,41,44]) (by kernel_rfl) (show _ = some (Out.mk [] (dupR []) _) by kernel_rfl) tI A16_3,edge_op (h0:=oh0) (ks:=[0,4,5,45]) (by kernel_rfl) (show _ = some (Out.mk [] (dupR []) _) by kernel_rfl) tI A16_4,tI⟩
   have A16_8:tak_16G s w W1 J 6 #[true,true,true,true,true,false,false,false,false,false,false] (tak_16S8 A k cp y z14):=by
    exact holds_anyAll (l:=[5]) (by kernel_rfl) (by simp) ⟨edge_op (h0:=oh0) (ks:=[0,4,5,38,41,42,43]) (by kernel_rfl) (show _ = some (Out.mk [] (dupR []) _) by kernel_rfl) tI A16_5,tI⟩
   have A16_9:tak_16G s w W1 J 6 #[true,true,true,true,false,true,false,false,false,false,false] (tak_16S9 A k cp y z14):=by
    exact holds_anyAll (l:=[4]) (by kernel_rfl) (by simp) ⟨edge_op (h0:=oh0) (ks:=[0,4,5,38,41,42,43]) (by kernel_rfl) (show _ = some (Out.mk [] (dupR []) _) by kernel_rfl) tI A16_5,tI⟩
   have A16_10:tak_16G s w W1 J 6 #[true,true,true,false,true,true,false,false,false,false,false] (tak_16S10 A k cp y z14):=by
    exact holds_anyAll (l:=[3,6]) (by kernel_rfl) (by simp) ⟨edge_op (h0:=oh2) (ks:=[0,4,5,38,41,42,43]) (by kernel_rfl) (show _ = some (Out.mk [inR .i64 ((byteAt y 0))] (dupR []) _) by kernel_rfl) ⟨in64 (by omega),tI⟩ A16_5,edge_op (h0:=oh2) (ks:=[0,4,5,38,40,44]) (by kernel_rfl) (show _ = some (Out.mk [(0:Int) ≤ 3 ∧ (3:Int) ≤ ((orZ (byteAt y 1) ((byteAt y 2) * 256)) + 3) ∧ ((orZ (byteAt y 1) ((byteAt y 2) * 256)) + 3) ≤ ((y).size:Int)] (dupR []) _) by kernel_rfl) ⟨⟨by omega,by omega,by omega⟩,tI⟩ A16_6,tI⟩
   have A16_11:tak_16G s w W1 J 6 #[true,true,false,false,true,true,true,false,false,false,false] (tak_16S11 A k cp y z14):=by
    exact holds_anyAll (l:=[2]) (by kernel_rfl) (by simp) ⟨edge_op (h0:=oh2) (ks:=[0,4,5,38,40,44]) (by kernel_rfl) (show _ = some (Out.mk [(0:Int) ≤ 0 ∧ 0 < ((y).size:Int)] (dupR []) _) by kernel_rfl) ⟨⟨by omega,by omega⟩,tI⟩ A16_6,tI⟩
   have A16_12:tak_16G s w W1 J 6 #[false,true,true,true,true,true,false,false,false,false,false] (tak_16S12 A k cp y z14):=by
    exact holds_anyAll (l:=[0,6]) (by kernel_rfl) (by simp) ⟨edge_op (h0:=oh0) (ks:=[0,4,5,38,41,42,43]) (by kernel_rfl) (show _ = some (Out.mk [] (dupR []) _) by kernel_rfl) tI A16_5,edge_op (h0:=oh2) (ks:=[0,4,5,41,44]) (by kernel_rfl) (show _ = some (Out.mk [(0:Int) ≤ 3 ∧ (3:Int) ≤ ((orZ (byteAt y 1) ((byteAt y 2) * 256)) + 3) ∧ ((orZ (byteAt y 1) ((byteAt y 2) * 256)) + 3) ≤ ((y).size:Int)] (dupR []) _) by kernel_rfl) ⟨⟨by omega,by omega,by omega⟩,tI⟩ A16_7,tI⟩
   have A16_13:tak_16G s w W1 J 6 #[false,true,true,false,true,true,true,false,false,false,false] (tak_16S13 A k cp y z14):=by
    exact holds_anyAll (l:=[0,3]) (by kernel_rfl) (by simp) ⟨edge_op (h0:=oh0) (ks:=[0,4,5,38,40,44]) (by kernel_rfl) (show _ = some (Out.mk [] (dupR []) _) by kernel_rfl) tI A16_6,edge_op (h0:=oh2) (ks:=[0,4,5,41,44]) (by kernel_rfl) (show _ = some (Out.mk [inR .i64 ((byteAt y 0))] (dupR []) _) by kernel_rfl) ⟨in64 (by omega),tI⟩ A16_7,tI⟩
   have A16_14:tak_16G s w W1 J 7 #[true,true,true,true,false,false,false,false,false,false,false] (tak_16S14 A k cp y z14):=by
    exact holds_anyAll (l:=[4,5]) (by kernel_rfl) (by simp) ⟨edge_op (h0:=oh0) (ks:=[0,4,5,38,41,42]) (by kernel_rfl) (show _ = some (Out.mk [] (dupR []) _) by kernel_rfl) tI A16_8,edge_op (h0:=oh0) (ks:=[0,4,5,38,41,43]) (by kernel_rfl) (show _ = some (Out.mk [] (dupR []) _) by kernel_rfl) tI A16_9,tI⟩
   have A16_15:tak_16G s w W1 J 7 #[true,true,true,false,true,false,false,false,false,false,false] (tak_16S15 A k cp y z14):=by
    exact holds_anyAll (l:=[3,5]) (by kernel_rfl) (by simp) ⟨edge_op (h0:=oh2) (ks:=[0,4,5,38,41,42]) (by kernel_rfl) (show _ = some (Out.mk [inR .i64 ((byteAt y 0))] (dupR []) _) by kernel_rfl) ⟨in64 (by omega),tI⟩ A16_8,edge_op (h0:=oh0) (ks:=[0,4,5,38,40,42,43]) (by kernel_rfl) (show _ = some (Out.mk [] (dupR []) _) by kernel_rfl) tI A16_10,tI⟩
   have A16_16:tak_16G s w W1 J 7 #[true,true,true,false,false,true,false,false,false,false,false] (tak_16S16 A k cp y z14):=by
    exact holds_anyAll (l:=[3,4]) (by kernel_rfl) (by simp) ⟨edge_op (h0:=oh2) (ks:=[0,4,5,38,41,43]) (by kernel_rfl) (show _ = some (Out.mk [inR .i64 ((byteAt y 0))] (dupR []) _) by kernel_rfl) ⟨in64 (by omega),tI⟩ A16_9,edge_op (h0:=oh0) (ks:=[0,4,5,38,40,42,43]) (by kernel_rfl) (show _ = some (Out.mk [] (dupR []) _) by kernel_rfl) tI A16_10,tI⟩
   have A16_17:tak_16G s w W1 J 7 #[true,true,false,false,true,true,false,false,false,false,false] (tak_16S17 A k cp y z14):=by
    exact holds_anyAll (l:=[2,6]) (by kernel_rfl) (by simp) ⟨edge_op (h0:=oh2) (ks:=[0,4,5,38,40,42,43]) (by kernel_rfl) (show _ = some (Out.mk [(0:Int) ≤ 0 ∧ 0 < ((y).size:Int)] (dupR []) _) by kernel_rfl) ⟨⟨by omega,by omega⟩,tI⟩ A16_10,edge_op (h0:=oh2) (ks:=[0,4,5,38,39,44]) (by kernel_rfl) (show _ = some (Out.mk [(0:Int) ≤ 3 ∧ (3:Int) ≤ ((orZ (byteAt y 1) ((byteAt y 2) * 256)) + 3) ∧ ((orZ (byteAt y 1) ((byteAt y 2) * 256)) + 3) ≤ ((y).size:Int)] (dupR []) _) by kernel_rfl) ⟨⟨by omega,by omega,by omega⟩,tI⟩ A16_11,tI⟩
   have A16_18:tak_16G s w W1 J 7 #[true,false,false,false,true,true,true,false,false,false,false] (tak_16S18 A k cp y z14):=by
    exact holds_anyAll (l:=[1]) (by kernel_rfl) (by simp) ⟨edge_op (h0:=oh0) (ks:=[0,4,5,38,39,44]) (by kernel_rfl) (show _ = some (Out.mk [] (dupR []) _) by kernel_rfl) tI A16_11,tI⟩
   have A16_19:tak_16G s w W1 J 7 #[false,true,true,true,true,false,false,false,false,false,false] (tak_16S19 A k cp y z14):=by
    exact holds_anyAll (l:=[0,5]) (by kernel_rfl) (by simp) ⟨edge_op (h0:=oh0) (ks:=[0,4,5,38,41,42]) (by kernel_rfl) (show _ = some (Out.mk [] (dupR []) _) by kernel_rfl) tI A16_8,edge_op (h0:=oh0) (ks:=[0,4,5,41,42,43]) (by kernel_rfl) (show _ = some (Out.mk [] (dupR []) _) by kernel_rfl) tI A16_12,tI⟩
   have A16_20:tak_16G s w W1 J 7 #[false,true,true,true,false,true,false,false,false,false,false] (tak_16S20 A k cp y z14):=by
    exact holds_anyAll (l:=[0,4]) (by kernel_rfl) (by simp) ⟨edge_op (h0:=oh0) (ks:=[0,4,5,38,41,43]) (by kernel_rfl) (show _ = some (Out.mk [] (dupR []) _) by kernel_rfl) tI A16_9,edge_op (h0:=oh0) (ks:=[0,4,5,41,42,43]) (by kernel_rfl) (show _ = some (Out.mk [] (dupR []) _) by kernel_rfl) tI A16_12,tI⟩
   have A16_21:tak_16G s w W1 J 7 #[false,true,true,false,true,true,false,false,false,false,false] (tak_16S21 A k cp y z14):=by
    exact holds_anyAll (l:=[0,3,6]) (by kernel_rfl) (by simp) ⟨edge_op (h0:=oh0) (ks:=[0,4,5,38,40,42,43]) (by kernel_rfl) (show _ = some (Out.mk [] (dupR []) _) by kernel_rfl) tI A16_10,edge_op (h0:=oh2) (ks:=[0,4,5,41,42,43]) (by kernel_rfl) (show _ = some (Out.mk [inR .i64 ((byteAt y 0))] (dupR []) _) by kernel_rfl) ⟨in64 (by omega),tI⟩ A16_12,edge_op (h0:=oh2) (ks:=[0,4,5,40,44]) (by kernel_rfl) (show _ = some (Out.mk [(0:Int) ≤ 3 ∧ (3:Int) ≤ ((orZ (byteAt y 1) ((byteAt y 2) * 256)) + 3) ∧ ((orZ (byteAt y 1) ((byteAt y 2) * 256)) + 3) ≤ ((y).size:Int)] (dupR []) _) by kernel_rfl) ⟨⟨by omega,by omega,by omega⟩,tI⟩ A16_13,tI⟩
   have A16_22:tak_16G s w W1 J 7 #[false,true,false,false,true,true,true,false,false,false,false] (tak_16S22 A k cp y z14):=by
    exact holds_anyAll (l:=[0,2]) (by kernel_rfl) (by simp) ⟨edge_op (h0:=oh0) (ks:=[0,4,5,38,39,44]) (by kernel_rfl) (show _ = some (Out.mk [] (dupR []) _) by kernel_rfl) tI A16_11,edge_op (h0:=oh2) (ks:=[0,4,5,40,44]) (by kernel_rfl) (show _ = some (Out.mk [(0:Int) ≤ 0 ∧ 0 < ((y).size:Int)] (dupR []) _) by kernel_rfl) ⟨⟨by omega,by omega⟩,tI⟩ A16_13,tI⟩
   have A16_23:tak_16G s w W1 J 8 #[true,true,true,false,false,false,false,false,false,false,false] (tak_16S23 A k cp y z14):=by
    exact holds_anyAll (l:=[3,4,5]) (by kernel_rfl) (by simp) ⟨edge_op (h0:=oh2) (ks:=[0,4,5,38,41]) (by kernel_rfl) (show _ = some (Out.mk [inR .i64 ((byteAt y 0))] (dupR []) _) by kernel_rfl) ⟨in64 (by omega),tI⟩ A16_14,edge_op (h0:=oh0) (ks:=[0,4,5,38,40,42]) (by kernel_rfl) (show _ = some (Out.mk [] (dupR []) _) by kernel_rfl) tI A16_15,edge_op (h0:=oh0) (ks:=[0,4,5,38,40,43]) (by kernel_rfl) (show _ = some (Out.mk [] (dupR []) _) by kernel_rfl) tI A16_16,tI⟩
   have A16_24:tak_16G s w W1 J 8 #[true,true,false,false,true,false,false,false,false,false,false] (tak_16S24 A k cp y z14):=by
    exact holds_anyAll (l:=[2,5]) (by kernel_rfl) (by simp) ⟨edge_op (h0:=oh2) (ks:=[0,4,5,38,40,42]) (by kernel_rfl) (show _ = some (Out.mk [(0:Int) ≤ 0 ∧ 0 < ((y).size:Int)] (dupR []) _) by kernel_rfl) ⟨⟨by omega,by omega⟩,tI⟩ A16_15,edge_op (h0:=oh0) (ks:=[0,4,5,38,39,42,43]) (by kernel_rfl) (show _ = some (Out.mk [] (dupR []) _) by kernel_rfl) tI A16_17,tI⟩
   have A16_25:tak_16G s w W1 J 8 #[true,true,false,false,false,true,false,false,false,false,false] (tak_16S25 A k cp y z14):=by
    exact holds_anyAll (l:=[2,4]) (by kernel_rfl) (by simp) ⟨edge_op (h0:=oh2) (ks:=[0,4,5,38,40,43]) (by kernel_rfl) (show _ = some (Out.mk [(0:Int) ≤ 0 ∧ 0 < ((y).size:Int)] (dupR []) _) by kernel_rfl) ⟨⟨by omega,by omega⟩,tI⟩ A16_16,edge_op (h0:=oh0) (ks:=[0,4,5,38,39,42,43]) (by kernel_rfl) (show _ = some (Out.mk [] (dupR []) _) by kernel_rfl) tI A16_17,tI⟩
   have A16_26:tak_16G s w W1 J 8 #[true,false,false,false,true,true,false,false,false,false,false] (tak_16S26 A k cp y z14):=by
    exact holds_anyAll (l:=[1,6]) (by kernel_rfl) (by simp) ⟨edge_op (h0:=oh0) (ks:=[0,4,5,38,39,42,43]) (by kernel_rfl) (show _ = some (Out.mk [] (dupR []) _) by kernel_rfl) tI A16_17,edge_op (h0:=oh2) (ks:=[0,4,5,38,44]) (by kernel_rfl) (show _ = some (Out.mk [(0:Int) ≤ 3 ∧ (3:Int) ≤ ((orZ (byteAt y 1) ((byteAt y 2) * 256)) + 3) ∧ ((orZ (byteAt y 1) ((byteAt y 2) * 256)) + 3) ≤ ((y).size:Int)] (dupR []) _) by kernel_rfl) ⟨⟨by omega,by omega,by omega⟩,tI⟩ A16_18,tI⟩
   have A16_27:tak_16G s w W1 J 8 #[false,true,true,true,false,false,false,false,false,false,false] (tak_16S27 A k cp y z14):=by
    exact holds_anyAll (l:=[0,4,5]) (by kernel_rfl) (by simp) ⟨edge_op (h0:=oh0) (ks:=[0,4,5,38,41]) (by kernel_rfl) (show _ = some (Out.mk [] (dupR []) _) by kernel_rfl) tI A16_14,edge_op (h0:=oh0) (ks:=[0,4,5,41,42]) (by kernel_rfl) (show _ = some (Out.mk [] (dupR []) _) by kernel_rfl) tI A16_19,edge_op (h0:=oh0) (ks:=[0,4,5,41,43]) (by kernel_rfl) (show _ = some (Out.mk [] (dupR []) _) by kernel_rfl) tI A16_20,tI⟩
   have A16_28:tak_16G s w W1 J 8 #[false,true,true,false,true,false,false,false,false,false,false] (tak_16S28 A k cp y z14):=by
    exact holds_anyAll (l:=[0,3,5]) (by kernel_rfl) (by simp) ⟨edge_op (h0:=oh0) (ks:=[0,4,5,38,40,42]) (by kernel_rfl) (show _ = some (Out.mk [] (dupR []) _) by kernel_rfl) tI A16_15,edge_op (h0:=oh2) (ks:=[0,4,5,41,42]) (by kernel_rfl) (show _ = some (Out.mk [inR .i64 ((byteAt y 0))] (dupR []) _) by kernel_rfl) ⟨in64 (by omega),tI⟩ A16_19,edge_op (h0:=oh0) (ks:=[0,4,5,40,42,43]) (by kernel_rfl) (show _ = some (Out.mk [] (dupR []) _) by kernel_rfl) tI A16_21,tI⟩
   have A16_29:tak_16G s w W1 J 8 #[false,true,true,false,false,true,false,false,false,false,false] (tak_16S29 A k cp y z14):=by
    exact holds_anyAll (l:=[0,3,4]) (by kernel_rfl) (by simp) ⟨edge_op (h0:=oh0) (ks:=[0,4,5,38,40,43]) (by kernel_rfl) (show _ = some (Out.mk [] (dupR []) _) by kernel_rfl) tI A16_16,edge_op (h0:=oh2) (ks:=[0,4,5,41,43]) (by kernel_rfl) (show _ = some (Out.mk [inR .i64 ((byteAt y 0))] (dupR []) _) by kernel_rfl) ⟨in64 (by omega),tI⟩ A16_20,edge_op (h0:=oh0) (ks:=[0,4,5,40,42,43]) (by kernel_rfl) (show _ = some (Out.mk [] (dupR []) _) by kernel_rfl) tI A16_21,tI⟩
   have A16_30:tak_16G s w W1 J 8 #[false,true,false,false,true,true,false,false,false,false,false] (tak_16S30 A k cp y z14):=by
    exact holds_anyAll (l:=[0,2,6]) (by kernel_rfl) (by simp) ⟨edge_op (h0:=oh0) (ks:=[0,4,5,38,39,42,43]) (by kernel_rfl) (show _ = some (Out.mk [] (dupR []) _) by kernel_rfl) tI A16_17,edge_op (h0:=oh2) (ks:=[0,4,5,40,42,43]) (by kernel_rfl) (show _ = some (Out.mk [(0:Int) ≤ 0 ∧ 0 < ((y).size:Int)] (dupR []) _) by kernel_rfl) ⟨⟨by omega,by omega⟩,tI⟩ A16_21,edge_op (h0:=oh2) (ks:=[0,4,5,39,44]) (by kernel_rfl) (show _ = some (Out.mk [(0:Int) ≤ 3 ∧ (3:Int) ≤ ((orZ (byteAt y 1) ((byteAt y 2) * 256)) + 3) ∧ ((orZ (byteAt y 1) ((byteAt y 2) * 256)) + 3) ≤ ((y).size:Int)] (dupR []) _) by kernel_rfl) ⟨⟨by omega,by omega,by omega⟩,tI⟩ A16_22,tI⟩
   have A16_31:tak_16G s w W1 J 8 #[false,false,false,false,true,true,true,false,false,false,false] (tak_16S31 A k cp y z14):=by
    exact holds_anyAll (l:=[0,1]) (by kernel_rfl) (by simp) ⟨edge_op (h0:=oh0) (ks:=[0,4,5,38,44]) (by kernel_rfl) (show _ = some (Out.mk [] (dupR []) _) by kernel_rfl) tI A16_18,edge_op (h0:=oh0) (ks:=[0,4,5,39,44]) (by kernel_rfl) (show _ = some (Out.mk [] (dupR []) _) by kernel_rfl) tI A16_22,tI⟩
   have A16_32:tak_16G s w W1 J 9 #[true,true,false,false,false,false,false,false,false,false,false] (tak_16S32 A k cp y z14):=by
    exact holds_anyAll (l:=[2,4,5]) (by kernel_rfl) (by simp) ⟨edge_op (h0:=oh2) (ks:=[0,4,5,38,40]) (by kernel_rfl) (show _ = some (Out.mk [(0:Int) ≤ 0 ∧ 0 < ((y).size:Int)] (dupR []) _) by kernel_rfl) ⟨⟨by omega,by omega⟩,tI⟩ A16_23,edge_op (h0:=oh0) (ks:=[0,4,5,38,39,42]) (by kernel_rfl) (show _ = some (Out.mk [] (dupR []) _) by kernel_rfl) tI A16_24,edge_op (h0:=oh0) (ks:=[0,4,5,38,39,43]) (by kernel_rfl) (show _ = some (Out.mk [] (dupR []) _) by kernel_rfl) tI A16_25,tI⟩
   have A16_33:tak_16G s w W1 J 9 #[true,false,false,false,true,false,false,false,false,false,false] (tak_16S33 A k cp y z14):=by
    exact holds_anyAll (l:=[1,5]) (by kernel_rfl) (by simp) ⟨edge_op (h0:=oh0) (ks:=[0,4,5,38,39,42]) (by kernel_rfl) (show _ = some (Out.mk [] (dupR []) _) by kernel_rfl) tI A16_24,edge_op (h0:=oh0) (ks:=[0,4,5,38,42,43]) (by kernel_rfl) (show _ = some (Out.mk [] (dupR []) _) by kernel_rfl) tI A16_26,tI⟩
   have A16_34:tak_16G s w W1 J 9 #[true,false,false,false,false,true,false,false,false,false,false] (tak_16S34 A k cp y z14):=by
    exact holds_anyAll (l:=[1,4]) (by kernel_rfl) (by simp) ⟨edge_op (h0:=oh0) (ks:=[0,4,5,38,39,43]) (by kernel_rfl) (show _ = some (Out.mk [] (dupR []) _) by kernel_rfl) tI A16_25,edge_op (h0:=oh0) (ks:=[0,4,5,38,42,43]) (by kernel_rfl) (show _ = some (Out.mk [] (dupR []) _) by kernel_rfl) tI A16_26,tI⟩
   have A16_35:tak_16G s w W1 J 9 #[false,true,true,false,false,false,false,false,false,false,false] (tak_16S35 A k cp y z14):=by
    exact holds_anyAll (l:=[0,3,4,5]) (by kernel_rfl) (by simp) ⟨edge_op (h0:=oh0) (ks:=[0,4,5,38,40]) (by kernel_rfl) (show _ = some (Out.mk [] (dupR []) _) by kernel_rfl) tI A16_23,edge_op (h0:=oh2) (ks:=[0,4,5,41]) (by kernel_rfl) (show _ = some (Out.mk [inR .i64 ((byteAt y 0))] (dupR []) _) by kernel_rfl) ⟨in64 (by omega),tI⟩ A16_27,edge_op (h0:=oh0) (ks:=[0,4,5,40,42]) (by kernel_rfl) (show _ = some (Out.mk [] (dupR []) _) by kernel_rfl) tI A16_28,edge_op (h0:=oh0) (ks:=[0,4,5,40,43]) (by kernel_rfl) (show _ = some (Out.mk [] (dupR []) _) by kernel_rfl) tI A16_29,tI⟩
   have A16_36:tak_16G s w W1 J 9 #[false,true,false,false,true,false,false,false,false,false,false] (tak_16S36 A k cp y z14):=by
    exact holds_anyAll (l:=[0,2,5]) (by kernel_rfl) (by simp) ⟨edge_op (h0:=oh0) (ks:=[0,4,5,38,39,42]) (by kernel_rfl) (show _ = some (Out.mk [] (dupR []) _) by kernel_rfl) tI A16_24,edge_op (h0:=oh2) (ks:=[0,4,5,40,42]) (by kernel_rfl) (show _ = some (Out.mk [(0:Int) ≤ 0 ∧ 0 < ((y).size:Int)] (dupR []) _) by kernel_rfl) ⟨⟨by omega,by omega⟩,tI⟩ A16_28,edge_op (h0:=oh0) (ks:=[0,4,5,39,42,43]) (by kernel_rfl) (show _ = some (Out.mk [] (dupR []) _) by kernel_rfl) tI A16_30,tI⟩
   have A16_37:tak_16G s w W1 J 9 #[false,true,false,false,false,true,false,false,false,false,false] (tak_16S37 A k cp y z14):=by
    exact holds_anyAll (l:=[0,2,4]) (by kernel_rfl) (by simp) ⟨edge_op (h0:=oh0) (ks:=[0,4,5,38,39,43]) (by kernel_rfl) (show _ = some (Out.mk [] (dupR []) _) by kernel_rfl) tI A16_25,edge_op (h0:=oh2) (ks:=[0,4,5,40,43]) (by kernel_rfl) (show _ = some (Out.mk [(0:Int) ≤ 0 ∧ 0 < ((y).size:Int)] (dupR []) _) by kernel_rfl) ⟨⟨by omega,by omega⟩,tI⟩ A16_29,edge_op (h0:=oh0) (ks:=[0,4,5,39,42,43]) (by kernel_rfl) (show _ = some (Out.mk [] (dupR []) _) by kernel_rfl) tI A16_30,tI⟩
   have A16_38:tak_16G s w W1 J 9 #[false,false,false,false,true,true,false,false,false,false,false] (tak_16S38 A k cp y z14):=by
    exact holds_anyAll (l:=[0,1,6]) (by kernel_rfl) (by simp) ⟨edge_op (h0:=oh0) (ks:=[0,4,5,38,42,43]) (by kernel_rfl) (show _ = some (Out.mk [] (dupR []) _) by kernel_rfl) tI A16_26,edge_op (h0:=oh0) (ks:=[0,4,5,39,42,43]) (by kernel_rfl) (show _ = some (Out.mk [] (dupR []) _) by kernel_rfl) tI A16_30,edge_op (h0:=oh2) (ks:=[0,4,5,44]) (by kernel_rfl) (show _ = some (Out.mk [(0:Int) ≤ 3 ∧ (3:Int) ≤ ((orZ (byteAt y 1) ((byteAt y 2) * 256)) + 3) ∧ ((orZ (byteAt y 1) ((byteAt y 2) * 256)) + 3) ≤ ((y).size:Int)] (dupR []) _) by kernel_rfl) ⟨⟨by omega,by omega,by omega⟩,tI⟩ A16_31,tI⟩
   have A16_39:tak_16G s w W1 J 10 #[true,false,false,false,false,false,false,false,false,false,false] (tak_16S39 A k cp y z14):=by
    exact holds_anyAll (l:=[1,4,5]) (by kernel_rfl) (by simp) ⟨edge_op (h0:=oh0) (ks:=[0,4,5,38,39]) (by kernel_rfl) (show _ = some (Out.mk [] (dupR []) _) by kernel_rfl) tI A16_32,edge_op (h0:=oh0) (ks:=[0,4,5,38,42]) (by kernel_rfl) (show _ = some (Out.mk [] (dupR []) _) by kernel_rfl) tI A16_33,edge_op (h0:=oh0) (ks:=[0,4,5,38,43]) (by kernel_rfl) (show _ = some (Out.mk [] (dupR []) _) by kernel_rfl) tI A16_34,tI⟩
   have A16_40:tak_16G s w W1 J 10 #[false,true,false,false,false,false,false,false,false,false,false] (tak_16S40 A k cp y z14):=by
    exact holds_anyAll (l:=[0,2,4,5]) (by kernel_rfl) (by simp) ⟨edge_op (h0:=oh0) (ks:=[0,4,5,38,39]) (by kernel_rfl) (show _ = some (Out.mk [] (dupR []) _) by kernel_rfl) tI A16_32,edge_op (h0:=oh2) (ks:=[0,4,5,40]) (by kernel_rfl) (show _ = some (Out.mk [(0:Int) ≤ 0 ∧ 0 < ((y).size:Int)] (dupR []) _) by kernel_rfl) ⟨⟨by omega,by omega⟩,tI⟩ A16_35,edge_op (h0:=oh0) (ks:=[0,4,5,39,42]) (by kernel_rfl) (show _ = some (Out.mk [] (dupR []) _) by kernel_rfl) tI A16_36,edge_op (h0:=oh0) (ks:=[0,4,5,39,43]) (by kernel_rfl) (show _ = some (Out.mk [] (dupR []) _) by kernel_rfl) tI A16_37,tI⟩
   have A16_41:tak_16G s w W1 J 10 #[false,false,false,false,true,false,false,false,false,false,false] (tak_16S41 A k cp y z14):=by
    exact holds_anyAll (l:=[0,1,5]) (by kernel_rfl) (by simp) ⟨edge_op (h0:=oh0) (ks:=[0,4,5,38,42]) (by kernel_rfl) (show _ = some (Out.mk [] (dupR []) _) by kernel_rfl) tI A16_33,edge_op (h0:=oh0) (ks:=[0,4,5,39,42]) (by kernel_rfl) (show _ = some (Out.mk [] (dupR []) _) by kernel_rfl) tI A16_36,edge_op (h0:=oh0) (ks:=[0,4,5,42,43]) (by kernel_rfl) (show _ = some (Out.mk [] (dupR []) _) by kernel_rfl) tI A16_38,tI⟩
   have A16_42:tak_16G s w W1 J 10 #[false,false,false,false,false,true,false,false,false,false,false] (tak_16S42 A k cp y z14):=by
    exact holds_anyAll (l:=[0,1,4]) (by kernel_rfl) (by simp) ⟨edge_op (h0:=oh0) (ks:=[0,4,5,38,43]) (by kernel_rfl) (show _ = some (Out.mk [] (dupR []) _) by kernel_rfl) tI A16_34,edge_op (h0:=oh0) (ks:=[0,4,5,39,43]) (by kernel_rfl) (show _ = some (Out.mk [] (dupR []) _) by kernel_rfl) tI A16_37,edge_op (h0:=oh0) (ks:=[0,4,5,42,43]) (by kernel_rfl) (show _ = some (Out.mk [] (dupR []) _) by kernel_rfl) tI A16_38,tI⟩
   have A16_43:tak_16G s w W1 J 11 #[false,false,false,false,false,false,false,false,false,false,false] (tak_16S43 A k cp y z14):=by
    exact holds_anyAll (l:=[0,1,4,5]) (by kernel_rfl) (by simp) ⟨edge_op (h0:=oh0) (ks:=[0,4,5,38]) (by kernel_rfl) (show _ = some (Out.mk [] (dupR []) _) by kernel_rfl) tI A16_39,edge_op (h0:=oh0) (ks:=[0,4,5,39]) (by kernel_rfl) (show _ = some (Out.mk [] (dupR []) _) by kernel_rfl) tI A16_40,edge_op (h0:=oh0) (ks:=[0,4,5,42]) (by kernel_rfl) (show _ = some (Out.mk [] (dupR []) _) by kernel_rfl) tI A16_41,edge_op (h0:=oh0) (ks:=[0,4,5,43]) (by kernel_rfl) (show _ = some (Out.mk [] (dupR []) _) by kernel_rfl) tI A16_42,tI⟩
   exact holds_anyStart (by kernel_rfl) (by kernel_rfl) (by kernel_rfl) (by kernel_rfl) A16_43
  refine holds_anyV (i:=9) (ls':=tak_n4) (w:=w) (S':=(fun _=>False)) (Y:=Option Addr × Nat) (dst:=(some 47)) (x:=Builtin.append_ #[54,54] 54 #[.slice A k cp,.slice (some ⟨z14,0,none⟩) 1 1]) (fun yq=>.slice yq.1 (k + 1) yq.2) [] (fun yq W_=>OwnR W_ w.heap.size 60 2 yq.1 (k + 1) yq.2 ((fldV fs) ++ (tak_v1 y))) (fun yq=>[(47,.slice yq.1 (k + 1) yq.2),(0,.string y),(4,.slice A k cp),(5,.int .i64 ((orZ (byteAt y 1) ((byteAt y 2) * 256)) + 3)),(38,.slice A k cp),(46,.slice (some ⟨z14,0,none⟩) 1 1)]) (by kernel_rfl) (by kernel_rfl) (by kernel_rfl) (by kernel_rfl) (fun _=>rfl) (fun wx hm=>?_) (fun yq W41 hX41 hm41=>?_)
  ·have hO_:=(hO.kept hm.kept (hO.calm hm1 (by simp)))
   obtain ⟨A',cp',w',h1,h2,h3,_⟩:=run_appendR (P:=Try.prog) wx w.heap.size 54 54 60 (.agg #[.int .i64 0,.string ⟨#[]⟩]) 2 24 A k cp (fldV fs) ⟨z14,0,none⟩ 1 1 (tak_v1 y) (by kernel_rfl) (by kernel_rfl) (by kernel_rfl) (by decide) hO_ rfl (fun j x hj=>by rw [add_norm,Nat.zero_add]; exact (hm.at_ 0 rfl).at_ hj) (ones_all (by kernel_rfl)) (by omega) (by decide) (MemOk.bck hm1 hm).kept.size
   refine ⟨(A',cp'),w',h1,h2,((MemOk.bck hm1 hm).none_).offA (fun _ h=>h) h3 (fun x hx=>.inr (hO_.own x hx).1) (by intro b hb; simp at hb)⟩
  obtain ⟨A41,c41⟩:=yq
  replace hX41:OwnR W41 w.heap.size 60 2 A41 (k + 1) c41 ((fldV fs) ++ (tak_v1 y)):=hX41
  refine holds_tail (panicOk_jumpM (panicOk_sem panicOk_body _)) _ _ (tak_t18 A k cp y z14 A41 c41 W41) trivial ?_
  refine holds_done (by kernel_rfl) ?_
  refine hgE 11 [oh0,oh0,oh2,oh0] [0,4] [oE ((0:Int) ≤ ((orZ (byteAt y 1) ((byteAt y 2) * 256)) + 3) ∧ ((orZ (byteAt y 1) ((byteAt y 2) * 256)) + 3) ≤ ((y).size:Int))] [] [.code [1,1,1,1,1,1,1,1,1,1,1,0],.code [1,1,1,1,1,1,1,1,1,1,1,1]] ⟨[(0,sT (ByteArray.extract y (Int.toNat ((orZ (byteAt y 1) ((byteAt y 2) * 256)) + 3)) (y).size)),(4,.slice A41 (k + 1) c41)],[],[],W41.heap.size⟩ ?_
  refine holds_gotoM (l:=0) (by kernel_rfl) (fun a_ w4 hf_ hm=>?_)
  have e3:orZ (byteAt y 1) (byteAt y 2 * 256) + 3 = takeL y + 3:=by rw [eL]
  have hsz:(y.extract (Int.toNat (takeL y + 3)) y.size).size = y.size - (takeL y + 3).toNat:=by rw [← length_intsOf,intsOf_extract]; simp [length_intsOf]
  rw [e3] at hf_
  have hX2:=(hX41.kept hm.kept (hX41.calm hm41 (by simp)))
  exact hJ 0 (y.size - (takeL y + 3).toNat + 1) _ a_ w4 (by omega) ⟨y.extract (Int.toNat (takeL y + 3)) y.size,_,k + 1,_,fs ++ [⟨byteAt y 0,y.extract 3 (takeL y + 3).toNat⟩],_,by rw [hsz],by rw [hsz]; omega,by simp [hk],by omega,by
   rw [hT,take_good (by omega) (by omega) h0 (by omega) (by omega),show 65 - (k + 1) = c by omega,Option.map_map]
   congr 1
   funext l_
   simp,by rw [fldV_snoc,← eL]; exact hX2,rfl⟩ hf_ (MemOk.bck hm41 hm)
 refine holds_scopeW (c:=getCode (bodyOf Try.f27) [1,0]) (w:=w) (S':=fun _=>False) (fun l=>if l = 0 then Code.seq .skip (getCode (getCode (bodyOf Try.f27) [1,0]) [1,1,1]) else Code.seq .skip (getCode (getCode (bodyOf Try.f27) [1,0]) [1,1,1,1,1,1,1,1,1,1,1,1,1])) (by kernel_rfl) (TakI s w) ?_ ?_ ?_
 ·intro l m st W hI
  match l,hI with
  | 0,_=>exact (show findLabel (getCode (bodyOf Try.f27) [1,0]) 0 = some (Code.seq .skip (getCode (getCode (bodyOf Try.f27) [1,0]) [1,1,1])) by kernel_rfl)
  | 1,_=>exact (show findLabel (getCode (bodyOf Try.f27) [1,0]) 1 = some (Code.seq .skip (getCode (getCode (bodyOf Try.f27) [1,0]) [1,1,1,1,1,1,1,1,1,1,1,1,1])) by kernel_rfl)
 ·intro J hJ
  refine hgE 12 [oh0,oh0] [0,4] [] [] [.code [1,1,0],.code [1,1,1]] ⟨[(0,sT s),(4,.slice none 0 0)],[],[],w.heap.size⟩ ?_
  refine holds_label (l:=0) (by kernel_rfl) ?_
  refine holds_gnd (fun W1 hm=>?_)
  exact main s none 0 0 [] W1 hs rfl (by omega) (by show takeF 65 _ = _; cases takeF 65 (intsOf s) <;> rfl) (OwnR.nil _ _ _ _) hm J (fun l' m' st'' a W' _ h1 h2 h3=>hJ l' m' st'' a W' h1 h2 h3)
 ·intro l m st W hI hm1 J hJ
  match l,hI with
  | 0,hI=>
   obtain ⟨y,A,k,cp,fs,z,rfl,h1,h2,h3,h4,h5,rfl⟩:=hI
   exact holds_rest (main y A k cp fs W h1 h2 h3 h4 h5 hm1 J hJ)
  | 1,hI=>
   obtain ⟨rfl,hT,z,rfl⟩:=hI
   refine holds_rest ?_
   refine hgE 8 [oh0,oh0] [2,3] [] [] [.code [1,1,1,1,1,1,1,1,1,1,1,1,1,1]] ⟨[(2,.slice none 0 0),(3,i6 30)],[],[],W.heap.size⟩ ?_
   refine holds_retJM [] (by kernel_rfl) (show _ = some ([.slice none 0 0,.int .i64 30],dupR []) by kernel_rfl) ?_
   intro wx hm
   rw [hT]
   exact ⟨rfl,(MemOk.bck hm1 hm).kept⟩
end Go.Proofs.Ytkffgdfbdmgncaa
