/- Unpack of any stripe and any text: the document's. -/
import Derived.Test.YtpcdccljioiiaaaUnpack8
namespace Go.Proofs.Ytpcdccljioiiaaa
open Go.RowKit

theorem num_s1 (w : World) (t : ByteArray) : Res.prune [0, 2] [] (exec Try.prog (bodyOf Try.f29) 16 8 [⟨false, 0, []⟩] [.code []] ⟨[(0, .string t)], [], [], w.heap.size⟩) = some ⟨[], dupR [], [.code [1, 0], .code [1, 1]], ⟨[(0, .string t), (2, .int .i64 0)], [], [], w.heap.size⟩⟩ := by kernel_rfl
theorem num_q2 (w : World) (t : ByteArray) : Out.prune [2] (qListG Try.prog 16 w (fun _ => False) (opsOf (getCode (bodyOf Try.f29) [1, 0])) (opsOf (getCode (bodyOf Try.f29) [1, 0])).toList ⟨[(0, .string t), (2, .int .i64 0)], [], [], w.heap.size⟩ [(false, .op ⟨false, 0, []⟩), (false, .op ⟨false, 1, []⟩), (false, .op ⟨false, 1, []⟩), (false, .op ⟨false, 0, []⟩), (false, .op ⟨false, 1, []⟩), (false, .op ⟨false, 1, []⟩), (false, .op ⟨false, 1, []⟩), (false, .op ⟨false, 1, []⟩), (false, .op ⟨false, 0, []⟩), (false, .op ⟨false, 1, []⟩), (false, .op ⟨false, 1, []⟩), (false, .op ⟨false, 1, []⟩), (false, .op ⟨false, 1, []⟩), (false, .op ⟨false, 0, []⟩)]) = some ⟨[(0 : Int) ≤ 0 ∧ 0 < ((t).size : Int), inR .i64 ((byteAt t 0)), (0 : Int) ≤ 1 ∧ 1 < ((t).size : Int), inR .i64 ((byteAt t 1)), inR .i64 ((256 * (byteAt t 1))), inR .i64 (((byteAt t 0) + (256 * (byteAt t 1)))), (0 : Int) ≤ 2 ∧ 2 < ((t).size : Int), inR .i64 ((byteAt t 2)), inR .i64 ((65536 * (byteAt t 2))), inR .i64 ((((byteAt t 0) + (256 * (byteAt t 1))) + (65536 * (byteAt t 2))))], dupR [], ⟨[(2, .int .i64 (((byteAt t 0) + (256 * (byteAt t 1))) + (65536 * (byteAt t 2))))], [], [], w.heap.size⟩⟩ := by kernel_rfl
theorem num_s3 (t : ByteArray) (z2 : Nat) : Res.prune [2] [] (exec Try.prog (bodyOf Try.f29) 16 3 [] [.code [1, 1]] ⟨[(2, .int .i64 (((byteAt t 0) + (256 * (byteAt t 1))) + (65536 * (byteAt t 2))))], [], [], z2⟩) = some ⟨[], dupR [], [.code [1, 1]], ⟨[(2, .int .i64 (((byteAt t 0) + (256 * (byteAt t 1))) + (65536 * (byteAt t 2))))], [], [], z2⟩⟩ := by kernel_rfl
theorem num_r4 (t : ByteArray) : resL Try.prog [] [] [(2, .int .i64 (((byteAt t 0) + (256 * (byteAt t 1))) + (65536 * (byteAt t 2))))] Try.f29.results.toList [] = some ([.int .i64 (((byteAt t 0) + (256 * (byteAt t 1))) + (65536 * (byteAt t 2)))], dupR []) := by kernel_rfl
set_option maxRecDepth 100000 in
set_option maxHeartbeats 4000000 in
theorem num_any (t : ByteArray) (ht : 3 ≤ t.size) (w : World) :
    Calls Try.prog 29 #[.string t] w (RetK (.int .i64 (numAt t 0)) w) := by
  have b0 := byteAt_bd t 0
  have b1 := byteAt_bd t 1
  have b2 := byteAt_bd t 2
  refine calls_of_holds (S := (fun _ => False)) (l := [.string t]) (n := 16) Try.func29 (body_of (by kernel_rfl)) rfl (by simp) (MemOk.none w _) ?_
  refine holds_go _ _ (num_s1 w t) trivial ?_
  refine holds_quietG _ _ (by kernel_rfl) (by kernel_rfl) (by kernel_rfl) (num_q2 w t) ⟨⟨by omega, by omega⟩, in64 (by omega), ⟨by omega, by omega⟩, in64 (by omega), in64 (by omega), in64 (by omega), ⟨by omega, by omega⟩, in64 (by omega), in64 (by omega), in64 (by omega), trivial⟩ fun z2 hz2 => ?_
  replace hz2 : w.heap.size ≤ z2 := hz2
  refine holds_go _ _ (num_s3 t z2) trivial ?_
  refine holds_ret [] (by kernel_rfl) (num_r4 t) ?_
  intro wx hm
  exact ⟨rfl, hm.kept⟩

theorem byteAt_extract {s : ByteArray} {a e i : Nat} (h : a + i < e) : byteAt (s.extract a e) i = byteAt s (a + i) := by
  simp only [byteAt]
  congr 3
  have : (s.extract a e).data[i]? = s.data[a + i]? := by
    rw [ByteArray.data_extract, Array.getElem?_extract]
    split
    · rfl
    · rw [Array.getElem?_eq_none (by omega)]
  rw [this]
theorem num_at (s : ByteArray) (k : Nat) (h : k + 3 ≤ s.size) (w : World) : Calls Try.prog 29 #[.string (s.extract k s.size)] w (RetK (.int .i64 (numAt s k)) w) := by
  have h1 := num_any (s.extract k s.size) (by rw [ByteArray.size_extract]; omega) w
  have e : numAt (s.extract k s.size) 0 = numAt s k := by
    unfold numAt
    rw [byteAt_extract (by omega), byteAt_extract (by omega), byteAt_extract (by omega)]
    rfl
  rw [e] at h1
  exact h1
def ru_v1 : List Value := [.bool false, .int .i64 0, .int .i64 0, .int .i64 0, .string ⟨#[]⟩, .bool false, .int .i64 0, .int .i64 0, .int .i64 0, .string ⟨#[]⟩]
def ru_v2 : List Value := [.int .u8 0, .int .u8 0, .int .u8 0, .int .u8 0, .int .u8 0, .int .u8 0, .int .u8 0, .int .u8 0, .int .u8 0, .int .u8 0, .int .u8 0, .int .u8 0, .int .u8 0, .int .u8 0, .int .u8 0, .int .u8 0, .int .u8 0, .int .u8 0, .int .u8 0, .int .u8 0, .int .u8 0, .int .u8 0, .int .u8 0, .int .u8 0, .int .u8 0, .int .u8 0, .int .u8 0, .int .u8 0, .int .u8 0, .int .u8 0, .int .u8 0, .int .u8 0, .int .u8 0, .int .u8 0, .int .u8 0, .int .u8 0, .int .u8 0, .int .u8 0, .int .u8 0, .int .u8 0, .int .u8 0, .int .u8 0, .int .u8 0, .int .u8 0, .int .u8 0, .int .u8 0, .int .u8 0, .int .u8 0, .int .u8 0, .int .u8 0, .int .u8 0, .int .u8 0, .int .u8 0, .int .u8 0, .int .u8 0, .int .u8 0, .int .u8 0, .int .u8 0, .int .u8 0, .int .u8 0, .int .u8 0, .int .u8 0, .int .u8 0, .int .u8 0]
def ru_v3 (s : ByteArray) : List Value := [.bool (((byteAt s 2) % 2) == 1), .int .i64 (numAt s 3), .int .i64 (numAt s 6), .int .i64 (numAt s 9), .string ⟨#[]⟩, .bool ((((byteAt s 2) / 2) % 2) == 1), .int .i64 (numAt s 12), .int .i64 (numAt s 15), .int .i64 (byteAt s 18), .string ⟨#[]⟩]
def ru_v4 (s : ByteArray) : List Value := [.bool (usedS s), .int .i64 (numAt s 3), .int .i64 (numAt s 6), .int .i64 (numAt s 9), .string ⟨#[]⟩, .bool (openS s), .int .i64 (numAt s 12), .int .i64 (numAt s 15), .int .i64 (byteAt s 18), .string ⟨#[]⟩]
def ru_v5 (s : ByteArray) : List Value := [.bool (usedS s), .int .i64 (numAt s 3), .int .i64 (numAt s 6), .int .i64 (numAt s 9), .string (ByteArray.extract s 19 35), .bool (openS s), .int .i64 (numAt s 12), .int .i64 (numAt s 15), .int .i64 (byteAt s 18), .string ⟨#[]⟩]
def ru_v6 (s : ByteArray) : List Value := [.bool (usedS s), .int .i64 (numAt s 3), .int .i64 (numAt s 6), .int .i64 (numAt s 9), .string (ByteArray.extract s 19 35), .bool (openS s), .int .i64 (numAt s 12), .int .i64 (numAt s 15), .int .i64 (byteAt s 18), .string (ByteArray.extract s 35 51)]
def ru_v7 (s : ByteArray) : List Value := [.bool (usedS s), .int .i64 (numAt s 3), .int .i64 (numAt s 6), .int .i64 (numAt s 9), .string ⟨#[]⟩, .bool (openS s), .int .i64 (numAt s 12), .int .i64 (numAt s 15), .int .i64 (byteAt s 18), .string (ByteArray.extract s 35 51)]
theorem ru_s1 (st : Int) (s : ByteArray) (w : World) : Res.prune [0, 1, 4, 5] [] (exec Try.prog (bodyOf Try.f13) 83 30 [⟨false, 0, []⟩, ⟨false, 0, []⟩, ⟨false, 0, []⟩, ⟨false, 0, []⟩, ⟨false, 0, []⟩, ⟨true, 0, []⟩, ⟨true, 0, []⟩, ⟨false, 2, []⟩, ⟨false, 0, []⟩, ⟨true, 0, []⟩, ⟨true, 0, []⟩, ⟨true, 0, []⟩, ⟨false, 2, []⟩, ⟨true, 0, []⟩, ⟨false, 0, []⟩, ⟨false, 0, [⟨false, 0, 0, 10⟩]⟩, ⟨false, 0, []⟩] [.code []] ⟨[(0, .int .i64 st), (1, .string s)], [], [], w.heap.size⟩) = some ⟨[(decide ((st : Int) < 0)) = true, (decide ((st : Int) < 0)) = true, (decide ((st : Int) < 0)) = true, true = true, true = true, true = true, true = true, true = true], dupR [(w.heap.size, 0, 10)], [.code [1, 0, 1, 0, 1], .code [1, 1]], ⟨[(0, .int .i64 st), (1, .string s), (4, .pointer (some ⟨w.heap.size, 0, none⟩)), (5, .int .i64 80)], [⟨w.heap.size, 25, true, (ru_v1)⟩], [], w.heap.size + 1⟩⟩ := by kernel_rfl
theorem ru_r2 (st : Int) (s : ByteArray) (w : World) : resL Try.prog [] [⟨w.heap.size, 25, true, (ru_v1)⟩] [(0, .int .i64 st), (1, .string s), (4, .pointer (some ⟨w.heap.size, 0, none⟩)), (5, .int .i64 80)] Try.f13.results.toList [[⟨false, 0, 0, 10⟩]] = some ([.agg (List.toArray (ru_v1)), .int .i64 80], dupR [(w.heap.size, 0, 10)]) := by kernel_rfl
theorem ru_s3 (st : Int) (s : ByteArray) (w : World) : Res.prune [0, 1, 4, 5] [] (exec Try.prog (bodyOf Try.f13) 83 30 [⟨false, 0, []⟩, ⟨false, 0, []⟩, ⟨false, 0, []⟩, ⟨false, 0, []⟩, ⟨false, 0, []⟩, ⟨false, 0, []⟩, ⟨false, 0, []⟩, ⟨false, 3, []⟩, ⟨false, 0, []⟩, ⟨true, 0, []⟩, ⟨true, 0, []⟩, ⟨true, 0, []⟩, ⟨false, 2, []⟩, ⟨true, 0, []⟩, ⟨false, 0, []⟩, ⟨false, 0, [⟨false, 0, 0, 10⟩]⟩, ⟨false, 0, []⟩] [.code []] ⟨[(0, .int .i64 st), (1, .string s)], [], [], w.heap.size⟩) = some ⟨[(decide ((st : Int) < 0)) = false, (decide ((st : Int) < 0)) = false, (decide ((st : Int) < 0)) = false, (decide ((st : Int) ≥ 8)) = true, (decide ((st : Int) ≥ 8)) = true, (decide ((st : Int) ≥ 8)) = true, (decide ((st : Int) ≥ 8)) = true, true = true], dupR [(w.heap.size, 0, 10)], [.code [1, 0, 1, 0, 1], .code [1, 1]], ⟨[(0, .int .i64 st), (1, .string s), (4, .pointer (some ⟨w.heap.size, 0, none⟩)), (5, .int .i64 80)], [⟨w.heap.size, 25, true, (ru_v1)⟩], [], w.heap.size + 1⟩⟩ := by kernel_rfl
theorem ru_r4 (st : Int) (s : ByteArray) (w : World) : resL Try.prog [] [⟨w.heap.size, 25, true, (ru_v1)⟩] [(0, .int .i64 st), (1, .string s), (4, .pointer (some ⟨w.heap.size, 0, none⟩)), (5, .int .i64 80)] Try.f13.results.toList [[⟨false, 0, 0, 10⟩]] = some ([.agg (List.toArray (ru_v1)), .int .i64 80], dupR [(w.heap.size, 0, 10)]) := by kernel_rfl
theorem ru_s5 (st : Int) (s : ByteArray) (w : World) : Res.prune [0, 1, 4, 5] [] (exec Try.prog (bodyOf Try.f13) 83 30 [⟨false, 0, []⟩, ⟨false, 0, []⟩, ⟨false, 0, []⟩, ⟨false, 0, []⟩, ⟨false, 0, []⟩, ⟨false, 0, []⟩, ⟨false, 0, []⟩, ⟨false, 3, []⟩, ⟨false, 0, []⟩, ⟨false, 0, []⟩, ⟨false, 0, []⟩, ⟨false, 0, []⟩, ⟨false, 3, []⟩, ⟨true, 0, []⟩, ⟨false, 0, []⟩, ⟨false, 0, [⟨false, 0, 0, 10⟩]⟩, ⟨false, 0, []⟩] [.code []] ⟨[(0, .int .i64 st), (1, .string s)], [], [], w.heap.size⟩) = some ⟨[(decide ((st : Int) < 0)) = false, (decide ((st : Int) < 0)) = false, (decide ((st : Int) < 0)) = false, (decide ((st : Int) ≥ 8)) = false, (decide ((st : Int) ≥ 8)) = false, (decide ((st : Int) ≥ 8)) = false, (decide ((st : Int) ≥ 8)) = false, ((s.size : Int) != 64) = true], dupR [(w.heap.size, 0, 10)], [.code [1, 0, 1, 0, 1], .code [1, 1]], ⟨[(0, .int .i64 st), (1, .string s), (4, .pointer (some ⟨w.heap.size, 0, none⟩)), (5, .int .i64 80)], [⟨w.heap.size, 25, true, (ru_v1)⟩], [], w.heap.size + 1⟩⟩ := by kernel_rfl
theorem ru_r6 (st : Int) (s : ByteArray) (w : World) : resL Try.prog [] [⟨w.heap.size, 25, true, (ru_v1)⟩] [(0, .int .i64 st), (1, .string s), (4, .pointer (some ⟨w.heap.size, 0, none⟩)), (5, .int .i64 80)] Try.f13.results.toList [[⟨false, 0, 0, 10⟩]] = some ([.agg (List.toArray (ru_v1)), .int .i64 80], dupR [(w.heap.size, 0, 10)]) := by kernel_rfl
theorem ru_s7 (st : Int) (s : ByteArray) (w : World) : Res.prune [0, 1, 4, 5, 21, 22] [] (exec Try.prog (bodyOf Try.f13) 83 30 [⟨false, 0, []⟩, ⟨false, 0, []⟩, ⟨false, 0, []⟩, ⟨false, 0, []⟩, ⟨false, 0, []⟩, ⟨false, 0, []⟩, ⟨false, 0, []⟩, ⟨false, 3, []⟩, ⟨false, 0, []⟩, ⟨false, 0, []⟩, ⟨false, 0, []⟩, ⟨false, 0, []⟩, ⟨false, 3, []⟩, ⟨false, 0, []⟩, ⟨false, 0, []⟩, ⟨false, 0, []⟩] [.code []] ⟨[(0, .int .i64 st), (1, .string s)], [], [], w.heap.size⟩) = some ⟨[(decide ((st : Int) < 0)) = false, (decide ((st : Int) < 0)) = false, (decide ((st : Int) < 0)) = false, (decide ((st : Int) ≥ 8)) = false, (decide ((st : Int) ≥ 8)) = false, (decide ((st : Int) ≥ 8)) = false, (decide ((st : Int) ≥ 8)) = false, ((s.size : Int) != 64) = false], dupR [], [.ops [1, 1, 0, 0] [2, 3], .code [1, 1, 0, 1], .code [1, 1, 1]], ⟨[(0, .int .i64 st), (1, .string s), (4, .pointer (some ⟨w.heap.size, 0, none⟩)), (5, .int .i64 0), (21, .string s), (22, .slice (some ⟨w.heap.size + 1, 0, none⟩) 64 64)], [⟨w.heap.size, 25, true, (ru_v1)⟩, ⟨w.heap.size + 1, 5, true, (ru_v2)⟩], [], w.heap.size + 2⟩⟩ := by kernel_rfl
theorem ru_s9 (st : Int) (s : ByteArray) (w : World) : Res.prune [0, 1, 4, 5, 24] [] (exec Try.prog (bodyOf Try.f13) 83 5 [⟨false, 0, []⟩] [.ops [1, 1, 0, 0] [3], .code [1, 1, 0, 1], .code [1, 1, 1]] ⟨[(23, .string zeros64), (0, .int .i64 st), (1, .string s), (4, .pointer (some ⟨w.heap.size, 0, none⟩)), (5, .int .i64 0), (21, .string s), (22, .slice (some ⟨w.heap.size + 1, 0, none⟩) 64 64)], [⟨w.heap.size, 25, true, (ru_v1)⟩, ⟨w.heap.size + 1, 5, true, (ru_v2)⟩], [], w.heap.size + 2⟩) = some ⟨[], dupR [], [.code [1, 1, 0, 1], .code [1, 1, 1]], ⟨[(0, .int .i64 st), (1, .string s), (4, .pointer (some ⟨w.heap.size, 0, none⟩)), (5, .int .i64 0), (24, .bool (ByteArray.toList s == ByteArray.toList zeros64))], [⟨w.heap.size, 25, true, (ru_v1)⟩, ⟨w.heap.size + 1, 5, true, (ru_v2)⟩], [], w.heap.size + 2⟩⟩ := by kernel_rfl
theorem ru_s10 (st : Int) (s : ByteArray) (w : World) : Res.prune [0, 1, 4, 5] [] (exec Try.prog (bodyOf Try.f13) 83 10 [⟨true, 0, []⟩, ⟨false, 0, []⟩, ⟨false, 0, [⟨false, 0, 0, 10⟩]⟩, ⟨false, 0, []⟩] [.code [1, 1, 0, 1], .code [1, 1, 1]] ⟨[(0, .int .i64 st), (1, .string s), (4, .pointer (some ⟨w.heap.size, 0, none⟩)), (5, .int .i64 0), (24, .bool (ByteArray.toList s == ByteArray.toList zeros64))], [⟨w.heap.size, 25, true, (ru_v1)⟩, ⟨w.heap.size + 1, 5, true, (ru_v2)⟩], [], w.heap.size + 2⟩) = some ⟨[(ByteArray.toList s == ByteArray.toList zeros64) = true], dupR [(w.heap.size, 0, 10)], [.code [1, 1, 0, 1, 0, 1], .code [1, 1, 1]], ⟨[(0, .int .i64 st), (1, .string s), (4, .pointer (some ⟨w.heap.size, 0, none⟩)), (5, .int .i64 0)], [⟨w.heap.size, 25, true, (ru_v1)⟩, ⟨w.heap.size + 1, 5, true, (ru_v2)⟩], [], w.heap.size + 2⟩⟩ := by kernel_rfl
theorem ru_r11 (st : Int) (s : ByteArray) (w : World) : resL Try.prog [] [⟨w.heap.size, 25, true, (ru_v1)⟩, ⟨w.heap.size + 1, 5, true, (ru_v2)⟩] [(0, .int .i64 st), (1, .string s), (4, .pointer (some ⟨w.heap.size, 0, none⟩)), (5, .int .i64 0)] Try.f13.results.toList [[⟨false, 0, 0, 10⟩]] = some ([.agg (List.toArray (ru_v1)), .int .i64 0], dupR [(w.heap.size, 0, 10)]) := by kernel_rfl
theorem ru_s12 (st : Int) (s : ByteArray) (w : World) : Res.prune [0, 1, 4, 5] [] (exec Try.prog (bodyOf Try.f13) 83 6 [⟨false, 0, []⟩] [.code [1, 1, 0, 1], .code [1, 1, 1]] ⟨[(0, .int .i64 st), (1, .string s), (4, .pointer (some ⟨w.heap.size, 0, none⟩)), (5, .int .i64 0), (24, .bool (ByteArray.toList s == ByteArray.toList zeros64))], [⟨w.heap.size, 25, true, (ru_v1)⟩, ⟨w.heap.size + 1, 5, true, (ru_v2)⟩], [], w.heap.size + 2⟩) = some ⟨[(ByteArray.toList s == ByteArray.toList zeros64) = false], dupR [], [.code [1, 1, 1, 0], .code [1, 1, 1, 1]], ⟨[(0, .int .i64 st), (1, .string s), (4, .pointer (some ⟨w.heap.size, 0, none⟩)), (5, .int .i64 0)], [⟨w.heap.size, 25, true, (ru_v1)⟩, ⟨w.heap.size + 1, 5, true, (ru_v2)⟩], [], w.heap.size + 2⟩⟩ := by kernel_rfl
theorem ru_q13 (st : Int) (s : ByteArray) (w : World) : Out.prune [0, 1, 4, 5, 57] (qList Try.prog 83 w (fun _ => False) ((opsOf (getCode (bodyOf Try.f13) [1, 1, 1, 0])).toList.take 32) ⟨[(0, .int .i64 st), (1, .string s), (4, .pointer (some ⟨w.heap.size, 0, none⟩)), (5, .int .i64 0)], [⟨w.heap.size, 25, true, (ru_v1)⟩, ⟨w.heap.size + 1, 5, true, (ru_v2)⟩], [], w.heap.size + 2⟩ [.op ⟨false, 0, []⟩, .op ⟨false, 1, []⟩, .op ⟨false, 1, []⟩, .op ⟨false, 1, []⟩, .op ⟨false, 0, []⟩, .op ⟨false, 0, []⟩, .op ⟨false, 1, []⟩, .op ⟨false, 1, []⟩, .op ⟨false, 1, []⟩, .op ⟨false, 1, []⟩, .op ⟨false, 0, []⟩, .op ⟨false, 0, []⟩, .op ⟨false, 1, []⟩, .call (.int .i64 (numAt s 3)), .op ⟨false, 0, []⟩, .op ⟨false, 1, []⟩, .call (.int .i64 (numAt s 6)), .op ⟨false, 0, []⟩, .op ⟨false, 1, []⟩, .call (.int .i64 (numAt s 9)), .op ⟨false, 0, []⟩, .op ⟨false, 0, []⟩, .op ⟨false, 1, []⟩, .call (.int .i64 (numAt s 12)), .op ⟨false, 0, []⟩, .op ⟨false, 1, []⟩, .call (.int .i64 (numAt s 15)), .op ⟨false, 0, []⟩, .op ⟨false, 0, []⟩, .op ⟨false, 1, []⟩, .op ⟨false, 1, []⟩, .op ⟨false, 0, []⟩]) = some ⟨[(0 : Int) ≤ 2 ∧ 2 < ((s).size : Int), inR .i64 ((byteAt s 2)), (0 : Int) ≤ (byteAt s 2) ∧ (0 : Int) < 2, (0 : Int) ≤ 2 ∧ 2 < ((s).size : Int), inR .i64 ((byteAt s 2)), (0 : Int) ≤ (byteAt s 2) ∧ (0 : Int) < 2 ∧ (byteAt s 2) ≤ IntKind.max .i64, (0 : Int) ≤ ((byteAt s 2) / 2) ∧ (0 : Int) < 2, (0 : Int) ≤ 3 ∧ 3 ≤ ((s).size : Int), ∀ w', MemC w (fun _ => False) [⟨w.heap.size, 25, true, (ru_v1)⟩, ⟨w.heap.size + 1, 5, true, (ru_v2)⟩] [] (w.heap.size + 2) w' → Calls Try.prog 29 #[.string (ByteArray.extract s 3 (s).size)] w' (RetK (.int .i64 (numAt s 3)) w'), (0 : Int) ≤ 6 ∧ 6 ≤ ((s).size : Int), ∀ w', MemC w (fun _ => False) [⟨w.heap.size, 25, true, (ru_v1)⟩, ⟨w.heap.size + 1, 5, true, (ru_v2)⟩] [] (w.heap.size + 2) w' → Calls Try.prog 29 #[.string (ByteArray.extract s 6 (s).size)] w' (RetK (.int .i64 (numAt s 6)) w'), (0 : Int) ≤ 9 ∧ 9 ≤ ((s).size : Int), ∀ w', MemC w (fun _ => False) [⟨w.heap.size, 25, true, (ru_v1)⟩, ⟨w.heap.size + 1, 5, true, (ru_v2)⟩] [] (w.heap.size + 2) w' → Calls Try.prog 29 #[.string (ByteArray.extract s 9 (s).size)] w' (RetK (.int .i64 (numAt s 9)) w'), (0 : Int) ≤ 12 ∧ 12 ≤ ((s).size : Int), ∀ w', MemC w (fun _ => False) [⟨w.heap.size, 25, true, (ru_v1)⟩, ⟨w.heap.size + 1, 5, true, (ru_v2)⟩] [] (w.heap.size + 2) w' → Calls Try.prog 29 #[.string (ByteArray.extract s 12 (s).size)] w' (RetK (.int .i64 (numAt s 12)) w'), (0 : Int) ≤ 15 ∧ 15 ≤ ((s).size : Int), ∀ w', MemC w (fun _ => False) [⟨w.heap.size, 25, true, (ru_v1)⟩, ⟨w.heap.size + 1, 5, true, (ru_v2)⟩] [] (w.heap.size + 2) w' → Calls Try.prog 29 #[.string (ByteArray.extract s 15 (s).size)] w' (RetK (.int .i64 (numAt s 15)) w'), (0 : Int) ≤ 18 ∧ 18 < ((s).size : Int), inR .i64 ((byteAt s 18))], dupR [], ⟨[(0, .int .i64 st), (1, .string s), (4, .pointer (some ⟨w.heap.size, 0, none⟩)), (5, .int .i64 0), (57, .agg (List.toArray (ru_v3 s)))], [⟨w.heap.size, 25, true, (ru_v1)⟩, ⟨w.heap.size + 1, 5, true, (ru_v2)⟩], [], w.heap.size + 2⟩⟩ := by kernel_rfl
theorem ru_t14 (st : Int) (s : ByteArray) (w : World) (g13 : Nat) (y13 : Nat) : tailP [0, 1, 4, 5, 6] (tailX Try.prog 83 (opsOf (getCode (bodyOf Try.f13) [1, 1, 1, 0])) 1 #[true, true, true, true, true, true, true, true, true, true, true, true, true, true, true, true, true, true, true, true, true, true, true, true, true, true, true, true, true, true, true, true, true, false] ⟨[(6, .pointer (some ⟨g13, 0, none⟩)), (0, .int .i64 st), (1, .string s), (4, .pointer (some ⟨w.heap.size, 0, none⟩)), (5, .int .i64 0), (57, .agg (List.toArray (ru_v3 s)))], [⟨w.heap.size, 25, true, (ru_v1)⟩, ⟨w.heap.size + 1, 5, true, (ru_v2)⟩, ⟨g13, 25, true, (ru_v1)⟩], [], y13⟩ [(33, false, ⟨false, 0, [⟨false, 2, 0, 10⟩]⟩)]) = some (⟨[], dupR [(g13, 0, 10)], ⟨[(0, .int .i64 st), (1, .string s), (4, .pointer (some ⟨w.heap.size, 0, none⟩)), (5, .int .i64 0), (6, .pointer (some ⟨g13, 0, none⟩))], [⟨w.heap.size, 25, true, (ru_v1)⟩, ⟨w.heap.size + 1, 5, true, (ru_v2)⟩, ⟨g13, 25, true, (ru_v3 s)⟩], [], y13⟩⟩, 0, #[true, true, true, true, true, true, true, true, true, true, true, true, true, true, true, true, true, true, true, true, true, true, true, true, true, true, true, true, true, true, true, true, true, true]) := by kernel_rfl
theorem ru_t15 (st : Int) (s : ByteArray) (w : World) (y13 : Nat) : tailP [0, 1, 4, 5, 6] (tailX Try.prog 83 (opsOf (getCode (bodyOf Try.f13) [1, 1, 1, 0])) 2 #[true, true, true, true, true, true, true, true, true, true, true, true, true, true, true, true, true, true, true, true, true, true, true, true, true, true, true, true, true, true, true, true, false, false] ⟨[(0, .int .i64 st), (1, .string s), (4, .pointer (some ⟨w.heap.size, 0, none⟩)), (5, .int .i64 0), (57, .agg (List.toArray (ru_v3 s)))], [⟨w.heap.size, 25, true, (ru_v1)⟩, ⟨w.heap.size + 1, 5, true, (ru_v2)⟩], [], y13⟩ [(32, false, ⟨false, 0, []⟩), (33, false, ⟨false, 0, [⟨false, 2, 0, 10⟩]⟩)]) = some (⟨[], dupR [(y13, 0, 10)], ⟨[(0, .int .i64 st), (1, .string s), (4, .pointer (some ⟨w.heap.size, 0, none⟩)), (5, .int .i64 0), (6, .pointer (some ⟨y13, 0, none⟩))], [⟨w.heap.size, 25, true, (ru_v1)⟩, ⟨w.heap.size + 1, 5, true, (ru_v2)⟩, ⟨y13, 25, true, (ru_v3 s)⟩], [], y13 + 1⟩⟩, 0, #[true, true, true, true, true, true, true, true, true, true, true, true, true, true, true, true, true, true, true, true, true, true, true, true, true, true, true, true, true, true, true, true, true, true]) := by kernel_rfl
theorem ru_s16 (st : Int) (s : ByteArray) (w : World) (g13 : Nat) (y13 : Nat) : Res.prune [0, 1, 4, 5, 6, 59] [] (exec Try.prog (bodyOf Try.f13) 83 9 [⟨false, 0, []⟩, ⟨false, 0, [⟨false, 2, 0, 1⟩]⟩] [.code [1, 1, 1, 1]] ⟨[(0, .int .i64 st), (1, .string s), (4, .pointer (some ⟨w.heap.size, 0, none⟩)), (5, .int .i64 0), (6, .pointer (some ⟨g13, 0, none⟩))], [⟨w.heap.size, 25, true, (ru_v1)⟩, ⟨w.heap.size + 1, 5, true, (ru_v2)⟩, ⟨g13, 25, true, (ru_v4 s)⟩], [], y13⟩) = some ⟨[], dupR [(g13, 0, 1)], [.code [1, 1, 1, 1, 0, 1], .code [1, 1, 1, 1, 1]], ⟨[(0, .int .i64 st), (1, .string s), (4, .pointer (some ⟨w.heap.size, 0, none⟩)), (5, .int .i64 0), (6, .pointer (some ⟨g13, 0, none⟩)), (59, .bool (usedS s))], [⟨w.heap.size, 25, true, (ru_v1)⟩, ⟨w.heap.size + 1, 5, true, (ru_v2)⟩, ⟨g13, 25, true, (ru_v4 s)⟩], [], y13⟩⟩ := by kernel_rfl
theorem ru_s17 (st : Int) (s : ByteArray) (w : World) (g13 : Nat) (y13 : Nat) : Res.prune [0, 1, 4, 5, 6, 64] [] (exec Try.prog (bodyOf Try.f13) 83 16 [⟨true, 0, []⟩, ⟨false, 0, []⟩, ⟨false, 1, []⟩, ⟨false, 0, []⟩, ⟨false, 0, [⟨false, 2, 4, 1⟩]⟩, ⟨false, 0, []⟩, ⟨false, 0, [⟨false, 2, 5, 1⟩]⟩] [.code [1, 1, 1, 1, 0, 1], .code [1, 1, 1, 1, 1]] ⟨[(0, .int .i64 st), (1, .string s), (4, .pointer (some ⟨w.heap.size, 0, none⟩)), (5, .int .i64 0), (6, .pointer (some ⟨g13, 0, none⟩)), (59, .bool (usedS s))], [⟨w.heap.size, 25, true, (ru_v1)⟩, ⟨w.heap.size + 1, 5, true, (ru_v2)⟩, ⟨g13, 25, true, (ru_v4 s)⟩], [], y13⟩) = some ⟨[(usedS s) = true, (0 : Int) ≤ 19 ∧ (19 : Int) ≤ 35 ∧ 35 ≤ ((s).size : Int)], dupR [(g13, 4, 1), (g13, 5, 1)], [.code [1, 1, 1, 1, 1, 0, 1], .code [1, 1, 1, 1, 1, 1]], ⟨[(0, .int .i64 st), (1, .string s), (4, .pointer (some ⟨w.heap.size, 0, none⟩)), (5, .int .i64 0), (6, .pointer (some ⟨g13, 0, none⟩)), (64, .bool (openS s))], [⟨w.heap.size, 25, true, (ru_v1)⟩, ⟨w.heap.size + 1, 5, true, (ru_v2)⟩, ⟨g13, 25, true, (ru_v5 s)⟩], [], y13⟩⟩ := by kernel_rfl
theorem ru_s18 (st : Int) (s : ByteArray) (w : World) (g13 : Nat) (y13 : Nat) : Res.prune [1, 4, 5, 6, 69, 70] [] (exec Try.prog (bodyOf Try.f13) 83 14 [⟨true, 0, []⟩, ⟨false, 0, []⟩, ⟨false, 1, []⟩, ⟨false, 0, []⟩, ⟨false, 0, [⟨false, 2, 9, 1⟩]⟩, ⟨false, 0, []⟩, ⟨false, 0, [⟨false, 2, 0, 10⟩]⟩] [.code [1, 1, 1, 1, 1, 0, 1], .code [1, 1, 1, 1, 1, 1]] ⟨[(0, .int .i64 st), (1, .string s), (4, .pointer (some ⟨w.heap.size, 0, none⟩)), (5, .int .i64 0), (6, .pointer (some ⟨g13, 0, none⟩)), (64, .bool (openS s))], [⟨w.heap.size, 25, true, (ru_v1)⟩, ⟨w.heap.size + 1, 5, true, (ru_v2)⟩, ⟨g13, 25, true, (ru_v5 s)⟩], [], y13⟩) = some ⟨[(openS s) = true, (0 : Int) ≤ 35 ∧ (35 : Int) ≤ 51 ∧ 51 ≤ ((s).size : Int)], dupR [(g13, 9, 1), (g13, 0, 10)], [.ops [1, 1, 1, 1, 1, 1, 0] [2, 3, 4, 5, 6, 7], .code [1, 1, 1, 1, 1, 1, 1]], ⟨[(1, .string s), (4, .pointer (some ⟨w.heap.size, 0, none⟩)), (5, .int .i64 0), (6, .pointer (some ⟨g13, 0, none⟩)), (69, .int .i64 st), (70, .agg (List.toArray (ru_v6 s)))], [⟨w.heap.size, 25, true, (ru_v1)⟩, ⟨w.heap.size + 1, 5, true, (ru_v2)⟩, ⟨g13, 25, true, (ru_v6 s)⟩], [], y13⟩⟩ := by kernel_rfl
theorem ru_c19 (st : Int) (s : ByteArray) (w : World) (g13 : Nat) : callAt Try.prog (opsOf (getCode (bodyOf Try.f13) [1, 1, 1, 1, 1, 1, 0])) [(1, .string s), (4, .pointer (some ⟨w.heap.size, 0, none⟩)), (5, .int .i64 0), (6, .pointer (some ⟨g13, 0, none⟩)), (69, .int .i64 st), (70, .agg (List.toArray (ru_v6 s)))] 2 = some (11, [.int .i64 st, .agg (List.toArray (ru_v6 s))], some 71, []) := by kernel_rfl
theorem ru_s20 (st : Int) (s : ByteArray) (w : World) (g13 : Nat) (z19 : Nat) : Res.prune [1, 4, 5, 6, 7, 76] [] (exec Try.prog (bodyOf Try.f13) 83 15 [⟨false, 0, []⟩, ⟨false, 0, []⟩, ⟨false, 0, []⟩, ⟨false, 0, []⟩, ⟨false, 0, []⟩, ⟨false, 0, []⟩, ⟨false, 0, []⟩, ⟨false, 0, []⟩] [.ops [1, 1, 1, 1, 1, 1, 0] [3, 4, 5, 6, 7], .code [1, 1, 1, 1, 1, 1, 1]] ⟨[(71, .tuple #[.string (packT st (takeR s)), .int .i64 (packE st (takeR s))]), (1, .string s), (4, .pointer (some ⟨w.heap.size, 0, none⟩)), (5, .int .i64 0), (6, .pointer (some ⟨g13, 0, none⟩)), (69, .int .i64 st), (70, .agg (List.toArray (ru_v6 s)))], [⟨w.heap.size, 25, true, (ru_v1)⟩, ⟨w.heap.size + 1, 5, true, (ru_v2)⟩, ⟨g13, 25, true, (ru_v6 s)⟩], [], z19⟩) = some ⟨[], dupR [], [.ops [1, 1, 1, 1, 1, 1, 1, 0, 0] [3, 4, 5, 6], .code [1, 1, 1, 1, 1, 1, 1, 0, 1], .code [1, 1, 1, 1, 1, 1, 1, 1]], ⟨[(1, .string s), (4, .pointer (some ⟨w.heap.size, 0, none⟩)), (5, .int .i64 0), (6, .pointer (some ⟨g13, 0, none⟩)), (7, .string (packT st (takeR s))), (76, .bool ((packE st (takeR s)) != 0))], [⟨w.heap.size, 25, true, (ru_v1)⟩, ⟨w.heap.size + 1, 5, true, (ru_v2)⟩, ⟨g13, 25, true, (ru_v6 s)⟩], [], z19⟩⟩ := by kernel_rfl
theorem ru_s21 (st : Int) (s : ByteArray) (w : World) (g13 : Nat) (z19 : Nat) : Res.prune [4, 5, 6] [] (exec Try.prog (bodyOf Try.f13) 83 15 [⟨true, 0, []⟩, ⟨true, 0, []⟩, ⟨true, 0, []⟩, ⟨false, 2, []⟩, ⟨true, 0, []⟩, ⟨false, 0, []⟩, ⟨false, 0, [⟨false, 0, 0, 10⟩]⟩, ⟨false, 0, []⟩] [.ops [1, 1, 1, 1, 1, 1, 1, 0, 0] [3, 4, 5, 6], .code [1, 1, 1, 1, 1, 1, 1, 0, 1], .code [1, 1, 1, 1, 1, 1, 1, 1]] ⟨[(1, .string s), (4, .pointer (some ⟨w.heap.size, 0, none⟩)), (5, .int .i64 0), (6, .pointer (some ⟨g13, 0, none⟩)), (7, .string (packT st (takeR s))), (76, .bool ((packE st (takeR s)) != 0))], [⟨w.heap.size, 25, true, (ru_v1)⟩, ⟨w.heap.size + 1, 5, true, (ru_v2)⟩, ⟨g13, 25, true, (ru_v6 s)⟩], [], z19⟩) = some ⟨[((packE st (takeR s)) != 0) = true, ((packE st (takeR s)) != 0) = true, ((packE st (takeR s)) != 0) = true, ((packE st (takeR s)) != 0) = true, true = true], dupR [(w.heap.size, 0, 10)], [.code [1, 1, 1, 1, 1, 1, 1, 0, 1, 0, 1], .code [1, 1, 1, 1, 1, 1, 1, 1]], ⟨[(4, .pointer (some ⟨w.heap.size, 0, none⟩)), (5, .int .i64 80), (6, .pointer (some ⟨g13, 0, none⟩))], [⟨w.heap.size, 25, true, (ru_v1)⟩, ⟨w.heap.size + 1, 5, true, (ru_v2)⟩, ⟨g13, 25, true, (ru_v6 s)⟩], [], z19⟩⟩ := by kernel_rfl
theorem ru_r22 (s : ByteArray) (w : World) (g13 : Nat) : resL Try.prog [] [⟨w.heap.size, 25, true, (ru_v1)⟩, ⟨w.heap.size + 1, 5, true, (ru_v2)⟩, ⟨g13, 25, true, (ru_v6 s)⟩] [(4, .pointer (some ⟨w.heap.size, 0, none⟩)), (5, .int .i64 80), (6, .pointer (some ⟨g13, 0, none⟩))] Try.f13.results.toList [[⟨false, 0, 0, 10⟩]] = some ([.agg (List.toArray (ru_v1)), .int .i64 80], dupR [(w.heap.size, 0, 10)]) := by kernel_rfl
theorem ru_s23 (st : Int) (s : ByteArray) (w : World) (g13 : Nat) (z19 : Nat) : Res.prune [4, 5, 6, 80] [] (exec Try.prog (bodyOf Try.f13) 83 8 [⟨false, 0, []⟩, ⟨false, 0, []⟩, ⟨false, 0, []⟩, ⟨false, 3, []⟩] [.ops [1, 1, 1, 1, 1, 1, 1, 0, 0] [3, 4, 5, 6], .code [1, 1, 1, 1, 1, 1, 1, 0, 1], .code [1, 1, 1, 1, 1, 1, 1, 1]] ⟨[(1, .string s), (4, .pointer (some ⟨w.heap.size, 0, none⟩)), (5, .int .i64 0), (6, .pointer (some ⟨g13, 0, none⟩)), (7, .string (packT st (takeR s))), (76, .bool ((packE st (takeR s)) != 0))], [⟨w.heap.size, 25, true, (ru_v1)⟩, ⟨w.heap.size + 1, 5, true, (ru_v2)⟩, ⟨g13, 25, true, (ru_v6 s)⟩], [], z19⟩) = some ⟨[((packE st (takeR s)) != 0) = false, ((packE st (takeR s)) != 0) = false, ((packE st (takeR s)) != 0) = false, ((packE st (takeR s)) != 0) = false], dupR [], [.code [1, 1, 1, 1, 1, 1, 1, 0, 1], .code [1, 1, 1, 1, 1, 1, 1, 1]], ⟨[(4, .pointer (some ⟨w.heap.size, 0, none⟩)), (5, .int .i64 0), (6, .pointer (some ⟨g13, 0, none⟩)), (80, .bool (!(ByteArray.toList (packT st (takeR s)) == ByteArray.toList s)))], [⟨w.heap.size, 25, true, (ru_v1)⟩, ⟨w.heap.size + 1, 5, true, (ru_v2)⟩, ⟨g13, 25, true, (ru_v6 s)⟩], [], z19⟩⟩ := by kernel_rfl
theorem ru_s24 (st : Int) (s : ByteArray) (w : World) (g13 : Nat) (z19 : Nat) : Res.prune [4, 5] [] (exec Try.prog (bodyOf Try.f13) 83 11 [⟨false, 0, []⟩, ⟨false, 0, [⟨false, 2, 0, 10⟩]⟩, ⟨false, 0, [⟨false, 0, 0, 10⟩]⟩, ⟨false, 0, []⟩] [.code [1, 1, 1, 1, 1, 1, 1, 0, 1], .code [1, 1, 1, 1, 1, 1, 1, 1]] ⟨[(4, .pointer (some ⟨w.heap.size, 0, none⟩)), (5, .int .i64 0), (6, .pointer (some ⟨g13, 0, none⟩)), (80, .bool (!(ByteArray.toList (packT st (takeR s)) == ByteArray.toList s)))], [⟨w.heap.size, 25, true, (ru_v1)⟩, ⟨w.heap.size + 1, 5, true, (ru_v2)⟩, ⟨g13, 25, true, (ru_v6 s)⟩], [], z19⟩) = some ⟨[(!(ByteArray.toList (packT st (takeR s)) == ByteArray.toList s)) = false], dupR [(g13, 0, 10), (w.heap.size, 0, 10)], [.code [1, 1, 1, 1, 1, 1, 1, 1, 1]], ⟨[(4, .pointer (some ⟨w.heap.size, 0, none⟩)), (5, .int .i64 0)], [⟨w.heap.size, 25, true, (ru_v6 s)⟩, ⟨w.heap.size + 1, 5, true, (ru_v2)⟩, ⟨g13, 25, true, (ru_v6 s)⟩], [], z19⟩⟩ := by kernel_rfl
theorem ru_r25 (s : ByteArray) (w : World) (g13 : Nat) : resL Try.prog [] [⟨w.heap.size, 25, true, (ru_v6 s)⟩, ⟨w.heap.size + 1, 5, true, (ru_v2)⟩, ⟨g13, 25, true, (ru_v6 s)⟩] [(4, .pointer (some ⟨w.heap.size, 0, none⟩)), (5, .int .i64 0)] Try.f13.results.toList [[⟨false, 0, 0, 10⟩]] = some ([.agg (List.toArray (ru_v6 s)), .int .i64 0], dupR [(w.heap.size, 0, 10)]) := by kernel_rfl
theorem ru_s26 (st : Int) (s : ByteArray) (w : World) (g13 : Nat) (z19 : Nat) : Res.prune [4, 5, 6] [] (exec Try.prog (bodyOf Try.f13) 83 10 [⟨true, 0, []⟩, ⟨false, 0, []⟩, ⟨false, 0, [⟨false, 0, 0, 10⟩]⟩, ⟨false, 0, []⟩] [.code [1, 1, 1, 1, 1, 1, 1, 0, 1], .code [1, 1, 1, 1, 1, 1, 1, 1]] ⟨[(4, .pointer (some ⟨w.heap.size, 0, none⟩)), (5, .int .i64 0), (6, .pointer (some ⟨g13, 0, none⟩)), (80, .bool (!(ByteArray.toList (packT st (takeR s)) == ByteArray.toList s)))], [⟨w.heap.size, 25, true, (ru_v1)⟩, ⟨w.heap.size + 1, 5, true, (ru_v2)⟩, ⟨g13, 25, true, (ru_v6 s)⟩], [], z19⟩) = some ⟨[(!(ByteArray.toList (packT st (takeR s)) == ByteArray.toList s)) = true], dupR [(w.heap.size, 0, 10)], [.code [1, 1, 1, 1, 1, 1, 1, 0, 1, 0, 1], .code [1, 1, 1, 1, 1, 1, 1, 1]], ⟨[(4, .pointer (some ⟨w.heap.size, 0, none⟩)), (5, .int .i64 80), (6, .pointer (some ⟨g13, 0, none⟩))], [⟨w.heap.size, 25, true, (ru_v1)⟩, ⟨w.heap.size + 1, 5, true, (ru_v2)⟩, ⟨g13, 25, true, (ru_v6 s)⟩], [], z19⟩⟩ := by kernel_rfl
theorem ru_r27 (s : ByteArray) (w : World) (g13 : Nat) : resL Try.prog [] [⟨w.heap.size, 25, true, (ru_v1)⟩, ⟨w.heap.size + 1, 5, true, (ru_v2)⟩, ⟨g13, 25, true, (ru_v6 s)⟩] [(4, .pointer (some ⟨w.heap.size, 0, none⟩)), (5, .int .i64 80), (6, .pointer (some ⟨g13, 0, none⟩))] Try.f13.results.toList [[⟨false, 0, 0, 10⟩]] = some ([.agg (List.toArray (ru_v1)), .int .i64 80], dupR [(w.heap.size, 0, 10)]) := by kernel_rfl
theorem ru_s28 (st : Int) (s : ByteArray) (w : World) (g13 : Nat) (y13 : Nat) : Res.prune [1, 4, 5, 6, 69, 70] [] (exec Try.prog (bodyOf Try.f13) 83 9 [⟨false, 0, []⟩, ⟨false, 0, []⟩, ⟨false, 0, [⟨false, 2, 0, 10⟩]⟩] [.code [1, 1, 1, 1, 1, 0, 1], .code [1, 1, 1, 1, 1, 1]] ⟨[(0, .int .i64 st), (1, .string s), (4, .pointer (some ⟨w.heap.size, 0, none⟩)), (5, .int .i64 0), (6, .pointer (some ⟨g13, 0, none⟩)), (64, .bool (openS s))], [⟨w.heap.size, 25, true, (ru_v1)⟩, ⟨w.heap.size + 1, 5, true, (ru_v2)⟩, ⟨g13, 25, true, (ru_v5 s)⟩], [], y13⟩) = some ⟨[(openS s) = false], dupR [(g13, 0, 10)], [.ops [1, 1, 1, 1, 1, 1, 0] [2, 3, 4, 5, 6, 7], .code [1, 1, 1, 1, 1, 1, 1]], ⟨[(1, .string s), (4, .pointer (some ⟨w.heap.size, 0, none⟩)), (5, .int .i64 0), (6, .pointer (some ⟨g13, 0, none⟩)), (69, .int .i64 st), (70, .agg (List.toArray (ru_v5 s)))], [⟨w.heap.size, 25, true, (ru_v1)⟩, ⟨w.heap.size + 1, 5, true, (ru_v2)⟩, ⟨g13, 25, true, (ru_v5 s)⟩], [], y13⟩⟩ := by kernel_rfl
theorem ru_c29 (st : Int) (s : ByteArray) (w : World) (g13 : Nat) : callAt Try.prog (opsOf (getCode (bodyOf Try.f13) [1, 1, 1, 1, 1, 1, 0])) [(1, .string s), (4, .pointer (some ⟨w.heap.size, 0, none⟩)), (5, .int .i64 0), (6, .pointer (some ⟨g13, 0, none⟩)), (69, .int .i64 st), (70, .agg (List.toArray (ru_v5 s)))] 2 = some (11, [.int .i64 st, .agg (List.toArray (ru_v5 s))], some 71, []) := by kernel_rfl
theorem ru_s30 (st : Int) (s : ByteArray) (w : World) (g13 : Nat) (z29 : Nat) : Res.prune [1, 4, 5, 6, 7, 76] [] (exec Try.prog (bodyOf Try.f13) 83 15 [⟨false, 0, []⟩, ⟨false, 0, []⟩, ⟨false, 0, []⟩, ⟨false, 0, []⟩, ⟨false, 0, []⟩, ⟨false, 0, []⟩, ⟨false, 0, []⟩, ⟨false, 0, []⟩] [.ops [1, 1, 1, 1, 1, 1, 0] [3, 4, 5, 6, 7], .code [1, 1, 1, 1, 1, 1, 1]] ⟨[(71, .tuple #[.string (packT st (takeR s)), .int .i64 (packE st (takeR s))]), (1, .string s), (4, .pointer (some ⟨w.heap.size, 0, none⟩)), (5, .int .i64 0), (6, .pointer (some ⟨g13, 0, none⟩)), (69, .int .i64 st), (70, .agg (List.toArray (ru_v5 s)))], [⟨w.heap.size, 25, true, (ru_v1)⟩, ⟨w.heap.size + 1, 5, true, (ru_v2)⟩, ⟨g13, 25, true, (ru_v5 s)⟩], [], z29⟩) = some ⟨[], dupR [], [.ops [1, 1, 1, 1, 1, 1, 1, 0, 0] [3, 4, 5, 6], .code [1, 1, 1, 1, 1, 1, 1, 0, 1], .code [1, 1, 1, 1, 1, 1, 1, 1]], ⟨[(1, .string s), (4, .pointer (some ⟨w.heap.size, 0, none⟩)), (5, .int .i64 0), (6, .pointer (some ⟨g13, 0, none⟩)), (7, .string (packT st (takeR s))), (76, .bool ((packE st (takeR s)) != 0))], [⟨w.heap.size, 25, true, (ru_v1)⟩, ⟨w.heap.size + 1, 5, true, (ru_v2)⟩, ⟨g13, 25, true, (ru_v5 s)⟩], [], z29⟩⟩ := by kernel_rfl
theorem ru_s31 (st : Int) (s : ByteArray) (w : World) (g13 : Nat) (z29 : Nat) : Res.prune [4, 5, 6] [] (exec Try.prog (bodyOf Try.f13) 83 15 [⟨true, 0, []⟩, ⟨true, 0, []⟩, ⟨true, 0, []⟩, ⟨false, 2, []⟩, ⟨true, 0, []⟩, ⟨false, 0, []⟩, ⟨false, 0, [⟨false, 0, 0, 10⟩]⟩, ⟨false, 0, []⟩] [.ops [1, 1, 1, 1, 1, 1, 1, 0, 0] [3, 4, 5, 6], .code [1, 1, 1, 1, 1, 1, 1, 0, 1], .code [1, 1, 1, 1, 1, 1, 1, 1]] ⟨[(1, .string s), (4, .pointer (some ⟨w.heap.size, 0, none⟩)), (5, .int .i64 0), (6, .pointer (some ⟨g13, 0, none⟩)), (7, .string (packT st (takeR s))), (76, .bool ((packE st (takeR s)) != 0))], [⟨w.heap.size, 25, true, (ru_v1)⟩, ⟨w.heap.size + 1, 5, true, (ru_v2)⟩, ⟨g13, 25, true, (ru_v5 s)⟩], [], z29⟩) = some ⟨[((packE st (takeR s)) != 0) = true, ((packE st (takeR s)) != 0) = true, ((packE st (takeR s)) != 0) = true, ((packE st (takeR s)) != 0) = true, true = true], dupR [(w.heap.size, 0, 10)], [.code [1, 1, 1, 1, 1, 1, 1, 0, 1, 0, 1], .code [1, 1, 1, 1, 1, 1, 1, 1]], ⟨[(4, .pointer (some ⟨w.heap.size, 0, none⟩)), (5, .int .i64 80), (6, .pointer (some ⟨g13, 0, none⟩))], [⟨w.heap.size, 25, true, (ru_v1)⟩, ⟨w.heap.size + 1, 5, true, (ru_v2)⟩, ⟨g13, 25, true, (ru_v5 s)⟩], [], z29⟩⟩ := by kernel_rfl
theorem ru_r32 (s : ByteArray) (w : World) (g13 : Nat) : resL Try.prog [] [⟨w.heap.size, 25, true, (ru_v1)⟩, ⟨w.heap.size + 1, 5, true, (ru_v2)⟩, ⟨g13, 25, true, (ru_v5 s)⟩] [(4, .pointer (some ⟨w.heap.size, 0, none⟩)), (5, .int .i64 80), (6, .pointer (some ⟨g13, 0, none⟩))] Try.f13.results.toList [[⟨false, 0, 0, 10⟩]] = some ([.agg (List.toArray (ru_v1)), .int .i64 80], dupR [(w.heap.size, 0, 10)]) := by kernel_rfl
theorem ru_s33 (st : Int) (s : ByteArray) (w : World) (g13 : Nat) (z29 : Nat) : Res.prune [4, 5, 6, 80] [] (exec Try.prog (bodyOf Try.f13) 83 8 [⟨false, 0, []⟩, ⟨false, 0, []⟩, ⟨false, 0, []⟩, ⟨false, 3, []⟩] [.ops [1, 1, 1, 1, 1, 1, 1, 0, 0] [3, 4, 5, 6], .code [1, 1, 1, 1, 1, 1, 1, 0, 1], .code [1, 1, 1, 1, 1, 1, 1, 1]] ⟨[(1, .string s), (4, .pointer (some ⟨w.heap.size, 0, none⟩)), (5, .int .i64 0), (6, .pointer (some ⟨g13, 0, none⟩)), (7, .string (packT st (takeR s))), (76, .bool ((packE st (takeR s)) != 0))], [⟨w.heap.size, 25, true, (ru_v1)⟩, ⟨w.heap.size + 1, 5, true, (ru_v2)⟩, ⟨g13, 25, true, (ru_v5 s)⟩], [], z29⟩) = some ⟨[((packE st (takeR s)) != 0) = false, ((packE st (takeR s)) != 0) = false, ((packE st (takeR s)) != 0) = false, ((packE st (takeR s)) != 0) = false], dupR [], [.code [1, 1, 1, 1, 1, 1, 1, 0, 1], .code [1, 1, 1, 1, 1, 1, 1, 1]], ⟨[(4, .pointer (some ⟨w.heap.size, 0, none⟩)), (5, .int .i64 0), (6, .pointer (some ⟨g13, 0, none⟩)), (80, .bool (!(ByteArray.toList (packT st (takeR s)) == ByteArray.toList s)))], [⟨w.heap.size, 25, true, (ru_v1)⟩, ⟨w.heap.size + 1, 5, true, (ru_v2)⟩, ⟨g13, 25, true, (ru_v5 s)⟩], [], z29⟩⟩ := by kernel_rfl
theorem ru_s34 (st : Int) (s : ByteArray) (w : World) (g13 : Nat) (z29 : Nat) : Res.prune [4, 5] [] (exec Try.prog (bodyOf Try.f13) 83 11 [⟨false, 0, []⟩, ⟨false, 0, [⟨false, 2, 0, 10⟩]⟩, ⟨false, 0, [⟨false, 0, 0, 10⟩]⟩, ⟨false, 0, []⟩] [.code [1, 1, 1, 1, 1, 1, 1, 0, 1], .code [1, 1, 1, 1, 1, 1, 1, 1]] ⟨[(4, .pointer (some ⟨w.heap.size, 0, none⟩)), (5, .int .i64 0), (6, .pointer (some ⟨g13, 0, none⟩)), (80, .bool (!(ByteArray.toList (packT st (takeR s)) == ByteArray.toList s)))], [⟨w.heap.size, 25, true, (ru_v1)⟩, ⟨w.heap.size + 1, 5, true, (ru_v2)⟩, ⟨g13, 25, true, (ru_v5 s)⟩], [], z29⟩) = some ⟨[(!(ByteArray.toList (packT st (takeR s)) == ByteArray.toList s)) = false], dupR [(g13, 0, 10), (w.heap.size, 0, 10)], [.code [1, 1, 1, 1, 1, 1, 1, 1, 1]], ⟨[(4, .pointer (some ⟨w.heap.size, 0, none⟩)), (5, .int .i64 0)], [⟨w.heap.size, 25, true, (ru_v5 s)⟩, ⟨w.heap.size + 1, 5, true, (ru_v2)⟩, ⟨g13, 25, true, (ru_v5 s)⟩], [], z29⟩⟩ := by kernel_rfl
theorem ru_r35 (s : ByteArray) (w : World) (g13 : Nat) : resL Try.prog [] [⟨w.heap.size, 25, true, (ru_v5 s)⟩, ⟨w.heap.size + 1, 5, true, (ru_v2)⟩, ⟨g13, 25, true, (ru_v5 s)⟩] [(4, .pointer (some ⟨w.heap.size, 0, none⟩)), (5, .int .i64 0)] Try.f13.results.toList [[⟨false, 0, 0, 10⟩]] = some ([.agg (List.toArray (ru_v5 s)), .int .i64 0], dupR [(w.heap.size, 0, 10)]) := by kernel_rfl
theorem ru_s36 (st : Int) (s : ByteArray) (w : World) (g13 : Nat) (z29 : Nat) : Res.prune [4, 5, 6] [] (exec Try.prog (bodyOf Try.f13) 83 10 [⟨true, 0, []⟩, ⟨false, 0, []⟩, ⟨false, 0, [⟨false, 0, 0, 10⟩]⟩, ⟨false, 0, []⟩] [.code [1, 1, 1, 1, 1, 1, 1, 0, 1], .code [1, 1, 1, 1, 1, 1, 1, 1]] ⟨[(4, .pointer (some ⟨w.heap.size, 0, none⟩)), (5, .int .i64 0), (6, .pointer (some ⟨g13, 0, none⟩)), (80, .bool (!(ByteArray.toList (packT st (takeR s)) == ByteArray.toList s)))], [⟨w.heap.size, 25, true, (ru_v1)⟩, ⟨w.heap.size + 1, 5, true, (ru_v2)⟩, ⟨g13, 25, true, (ru_v5 s)⟩], [], z29⟩) = some ⟨[(!(ByteArray.toList (packT st (takeR s)) == ByteArray.toList s)) = true], dupR [(w.heap.size, 0, 10)], [.code [1, 1, 1, 1, 1, 1, 1, 0, 1, 0, 1], .code [1, 1, 1, 1, 1, 1, 1, 1]], ⟨[(4, .pointer (some ⟨w.heap.size, 0, none⟩)), (5, .int .i64 80), (6, .pointer (some ⟨g13, 0, none⟩))], [⟨w.heap.size, 25, true, (ru_v1)⟩, ⟨w.heap.size + 1, 5, true, (ru_v2)⟩, ⟨g13, 25, true, (ru_v5 s)⟩], [], z29⟩⟩ := by kernel_rfl
theorem ru_r37 (s : ByteArray) (w : World) (g13 : Nat) : resL Try.prog [] [⟨w.heap.size, 25, true, (ru_v1)⟩, ⟨w.heap.size + 1, 5, true, (ru_v2)⟩, ⟨g13, 25, true, (ru_v5 s)⟩] [(4, .pointer (some ⟨w.heap.size, 0, none⟩)), (5, .int .i64 80), (6, .pointer (some ⟨g13, 0, none⟩))] Try.f13.results.toList [[⟨false, 0, 0, 10⟩]] = some ([.agg (List.toArray (ru_v1)), .int .i64 80], dupR [(w.heap.size, 0, 10)]) := by kernel_rfl
theorem ru_s38 (st : Int) (s : ByteArray) (w : World) (g13 : Nat) (y13 : Nat) : Res.prune [0, 1, 4, 5, 6, 64] [] (exec Try.prog (bodyOf Try.f13) 83 11 [⟨false, 0, []⟩, ⟨false, 0, []⟩, ⟨false, 0, [⟨false, 2, 5, 1⟩]⟩] [.code [1, 1, 1, 1, 0, 1], .code [1, 1, 1, 1, 1]] ⟨[(0, .int .i64 st), (1, .string s), (4, .pointer (some ⟨w.heap.size, 0, none⟩)), (5, .int .i64 0), (6, .pointer (some ⟨g13, 0, none⟩)), (59, .bool (usedS s))], [⟨w.heap.size, 25, true, (ru_v1)⟩, ⟨w.heap.size + 1, 5, true, (ru_v2)⟩, ⟨g13, 25, true, (ru_v4 s)⟩], [], y13⟩) = some ⟨[(usedS s) = false], dupR [(g13, 5, 1)], [.code [1, 1, 1, 1, 1, 0, 1], .code [1, 1, 1, 1, 1, 1]], ⟨[(0, .int .i64 st), (1, .string s), (4, .pointer (some ⟨w.heap.size, 0, none⟩)), (5, .int .i64 0), (6, .pointer (some ⟨g13, 0, none⟩)), (64, .bool (openS s))], [⟨w.heap.size, 25, true, (ru_v1)⟩, ⟨w.heap.size + 1, 5, true, (ru_v2)⟩, ⟨g13, 25, true, (ru_v4 s)⟩], [], y13⟩⟩ := by kernel_rfl
theorem ru_s39 (st : Int) (s : ByteArray) (w : World) (g13 : Nat) (y13 : Nat) : Res.prune [1, 4, 5, 6, 69, 70] [] (exec Try.prog (bodyOf Try.f13) 83 14 [⟨true, 0, []⟩, ⟨false, 0, []⟩, ⟨false, 1, []⟩, ⟨false, 0, []⟩, ⟨false, 0, [⟨false, 2, 9, 1⟩]⟩, ⟨false, 0, []⟩, ⟨false, 0, [⟨false, 2, 0, 10⟩]⟩] [.code [1, 1, 1, 1, 1, 0, 1], .code [1, 1, 1, 1, 1, 1]] ⟨[(0, .int .i64 st), (1, .string s), (4, .pointer (some ⟨w.heap.size, 0, none⟩)), (5, .int .i64 0), (6, .pointer (some ⟨g13, 0, none⟩)), (64, .bool (openS s))], [⟨w.heap.size, 25, true, (ru_v1)⟩, ⟨w.heap.size + 1, 5, true, (ru_v2)⟩, ⟨g13, 25, true, (ru_v4 s)⟩], [], y13⟩) = some ⟨[(openS s) = true, (0 : Int) ≤ 35 ∧ (35 : Int) ≤ 51 ∧ 51 ≤ ((s).size : Int)], dupR [(g13, 9, 1), (g13, 0, 10)], [.ops [1, 1, 1, 1, 1, 1, 0] [2, 3, 4, 5, 6, 7], .code [1, 1, 1, 1, 1, 1, 1]], ⟨[(1, .string s), (4, .pointer (some ⟨w.heap.size, 0, none⟩)), (5, .int .i64 0), (6, .pointer (some ⟨g13, 0, none⟩)), (69, .int .i64 st), (70, .agg (List.toArray (ru_v7 s)))], [⟨w.heap.size, 25, true, (ru_v1)⟩, ⟨w.heap.size + 1, 5, true, (ru_v2)⟩, ⟨g13, 25, true, (ru_v7 s)⟩], [], y13⟩⟩ := by kernel_rfl
theorem ru_c40 (st : Int) (s : ByteArray) (w : World) (g13 : Nat) : callAt Try.prog (opsOf (getCode (bodyOf Try.f13) [1, 1, 1, 1, 1, 1, 0])) [(1, .string s), (4, .pointer (some ⟨w.heap.size, 0, none⟩)), (5, .int .i64 0), (6, .pointer (some ⟨g13, 0, none⟩)), (69, .int .i64 st), (70, .agg (List.toArray (ru_v7 s)))] 2 = some (11, [.int .i64 st, .agg (List.toArray (ru_v7 s))], some 71, []) := by kernel_rfl
theorem ru_s41 (st : Int) (s : ByteArray) (w : World) (g13 : Nat) (z40 : Nat) : Res.prune [1, 4, 5, 6, 7, 76] [] (exec Try.prog (bodyOf Try.f13) 83 15 [⟨false, 0, []⟩, ⟨false, 0, []⟩, ⟨false, 0, []⟩, ⟨false, 0, []⟩, ⟨false, 0, []⟩, ⟨false, 0, []⟩, ⟨false, 0, []⟩, ⟨false, 0, []⟩] [.ops [1, 1, 1, 1, 1, 1, 0] [3, 4, 5, 6, 7], .code [1, 1, 1, 1, 1, 1, 1]] ⟨[(71, .tuple #[.string (packT st (takeR s)), .int .i64 (packE st (takeR s))]), (1, .string s), (4, .pointer (some ⟨w.heap.size, 0, none⟩)), (5, .int .i64 0), (6, .pointer (some ⟨g13, 0, none⟩)), (69, .int .i64 st), (70, .agg (List.toArray (ru_v7 s)))], [⟨w.heap.size, 25, true, (ru_v1)⟩, ⟨w.heap.size + 1, 5, true, (ru_v2)⟩, ⟨g13, 25, true, (ru_v7 s)⟩], [], z40⟩) = some ⟨[], dupR [], [.ops [1, 1, 1, 1, 1, 1, 1, 0, 0] [3, 4, 5, 6], .code [1, 1, 1, 1, 1, 1, 1, 0, 1], .code [1, 1, 1, 1, 1, 1, 1, 1]], ⟨[(1, .string s), (4, .pointer (some ⟨w.heap.size, 0, none⟩)), (5, .int .i64 0), (6, .pointer (some ⟨g13, 0, none⟩)), (7, .string (packT st (takeR s))), (76, .bool ((packE st (takeR s)) != 0))], [⟨w.heap.size, 25, true, (ru_v1)⟩, ⟨w.heap.size + 1, 5, true, (ru_v2)⟩, ⟨g13, 25, true, (ru_v7 s)⟩], [], z40⟩⟩ := by kernel_rfl
theorem ru_s42 (st : Int) (s : ByteArray) (w : World) (g13 : Nat) (z40 : Nat) : Res.prune [4, 5, 6] [] (exec Try.prog (bodyOf Try.f13) 83 15 [⟨true, 0, []⟩, ⟨true, 0, []⟩, ⟨true, 0, []⟩, ⟨false, 2, []⟩, ⟨true, 0, []⟩, ⟨false, 0, []⟩, ⟨false, 0, [⟨false, 0, 0, 10⟩]⟩, ⟨false, 0, []⟩] [.ops [1, 1, 1, 1, 1, 1, 1, 0, 0] [3, 4, 5, 6], .code [1, 1, 1, 1, 1, 1, 1, 0, 1], .code [1, 1, 1, 1, 1, 1, 1, 1]] ⟨[(1, .string s), (4, .pointer (some ⟨w.heap.size, 0, none⟩)), (5, .int .i64 0), (6, .pointer (some ⟨g13, 0, none⟩)), (7, .string (packT st (takeR s))), (76, .bool ((packE st (takeR s)) != 0))], [⟨w.heap.size, 25, true, (ru_v1)⟩, ⟨w.heap.size + 1, 5, true, (ru_v2)⟩, ⟨g13, 25, true, (ru_v7 s)⟩], [], z40⟩) = some ⟨[((packE st (takeR s)) != 0) = true, ((packE st (takeR s)) != 0) = true, ((packE st (takeR s)) != 0) = true, ((packE st (takeR s)) != 0) = true, true = true], dupR [(w.heap.size, 0, 10)], [.code [1, 1, 1, 1, 1, 1, 1, 0, 1, 0, 1], .code [1, 1, 1, 1, 1, 1, 1, 1]], ⟨[(4, .pointer (some ⟨w.heap.size, 0, none⟩)), (5, .int .i64 80), (6, .pointer (some ⟨g13, 0, none⟩))], [⟨w.heap.size, 25, true, (ru_v1)⟩, ⟨w.heap.size + 1, 5, true, (ru_v2)⟩, ⟨g13, 25, true, (ru_v7 s)⟩], [], z40⟩⟩ := by kernel_rfl
theorem ru_r43 (s : ByteArray) (w : World) (g13 : Nat) : resL Try.prog [] [⟨w.heap.size, 25, true, (ru_v1)⟩, ⟨w.heap.size + 1, 5, true, (ru_v2)⟩, ⟨g13, 25, true, (ru_v7 s)⟩] [(4, .pointer (some ⟨w.heap.size, 0, none⟩)), (5, .int .i64 80), (6, .pointer (some ⟨g13, 0, none⟩))] Try.f13.results.toList [[⟨false, 0, 0, 10⟩]] = some ([.agg (List.toArray (ru_v1)), .int .i64 80], dupR [(w.heap.size, 0, 10)]) := by kernel_rfl
theorem ru_s44 (st : Int) (s : ByteArray) (w : World) (g13 : Nat) (z40 : Nat) : Res.prune [4, 5, 6, 80] [] (exec Try.prog (bodyOf Try.f13) 83 8 [⟨false, 0, []⟩, ⟨false, 0, []⟩, ⟨false, 0, []⟩, ⟨false, 3, []⟩] [.ops [1, 1, 1, 1, 1, 1, 1, 0, 0] [3, 4, 5, 6], .code [1, 1, 1, 1, 1, 1, 1, 0, 1], .code [1, 1, 1, 1, 1, 1, 1, 1]] ⟨[(1, .string s), (4, .pointer (some ⟨w.heap.size, 0, none⟩)), (5, .int .i64 0), (6, .pointer (some ⟨g13, 0, none⟩)), (7, .string (packT st (takeR s))), (76, .bool ((packE st (takeR s)) != 0))], [⟨w.heap.size, 25, true, (ru_v1)⟩, ⟨w.heap.size + 1, 5, true, (ru_v2)⟩, ⟨g13, 25, true, (ru_v7 s)⟩], [], z40⟩) = some ⟨[((packE st (takeR s)) != 0) = false, ((packE st (takeR s)) != 0) = false, ((packE st (takeR s)) != 0) = false, ((packE st (takeR s)) != 0) = false], dupR [], [.code [1, 1, 1, 1, 1, 1, 1, 0, 1], .code [1, 1, 1, 1, 1, 1, 1, 1]], ⟨[(4, .pointer (some ⟨w.heap.size, 0, none⟩)), (5, .int .i64 0), (6, .pointer (some ⟨g13, 0, none⟩)), (80, .bool (!(ByteArray.toList (packT st (takeR s)) == ByteArray.toList s)))], [⟨w.heap.size, 25, true, (ru_v1)⟩, ⟨w.heap.size + 1, 5, true, (ru_v2)⟩, ⟨g13, 25, true, (ru_v7 s)⟩], [], z40⟩⟩ := by kernel_rfl
theorem ru_s45 (st : Int) (s : ByteArray) (w : World) (g13 : Nat) (z40 : Nat) : Res.prune [4, 5] [] (exec Try.prog (bodyOf Try.f13) 83 11 [⟨false, 0, []⟩, ⟨false, 0, [⟨false, 2, 0, 10⟩]⟩, ⟨false, 0, [⟨false, 0, 0, 10⟩]⟩, ⟨false, 0, []⟩] [.code [1, 1, 1, 1, 1, 1, 1, 0, 1], .code [1, 1, 1, 1, 1, 1, 1, 1]] ⟨[(4, .pointer (some ⟨w.heap.size, 0, none⟩)), (5, .int .i64 0), (6, .pointer (some ⟨g13, 0, none⟩)), (80, .bool (!(ByteArray.toList (packT st (takeR s)) == ByteArray.toList s)))], [⟨w.heap.size, 25, true, (ru_v1)⟩, ⟨w.heap.size + 1, 5, true, (ru_v2)⟩, ⟨g13, 25, true, (ru_v7 s)⟩], [], z40⟩) = some ⟨[(!(ByteArray.toList (packT st (takeR s)) == ByteArray.toList s)) = false], dupR [(g13, 0, 10), (w.heap.size, 0, 10)], [.code [1, 1, 1, 1, 1, 1, 1, 1, 1]], ⟨[(4, .pointer (some ⟨w.heap.size, 0, none⟩)), (5, .int .i64 0)], [⟨w.heap.size, 25, true, (ru_v7 s)⟩, ⟨w.heap.size + 1, 5, true, (ru_v2)⟩, ⟨g13, 25, true, (ru_v7 s)⟩], [], z40⟩⟩ := by kernel_rfl
theorem ru_r46 (s : ByteArray) (w : World) (g13 : Nat) : resL Try.prog [] [⟨w.heap.size, 25, true, (ru_v7 s)⟩, ⟨w.heap.size + 1, 5, true, (ru_v2)⟩, ⟨g13, 25, true, (ru_v7 s)⟩] [(4, .pointer (some ⟨w.heap.size, 0, none⟩)), (5, .int .i64 0)] Try.f13.results.toList [[⟨false, 0, 0, 10⟩]] = some ([.agg (List.toArray (ru_v7 s)), .int .i64 0], dupR [(w.heap.size, 0, 10)]) := by kernel_rfl
theorem ru_s47 (st : Int) (s : ByteArray) (w : World) (g13 : Nat) (z40 : Nat) : Res.prune [4, 5, 6] [] (exec Try.prog (bodyOf Try.f13) 83 10 [⟨true, 0, []⟩, ⟨false, 0, []⟩, ⟨false, 0, [⟨false, 0, 0, 10⟩]⟩, ⟨false, 0, []⟩] [.code [1, 1, 1, 1, 1, 1, 1, 0, 1], .code [1, 1, 1, 1, 1, 1, 1, 1]] ⟨[(4, .pointer (some ⟨w.heap.size, 0, none⟩)), (5, .int .i64 0), (6, .pointer (some ⟨g13, 0, none⟩)), (80, .bool (!(ByteArray.toList (packT st (takeR s)) == ByteArray.toList s)))], [⟨w.heap.size, 25, true, (ru_v1)⟩, ⟨w.heap.size + 1, 5, true, (ru_v2)⟩, ⟨g13, 25, true, (ru_v7 s)⟩], [], z40⟩) = some ⟨[(!(ByteArray.toList (packT st (takeR s)) == ByteArray.toList s)) = true], dupR [(w.heap.size, 0, 10)], [.code [1, 1, 1, 1, 1, 1, 1, 0, 1, 0, 1], .code [1, 1, 1, 1, 1, 1, 1, 1]], ⟨[(4, .pointer (some ⟨w.heap.size, 0, none⟩)), (5, .int .i64 80), (6, .pointer (some ⟨g13, 0, none⟩))], [⟨w.heap.size, 25, true, (ru_v1)⟩, ⟨w.heap.size + 1, 5, true, (ru_v2)⟩, ⟨g13, 25, true, (ru_v7 s)⟩], [], z40⟩⟩ := by kernel_rfl
theorem ru_r48 (s : ByteArray) (w : World) (g13 : Nat) : resL Try.prog [] [⟨w.heap.size, 25, true, (ru_v1)⟩, ⟨w.heap.size + 1, 5, true, (ru_v2)⟩, ⟨g13, 25, true, (ru_v7 s)⟩] [(4, .pointer (some ⟨w.heap.size, 0, none⟩)), (5, .int .i64 80), (6, .pointer (some ⟨g13, 0, none⟩))] Try.f13.results.toList [[⟨false, 0, 0, 10⟩]] = some ([.agg (List.toArray (ru_v1)), .int .i64 80], dupR [(w.heap.size, 0, 10)]) := by kernel_rfl
theorem ru_s49 (st : Int) (s : ByteArray) (w : World) (g13 : Nat) (y13 : Nat) : Res.prune [1, 4, 5, 6, 69, 70] [] (exec Try.prog (bodyOf Try.f13) 83 9 [⟨false, 0, []⟩, ⟨false, 0, []⟩, ⟨false, 0, [⟨false, 2, 0, 10⟩]⟩] [.code [1, 1, 1, 1, 1, 0, 1], .code [1, 1, 1, 1, 1, 1]] ⟨[(0, .int .i64 st), (1, .string s), (4, .pointer (some ⟨w.heap.size, 0, none⟩)), (5, .int .i64 0), (6, .pointer (some ⟨g13, 0, none⟩)), (64, .bool (openS s))], [⟨w.heap.size, 25, true, (ru_v1)⟩, ⟨w.heap.size + 1, 5, true, (ru_v2)⟩, ⟨g13, 25, true, (ru_v4 s)⟩], [], y13⟩) = some ⟨[(openS s) = false], dupR [(g13, 0, 10)], [.ops [1, 1, 1, 1, 1, 1, 0] [2, 3, 4, 5, 6, 7], .code [1, 1, 1, 1, 1, 1, 1]], ⟨[(1, .string s), (4, .pointer (some ⟨w.heap.size, 0, none⟩)), (5, .int .i64 0), (6, .pointer (some ⟨g13, 0, none⟩)), (69, .int .i64 st), (70, .agg (List.toArray (ru_v4 s)))], [⟨w.heap.size, 25, true, (ru_v1)⟩, ⟨w.heap.size + 1, 5, true, (ru_v2)⟩, ⟨g13, 25, true, (ru_v4 s)⟩], [], y13⟩⟩ := by kernel_rfl
theorem ru_c50 (st : Int) (s : ByteArray) (w : World) (g13 : Nat) : callAt Try.prog (opsOf (getCode (bodyOf Try.f13) [1, 1, 1, 1, 1, 1, 0])) [(1, .string s), (4, .pointer (some ⟨w.heap.size, 0, none⟩)), (5, .int .i64 0), (6, .pointer (some ⟨g13, 0, none⟩)), (69, .int .i64 st), (70, .agg (List.toArray (ru_v4 s)))] 2 = some (11, [.int .i64 st, .agg (List.toArray (ru_v4 s))], some 71, []) := by kernel_rfl
theorem ru_s51 (st : Int) (s : ByteArray) (w : World) (g13 : Nat) (z50 : Nat) : Res.prune [1, 4, 5, 6, 7, 76] [] (exec Try.prog (bodyOf Try.f13) 83 15 [⟨false, 0, []⟩, ⟨false, 0, []⟩, ⟨false, 0, []⟩, ⟨false, 0, []⟩, ⟨false, 0, []⟩, ⟨false, 0, []⟩, ⟨false, 0, []⟩, ⟨false, 0, []⟩] [.ops [1, 1, 1, 1, 1, 1, 0] [3, 4, 5, 6, 7], .code [1, 1, 1, 1, 1, 1, 1]] ⟨[(71, .tuple #[.string (packT st (takeR s)), .int .i64 (packE st (takeR s))]), (1, .string s), (4, .pointer (some ⟨w.heap.size, 0, none⟩)), (5, .int .i64 0), (6, .pointer (some ⟨g13, 0, none⟩)), (69, .int .i64 st), (70, .agg (List.toArray (ru_v4 s)))], [⟨w.heap.size, 25, true, (ru_v1)⟩, ⟨w.heap.size + 1, 5, true, (ru_v2)⟩, ⟨g13, 25, true, (ru_v4 s)⟩], [], z50⟩) = some ⟨[], dupR [], [.ops [1, 1, 1, 1, 1, 1, 1, 0, 0] [3, 4, 5, 6], .code [1, 1, 1, 1, 1, 1, 1, 0, 1], .code [1, 1, 1, 1, 1, 1, 1, 1]], ⟨[(1, .string s), (4, .pointer (some ⟨w.heap.size, 0, none⟩)), (5, .int .i64 0), (6, .pointer (some ⟨g13, 0, none⟩)), (7, .string (packT st (takeR s))), (76, .bool ((packE st (takeR s)) != 0))], [⟨w.heap.size, 25, true, (ru_v1)⟩, ⟨w.heap.size + 1, 5, true, (ru_v2)⟩, ⟨g13, 25, true, (ru_v4 s)⟩], [], z50⟩⟩ := by kernel_rfl
theorem ru_s52 (st : Int) (s : ByteArray) (w : World) (g13 : Nat) (z50 : Nat) : Res.prune [4, 5, 6] [] (exec Try.prog (bodyOf Try.f13) 83 15 [⟨true, 0, []⟩, ⟨true, 0, []⟩, ⟨true, 0, []⟩, ⟨false, 2, []⟩, ⟨true, 0, []⟩, ⟨false, 0, []⟩, ⟨false, 0, [⟨false, 0, 0, 10⟩]⟩, ⟨false, 0, []⟩] [.ops [1, 1, 1, 1, 1, 1, 1, 0, 0] [3, 4, 5, 6], .code [1, 1, 1, 1, 1, 1, 1, 0, 1], .code [1, 1, 1, 1, 1, 1, 1, 1]] ⟨[(1, .string s), (4, .pointer (some ⟨w.heap.size, 0, none⟩)), (5, .int .i64 0), (6, .pointer (some ⟨g13, 0, none⟩)), (7, .string (packT st (takeR s))), (76, .bool ((packE st (takeR s)) != 0))], [⟨w.heap.size, 25, true, (ru_v1)⟩, ⟨w.heap.size + 1, 5, true, (ru_v2)⟩, ⟨g13, 25, true, (ru_v4 s)⟩], [], z50⟩) = some ⟨[((packE st (takeR s)) != 0) = true, ((packE st (takeR s)) != 0) = true, ((packE st (takeR s)) != 0) = true, ((packE st (takeR s)) != 0) = true, true = true], dupR [(w.heap.size, 0, 10)], [.code [1, 1, 1, 1, 1, 1, 1, 0, 1, 0, 1], .code [1, 1, 1, 1, 1, 1, 1, 1]], ⟨[(4, .pointer (some ⟨w.heap.size, 0, none⟩)), (5, .int .i64 80), (6, .pointer (some ⟨g13, 0, none⟩))], [⟨w.heap.size, 25, true, (ru_v1)⟩, ⟨w.heap.size + 1, 5, true, (ru_v2)⟩, ⟨g13, 25, true, (ru_v4 s)⟩], [], z50⟩⟩ := by kernel_rfl
theorem ru_r53 (s : ByteArray) (w : World) (g13 : Nat) : resL Try.prog [] [⟨w.heap.size, 25, true, (ru_v1)⟩, ⟨w.heap.size + 1, 5, true, (ru_v2)⟩, ⟨g13, 25, true, (ru_v4 s)⟩] [(4, .pointer (some ⟨w.heap.size, 0, none⟩)), (5, .int .i64 80), (6, .pointer (some ⟨g13, 0, none⟩))] Try.f13.results.toList [[⟨false, 0, 0, 10⟩]] = some ([.agg (List.toArray (ru_v1)), .int .i64 80], dupR [(w.heap.size, 0, 10)]) := by kernel_rfl
theorem ru_s54 (st : Int) (s : ByteArray) (w : World) (g13 : Nat) (z50 : Nat) : Res.prune [4, 5, 6, 80] [] (exec Try.prog (bodyOf Try.f13) 83 8 [⟨false, 0, []⟩, ⟨false, 0, []⟩, ⟨false, 0, []⟩, ⟨false, 3, []⟩] [.ops [1, 1, 1, 1, 1, 1, 1, 0, 0] [3, 4, 5, 6], .code [1, 1, 1, 1, 1, 1, 1, 0, 1], .code [1, 1, 1, 1, 1, 1, 1, 1]] ⟨[(1, .string s), (4, .pointer (some ⟨w.heap.size, 0, none⟩)), (5, .int .i64 0), (6, .pointer (some ⟨g13, 0, none⟩)), (7, .string (packT st (takeR s))), (76, .bool ((packE st (takeR s)) != 0))], [⟨w.heap.size, 25, true, (ru_v1)⟩, ⟨w.heap.size + 1, 5, true, (ru_v2)⟩, ⟨g13, 25, true, (ru_v4 s)⟩], [], z50⟩) = some ⟨[((packE st (takeR s)) != 0) = false, ((packE st (takeR s)) != 0) = false, ((packE st (takeR s)) != 0) = false, ((packE st (takeR s)) != 0) = false], dupR [], [.code [1, 1, 1, 1, 1, 1, 1, 0, 1], .code [1, 1, 1, 1, 1, 1, 1, 1]], ⟨[(4, .pointer (some ⟨w.heap.size, 0, none⟩)), (5, .int .i64 0), (6, .pointer (some ⟨g13, 0, none⟩)), (80, .bool (!(ByteArray.toList (packT st (takeR s)) == ByteArray.toList s)))], [⟨w.heap.size, 25, true, (ru_v1)⟩, ⟨w.heap.size + 1, 5, true, (ru_v2)⟩, ⟨g13, 25, true, (ru_v4 s)⟩], [], z50⟩⟩ := by kernel_rfl
theorem ru_s55 (st : Int) (s : ByteArray) (w : World) (g13 : Nat) (z50 : Nat) : Res.prune [4, 5] [] (exec Try.prog (bodyOf Try.f13) 83 11 [⟨false, 0, []⟩, ⟨false, 0, [⟨false, 2, 0, 10⟩]⟩, ⟨false, 0, [⟨false, 0, 0, 10⟩]⟩, ⟨false, 0, []⟩] [.code [1, 1, 1, 1, 1, 1, 1, 0, 1], .code [1, 1, 1, 1, 1, 1, 1, 1]] ⟨[(4, .pointer (some ⟨w.heap.size, 0, none⟩)), (5, .int .i64 0), (6, .pointer (some ⟨g13, 0, none⟩)), (80, .bool (!(ByteArray.toList (packT st (takeR s)) == ByteArray.toList s)))], [⟨w.heap.size, 25, true, (ru_v1)⟩, ⟨w.heap.size + 1, 5, true, (ru_v2)⟩, ⟨g13, 25, true, (ru_v4 s)⟩], [], z50⟩) = some ⟨[(!(ByteArray.toList (packT st (takeR s)) == ByteArray.toList s)) = false], dupR [(g13, 0, 10), (w.heap.size, 0, 10)], [.code [1, 1, 1, 1, 1, 1, 1, 1, 1]], ⟨[(4, .pointer (some ⟨w.heap.size, 0, none⟩)), (5, .int .i64 0)], [⟨w.heap.size, 25, true, (ru_v4 s)⟩, ⟨w.heap.size + 1, 5, true, (ru_v2)⟩, ⟨g13, 25, true, (ru_v4 s)⟩], [], z50⟩⟩ := by kernel_rfl
theorem ru_r56 (s : ByteArray) (w : World) (g13 : Nat) : resL Try.prog [] [⟨w.heap.size, 25, true, (ru_v4 s)⟩, ⟨w.heap.size + 1, 5, true, (ru_v2)⟩, ⟨g13, 25, true, (ru_v4 s)⟩] [(4, .pointer (some ⟨w.heap.size, 0, none⟩)), (5, .int .i64 0)] Try.f13.results.toList [[⟨false, 0, 0, 10⟩]] = some ([.agg (List.toArray (ru_v4 s)), .int .i64 0], dupR [(w.heap.size, 0, 10)]) := by kernel_rfl
theorem ru_s57 (st : Int) (s : ByteArray) (w : World) (g13 : Nat) (z50 : Nat) : Res.prune [4, 5, 6] [] (exec Try.prog (bodyOf Try.f13) 83 10 [⟨true, 0, []⟩, ⟨false, 0, []⟩, ⟨false, 0, [⟨false, 0, 0, 10⟩]⟩, ⟨false, 0, []⟩] [.code [1, 1, 1, 1, 1, 1, 1, 0, 1], .code [1, 1, 1, 1, 1, 1, 1, 1]] ⟨[(4, .pointer (some ⟨w.heap.size, 0, none⟩)), (5, .int .i64 0), (6, .pointer (some ⟨g13, 0, none⟩)), (80, .bool (!(ByteArray.toList (packT st (takeR s)) == ByteArray.toList s)))], [⟨w.heap.size, 25, true, (ru_v1)⟩, ⟨w.heap.size + 1, 5, true, (ru_v2)⟩, ⟨g13, 25, true, (ru_v4 s)⟩], [], z50⟩) = some ⟨[(!(ByteArray.toList (packT st (takeR s)) == ByteArray.toList s)) = true], dupR [(w.heap.size, 0, 10)], [.code [1, 1, 1, 1, 1, 1, 1, 0, 1, 0, 1], .code [1, 1, 1, 1, 1, 1, 1, 1]], ⟨[(4, .pointer (some ⟨w.heap.size, 0, none⟩)), (5, .int .i64 80), (6, .pointer (some ⟨g13, 0, none⟩))], [⟨w.heap.size, 25, true, (ru_v1)⟩, ⟨w.heap.size + 1, 5, true, (ru_v2)⟩, ⟨g13, 25, true, (ru_v4 s)⟩], [], z50⟩⟩ := by kernel_rfl
theorem ru_r58 (s : ByteArray) (w : World) (g13 : Nat) : resL Try.prog [] [⟨w.heap.size, 25, true, (ru_v1)⟩, ⟨w.heap.size + 1, 5, true, (ru_v2)⟩, ⟨g13, 25, true, (ru_v4 s)⟩] [(4, .pointer (some ⟨w.heap.size, 0, none⟩)), (5, .int .i64 80), (6, .pointer (some ⟨g13, 0, none⟩))] Try.f13.results.toList [[⟨false, 0, 0, 10⟩]] = some ([.agg (List.toArray (ru_v1)), .int .i64 80], dupR [(w.heap.size, 0, 10)]) := by kernel_rfl
set_option maxRecDepth 100000 in
set_option maxHeartbeats 4000000 in
theorem refUnpack_any (st : Int) (s : ByteArray) (w : World) :
    Calls Try.prog 13 #[.int .i64 st, .string s] w (RetK (.tuple #[.agg (unpackR st s).cells.toArray, .int .i64 (unpackE st s)]) w) := by
  refine calls_of_holds (S := (fun _ => False)) (l := [.int .i64 st, .string s]) (n := 83) Try.func13 (body_of (by kernel_rfl)) rfl (by simp) (MemOk.none w _) ?_
  by_cases h1 : st < 0
  · skip
    refine holds_go _ _ (ru_s1 st s w) ⟨decide_eq_true h1, decide_eq_true h1, decide_eq_true h1, rfl, rfl, rfl, rfl, rfl, trivial⟩ ?_
    refine holds_ret [[⟨false, 0, 0, 10⟩]] (by kernel_rfl) (ru_r2 st s w) ?_
    intro wx hm
    exact ⟨by
      have e1 : takeGood st s = false := by
        unfold takeGood
        simp [show ¬ 0 ≤ st by omega]
      have e2 : takeNone st s = false := by
        unfold takeNone
        simp [show ¬ 0 ≤ st by omega]
      unfold unpackR unpackE
      rw [e1, e2]
      rfl, hm.kept⟩
  by_cases h2 : st ≥ 8
  · skip
    refine holds_go _ _ (ru_s3 st s w) ⟨decide_eq_false h1, decide_eq_false h1, decide_eq_false h1, decide_eq_true h2, decide_eq_true h2, decide_eq_true h2, decide_eq_true h2, rfl, trivial⟩ ?_
    refine holds_ret [[⟨false, 0, 0, 10⟩]] (by kernel_rfl) (ru_r4 st s w) ?_
    intro wx hm
    exact ⟨by
      have e1 : takeGood st s = false := by
        unfold takeGood
        simp [show ¬ st < 8 by omega]
      have e2 : takeNone st s = false := by
        unfold takeNone
        simp [show ¬ st < 8 by omega]
      unfold unpackR unpackE
      rw [e1, e2]
      rfl, hm.kept⟩
  by_cases h3 : (s.size : Int) = 64
  rotate_left
  · skip
    refine holds_go _ _ (ru_s5 st s w) ⟨decide_eq_false h1, decide_eq_false h1, decide_eq_false h1, decide_eq_false h2, decide_eq_false h2, decide_eq_false h2, decide_eq_false h2, bne_iff_ne.2 h3, trivial⟩ ?_
    refine holds_ret [[⟨false, 0, 0, 10⟩]] (by kernel_rfl) (ru_r6 st s w) ?_
    intro wx hm
    exact ⟨by
      have e1 : takeGood st s = false := by
        unfold takeGood
        simp [h3]
      have e2 : takeNone st s = false := by
        unfold takeNone
        simp [h3]
      unfold unpackR unpackE
      rw [e1, e2]
      rfl, hm.kept⟩
  refine holds_go _ _ (ru_s7 st s w) ⟨decide_eq_false h1, decide_eq_false h1, decide_eq_false h1, decide_eq_false h2, decide_eq_false h2, decide_eq_false h2, decide_eq_false h2, bne_eq_false_iff_eq.2 h3, trivial⟩ ?_
  refine holds_opR (dst := (some 23)) (x := convert 40 9 (.slice (some ⟨w.heap.size + 1, 0, none⟩) 64 64)) (.string zeros64) (by kernel_rfl) (by kernel_rfl) rfl (fun wx hm => ?_) ?_
  · exact run_bytesAt (P := Try.prog) wx 40 9 5 _ _ _ _ _ (List.replicate 64 0) ([]) [] (by kernel_rfl) (by kernel_rfl) (by kernel_rfl) (hm.at_ 1 rfl) rfl rfl (by intro n hn; rw [List.eq_of_mem_replicate hn]; omega)
  refine holds_go _ _ (ru_s9 st s w) trivial ?_
  rcases Bool.eq_false_or_eq_true (ByteArray.toList s == ByteArray.toList zeros64) with hz | hz
  · skip
    refine holds_go _ _ (ru_s10 st s w) ⟨hz, trivial⟩ ?_
    refine holds_ret [[⟨false, 0, 0, 10⟩]] (by kernel_rfl) (ru_r11 st s w) ?_
    intro wx hm
    exact ⟨by
      have e1 : takeGood st s = false := by
        unfold takeGood
        simp [hz]
      have e2 : takeNone st s = true := by
        unfold takeNone
        rw [hz, beq_iff_eq.2 h3, decide_eq_true (show 0 ≤ st by omega), decide_eq_true (show st < 8 by omega)]
        rfl
      unfold unpackR unpackE
      rw [e1, e2]
      rfl, hm.kept⟩
  have hs : s.size = 64 := by omega
  have hb2 := byteAt_bd s 2
  have hb18 := byteAt_bd s 18
  refine holds_go _ _ (ru_s12 st s w) ⟨hz, trivial⟩ ?_
  have HZ : ∀ (g13 y13 : Nat), w.heap.size + 2 ≤ g13 → w.heap.size + 2 ≤ y13 → Holds [] Try.prog (bodyOf Try.f13) 83 w (fun _ => False) (bodyPost Try.prog Try.f13 (RetK (.tuple #[.agg (unpackR st s).cells.toArray, .int .i64 (unpackE st s)]) w)) [.code [1, 1, 1, 1]] ⟨[(0, .int .i64 st), (1, .string s), (4, .pointer (some ⟨w.heap.size, 0, none⟩)), (5, .int .i64 0), (6, .pointer (some ⟨g13, 0, none⟩))], [⟨w.heap.size, 25, true, (ru_v1)⟩, ⟨w.heap.size + 1, 5, true, (ru_v2)⟩, ⟨g13, 25, true, (ru_v3 s)⟩], [], y13⟩ := by
    intro g13 y13 hg13 hy13
    refine holds_bk [⟨w.heap.size, 25, true, (ru_v1)⟩, ⟨w.heap.size + 1, 5, true, (ru_v2)⟩, ⟨g13, 25, true, (ru_v4 s)⟩] (by
      have e1 := congr (congrArg (fun u_ v_ : Bool => ([⟨w.heap.size, 25, true, (ru_v1)⟩, ⟨w.heap.size + 1, 5, true, (ru_v2)⟩, ⟨g13, 25, true, [.bool u_, .int .i64 (numAt s 3), .int .i64 (numAt s 6), .int .i64 (numAt s 9), .string ⟨#[]⟩, .bool v_, .int .i64 (numAt s 12), .int .i64 (numAt s 15), .int .i64 (byteAt s 18), .string ⟨#[]⟩]⟩] : List Bk)) (show (((byteAt s 2) % 2) == 1) = usedS s from rfl)) (show ((((byteAt s 2) / 2) % 2) == 1) = openS s from rfl)
      exact e1) ?_
    refine holds_go _ _ (ru_s16 st s w g13 y13) trivial ?_
    rcases Bool.eq_false_or_eq_true (usedS s) with d1 | d1
    · skip
      refine holds_go _ _ (ru_s17 st s w g13 y13) ⟨d1, ⟨by omega, by omega, by omega⟩, trivial⟩ ?_
      rcases Bool.eq_false_or_eq_true (openS s) with d2 | d2
      · skip
        refine holds_go _ _ (ru_s18 st s w g13 y13) ⟨d2, ⟨by omega, by omega, by omega⟩, trivial⟩ ?_
        have hT : (takeR s).cells = (ru_v6 s) := takeR_cells d1 d2
        refine holds_callP (.tuple #[.string (packT st (takeR s)), .int .i64 (packE st (takeR s))]) (ru_c19 st s w g13) trivial rfl (fun wx hm => refPack_cells st (takeR s) hT wx) fun z19 hz19 => ?_
        replace hz19 : y13 ≤ z19 := hz19
        refine holds_go _ _ (ru_s20 st s w g13 z19) trivial ?_
        rcases Bool.eq_false_or_eq_true ((packE st (takeR s)) != 0) with d3 | d3
        · skip
          refine holds_go _ _ (ru_s21 st s w g13 z19) ⟨d3, d3, d3, d3, rfl, trivial⟩ ?_
          refine holds_ret [[⟨false, 0, 0, 10⟩]] (by kernel_rfl) (ru_r22 s w g13) ?_
          intro wx hm
          exact ⟨by
            have e2 : takeNone st s = false := by
              unfold takeNone
              rw [hz, Bool.and_false]
            have e1 : takeGood st s = false := by
              unfold takeGood
              rw [show (packE st (takeR s) == 0) = false from beq_eq_false_iff_ne.2 (bne_iff_ne.1 d3), Bool.and_false, Bool.false_and]
            unfold unpackR unpackE
            rw [e1, e2]
            rfl, hm.kept⟩
        · skip
          refine holds_go _ _ (ru_s23 st s w g13 z19) ⟨d3, d3, d3, d3, trivial⟩ ?_
          rcases Bool.eq_false_or_eq_true (ByteArray.toList (packT st (takeR s)) == ByteArray.toList s) with d4 | d4
          · skip
            refine holds_go _ _ (ru_s24 st s w g13 z19) ⟨(by rw [d4]; rfl), trivial⟩ ?_
            refine holds_ret [[⟨false, 0, 0, 10⟩]] (by kernel_rfl) (ru_r25 s w g13) ?_
            intro wx hm
            exact ⟨by
              have e2 : takeNone st s = false := by
                unfold takeNone
                rw [hz, Bool.and_false]
              have e1 : takeGood st s = true := by
                unfold takeGood
                rw [hz, beq_iff_eq.2 h3, decide_eq_true (show 0 ≤ st by omega), decide_eq_true (show st < 8 by omega), d4, show (packE st (takeR s) == 0) = true from beq_iff_eq.2 (bne_eq_false_iff_eq.1 d3)]
                rfl
              unfold unpackR unpackE
              rw [e1, e2]
              rw [cond_true, Bool.true_or, cond_true, hT]
              rfl, hm.kept⟩
          · skip
            refine holds_go _ _ (ru_s26 st s w g13 z19) ⟨(by rw [d4]; rfl), trivial⟩ ?_
            refine holds_ret [[⟨false, 0, 0, 10⟩]] (by kernel_rfl) (ru_r27 s w g13) ?_
            intro wx hm
            exact ⟨by
              have e2 : takeNone st s = false := by
                unfold takeNone
                rw [hz, Bool.and_false]
              have e1 : takeGood st s = false := by
                unfold takeGood
                rw [d4, Bool.and_false]
              unfold unpackR unpackE
              rw [e1, e2]
              rfl, hm.kept⟩
      · skip
        refine holds_go _ _ (ru_s28 st s w g13 y13) ⟨d2, trivial⟩ ?_
        have hT : (takeR s).cells = (ru_v5 s) := takeR_cells d1 d2
        refine holds_callP (.tuple #[.string (packT st (takeR s)), .int .i64 (packE st (takeR s))]) (ru_c29 st s w g13) trivial rfl (fun wx hm => refPack_cells st (takeR s) hT wx) fun z29 hz29 => ?_
        replace hz29 : y13 ≤ z29 := hz29
        refine holds_go _ _ (ru_s30 st s w g13 z29) trivial ?_
        rcases Bool.eq_false_or_eq_true ((packE st (takeR s)) != 0) with d5 | d5
        · skip
          refine holds_go _ _ (ru_s31 st s w g13 z29) ⟨d5, d5, d5, d5, rfl, trivial⟩ ?_
          refine holds_ret [[⟨false, 0, 0, 10⟩]] (by kernel_rfl) (ru_r32 s w g13) ?_
          intro wx hm
          exact ⟨by
            have e2 : takeNone st s = false := by
              unfold takeNone
              rw [hz, Bool.and_false]
            have e1 : takeGood st s = false := by
              unfold takeGood
              rw [show (packE st (takeR s) == 0) = false from beq_eq_false_iff_ne.2 (bne_iff_ne.1 d5), Bool.and_false, Bool.false_and]
            unfold unpackR unpackE
            rw [e1, e2]
            rfl, hm.kept⟩
        · skip
          refine holds_go _ _ (ru_s33 st s w g13 z29) ⟨d5, d5, d5, d5, trivial⟩ ?_
          rcases Bool.eq_false_or_eq_true (ByteArray.toList (packT st (takeR s)) == ByteArray.toList s) with d6 | d6
          · skip
            refine holds_go _ _ (ru_s34 st s w g13 z29) ⟨(by rw [d6]; rfl), trivial⟩ ?_
            refine holds_ret [[⟨false, 0, 0, 10⟩]] (by kernel_rfl) (ru_r35 s w g13) ?_
            intro wx hm
            exact ⟨by
              have e2 : takeNone st s = false := by
                unfold takeNone
                rw [hz, Bool.and_false]
              have e1 : takeGood st s = true := by
                unfold takeGood
                rw [hz, beq_iff_eq.2 h3, decide_eq_true (show 0 ≤ st by omega), decide_eq_true (show st < 8 by omega), d6, show (packE st (takeR s) == 0) = true from beq_iff_eq.2 (bne_eq_false_iff_eq.1 d5)]
                rfl
              unfold unpackR unpackE
              rw [e1, e2]
              rw [cond_true, Bool.true_or, cond_true, hT]
              rfl, hm.kept⟩
          · skip
            refine holds_go _ _ (ru_s36 st s w g13 z29) ⟨(by rw [d6]; rfl), trivial⟩ ?_
            refine holds_ret [[⟨false, 0, 0, 10⟩]] (by kernel_rfl) (ru_r37 s w g13) ?_
            intro wx hm
            exact ⟨by
              have e2 : takeNone st s = false := by
                unfold takeNone
                rw [hz, Bool.and_false]
              have e1 : takeGood st s = false := by
                unfold takeGood
                rw [d6, Bool.and_false]
              unfold unpackR unpackE
              rw [e1, e2]
              rfl, hm.kept⟩
    · skip
      refine holds_go _ _ (ru_s38 st s w g13 y13) ⟨d1, trivial⟩ ?_
      rcases Bool.eq_false_or_eq_true (openS s) with d7 | d7
      · skip
        refine holds_go _ _ (ru_s39 st s w g13 y13) ⟨d7, ⟨by omega, by omega, by omega⟩, trivial⟩ ?_
        have hT : (takeR s).cells = (ru_v7 s) := takeR_cells d1 d7
        refine holds_callP (.tuple #[.string (packT st (takeR s)), .int .i64 (packE st (takeR s))]) (ru_c40 st s w g13) trivial rfl (fun wx hm => refPack_cells st (takeR s) hT wx) fun z40 hz40 => ?_
        replace hz40 : y13 ≤ z40 := hz40
        refine holds_go _ _ (ru_s41 st s w g13 z40) trivial ?_
        rcases Bool.eq_false_or_eq_true ((packE st (takeR s)) != 0) with d8 | d8
        · skip
          refine holds_go _ _ (ru_s42 st s w g13 z40) ⟨d8, d8, d8, d8, rfl, trivial⟩ ?_
          refine holds_ret [[⟨false, 0, 0, 10⟩]] (by kernel_rfl) (ru_r43 s w g13) ?_
          intro wx hm
          exact ⟨by
            have e2 : takeNone st s = false := by
              unfold takeNone
              rw [hz, Bool.and_false]
            have e1 : takeGood st s = false := by
              unfold takeGood
              rw [show (packE st (takeR s) == 0) = false from beq_eq_false_iff_ne.2 (bne_iff_ne.1 d8), Bool.and_false, Bool.false_and]
            unfold unpackR unpackE
            rw [e1, e2]
            rfl, hm.kept⟩
        · skip
          refine holds_go _ _ (ru_s44 st s w g13 z40) ⟨d8, d8, d8, d8, trivial⟩ ?_
          rcases Bool.eq_false_or_eq_true (ByteArray.toList (packT st (takeR s)) == ByteArray.toList s) with d9 | d9
          · skip
            refine holds_go _ _ (ru_s45 st s w g13 z40) ⟨(by rw [d9]; rfl), trivial⟩ ?_
            refine holds_ret [[⟨false, 0, 0, 10⟩]] (by kernel_rfl) (ru_r46 s w g13) ?_
            intro wx hm
            exact ⟨by
              have e2 : takeNone st s = false := by
                unfold takeNone
                rw [hz, Bool.and_false]
              have e1 : takeGood st s = true := by
                unfold takeGood
                rw [hz, beq_iff_eq.2 h3, decide_eq_true (show 0 ≤ st by omega), decide_eq_true (show st < 8 by omega), d9, show (packE st (takeR s) == 0) = true from beq_iff_eq.2 (bne_eq_false_iff_eq.1 d8)]
                rfl
              unfold unpackR unpackE
              rw [e1, e2]
              rw [cond_true, Bool.true_or, cond_true, hT]
              rfl, hm.kept⟩
          · skip
            refine holds_go _ _ (ru_s47 st s w g13 z40) ⟨(by rw [d9]; rfl), trivial⟩ ?_
            refine holds_ret [[⟨false, 0, 0, 10⟩]] (by kernel_rfl) (ru_r48 s w g13) ?_
            intro wx hm
            exact ⟨by
              have e2 : takeNone st s = false := by
                unfold takeNone
                rw [hz, Bool.and_false]
              have e1 : takeGood st s = false := by
                unfold takeGood
                rw [d9, Bool.and_false]
              unfold unpackR unpackE
              rw [e1, e2]
              rfl, hm.kept⟩
      · skip
        refine holds_go _ _ (ru_s49 st s w g13 y13) ⟨d7, trivial⟩ ?_
        have hT : (takeR s).cells = (ru_v4 s) := takeR_cells d1 d7
        refine holds_callP (.tuple #[.string (packT st (takeR s)), .int .i64 (packE st (takeR s))]) (ru_c50 st s w g13) trivial rfl (fun wx hm => refPack_cells st (takeR s) hT wx) fun z50 hz50 => ?_
        replace hz50 : y13 ≤ z50 := hz50
        refine holds_go _ _ (ru_s51 st s w g13 z50) trivial ?_
        rcases Bool.eq_false_or_eq_true ((packE st (takeR s)) != 0) with d10 | d10
        · skip
          refine holds_go _ _ (ru_s52 st s w g13 z50) ⟨d10, d10, d10, d10, rfl, trivial⟩ ?_
          refine holds_ret [[⟨false, 0, 0, 10⟩]] (by kernel_rfl) (ru_r53 s w g13) ?_
          intro wx hm
          exact ⟨by
            have e2 : takeNone st s = false := by
              unfold takeNone
              rw [hz, Bool.and_false]
            have e1 : takeGood st s = false := by
              unfold takeGood
              rw [show (packE st (takeR s) == 0) = false from beq_eq_false_iff_ne.2 (bne_iff_ne.1 d10), Bool.and_false, Bool.false_and]
            unfold unpackR unpackE
            rw [e1, e2]
            rfl, hm.kept⟩
        · skip
          refine holds_go _ _ (ru_s54 st s w g13 z50) ⟨d10, d10, d10, d10, trivial⟩ ?_
          rcases Bool.eq_false_or_eq_true (ByteArray.toList (packT st (takeR s)) == ByteArray.toList s) with d11 | d11
          · skip
            refine holds_go _ _ (ru_s55 st s w g13 z50) ⟨(by rw [d11]; rfl), trivial⟩ ?_
            refine holds_ret [[⟨false, 0, 0, 10⟩]] (by kernel_rfl) (ru_r56 s w g13) ?_
            intro wx hm
            exact ⟨by
              have e2 : takeNone st s = false := by
                unfold takeNone
                rw [hz, Bool.and_false]
              have e1 : takeGood st s = true := by
                unfold takeGood
                rw [hz, beq_iff_eq.2 h3, decide_eq_true (show 0 ≤ st by omega), decide_eq_true (show st < 8 by omega), d11, show (packE st (takeR s) == 0) = true from beq_iff_eq.2 (bne_eq_false_iff_eq.1 d10)]
                rfl
              unfold unpackR unpackE
              rw [e1, e2]
              rw [cond_true, Bool.true_or, cond_true, hT]
              rfl, hm.kept⟩
          · skip
            refine holds_go _ _ (ru_s57 st s w g13 z50) ⟨(by rw [d11]; rfl), trivial⟩ ?_
            refine holds_ret [[⟨false, 0, 0, 10⟩]] (by kernel_rfl) (ru_r58 s w g13) ?_
            intro wx hm
            exact ⟨by
              have e2 : takeNone st s = false := by
                unfold takeNone
                rw [hz, Bool.and_false]
              have e1 : takeGood st s = false := by
                unfold takeGood
                rw [d11, Bool.and_false]
              unfold unpackR unpackE
              rw [e1, e2]
              rfl, hm.kept⟩
  have H1 : ∀ (g13 y13 : Nat), w.heap.size + 2 ≤ g13 → w.heap.size + 2 ≤ y13 → Holds [] Try.prog (bodyOf Try.f13) 83 w (fun _ => False) (bodyPost Try.prog Try.f13 (RetK (.tuple #[.agg (unpackR st s).cells.toArray, .int .i64 (unpackE st s)]) w)) (.any [1, 1, 1, 0] 1 #[true, true, true, true, true, true, true, true, true, true, true, true, true, true, true, true, true, true, true, true, true, true, true, true, true, true, true, true, true, true, true, true, true, false] :: [.code [1, 1, 1, 1]]) ⟨[(6, .pointer (some ⟨g13, 0, none⟩)), (0, .int .i64 st), (1, .string s), (4, .pointer (some ⟨w.heap.size, 0, none⟩)), (5, .int .i64 0), (57, .agg (List.toArray (ru_v3 s)))], [⟨w.heap.size, 25, true, (ru_v1)⟩, ⟨w.heap.size + 1, 5, true, (ru_v2)⟩, ⟨g13, 25, true, (ru_v1)⟩], [], y13⟩ := by
    intro g13 y13 hg13 hy13
    refine holds_tail panicOk_body _ _ (ru_t14 st s w g13 y13) trivial ?_
    refine holds_done (by kernel_rfl) ?_
    exact HZ g13 _ (by omega) (by omega)
  refine holds_float (fl := 32) (t := 25) (d := 6) (cs := (ru_v1)) (ls0 := #[true, true, true, true, true, true, true, true, true, true, true, true, true, true, true, true, true, true, true, true, true, true, true, true, true, true, true, true, true, true, true, true, false, false]) (ls1 := #[true, true, true, true, true, true, true, true, true, true, true, true, true, true, true, true, true, true, true, true, true, true, true, true, true, true, true, true, true, true, true, true, true, false]) (f := 1) 32 _ _ (by kernel_rfl) (by kernel_rfl) (by kernel_rfl) (by kernel_rfl) (by decide) (by kernel_rfl) (by kernel_rfl) (by kernel_rfl) (ru_q13 st s w) ⟨⟨by omega, by omega⟩, in64 (by omega), ⟨by omega, by omega⟩, ⟨by omega, by omega⟩, in64 (by omega), ⟨by omega, by omega, le_max64 (by omega)⟩, ⟨by omega, by omega⟩, ⟨by omega, by omega⟩, (fun wx hm => num_at s 3 (by omega) wx), ⟨by omega, by omega⟩, (fun wx hm => num_at s 6 (by omega) wx), ⟨by omega, by omega⟩, (fun wx hm => num_at s 9 (by omega) wx), ⟨by omega, by omega⟩, (fun wx hm => num_at s 12 (by omega) wx), ⟨by omega, by omega⟩, (fun wx hm => num_at s 15 (by omega) wx), ⟨by omega, by omega⟩, in64 (by omega), trivial⟩ H1 ?_
  intro y13 hy13
  replace hy13 : w.heap.size + 2 ≤ y13 := hy13
  refine holds_tail panicOk_body _ _ (ru_t15 st s w y13) trivial ?_
  refine holds_done (by kernel_rfl) ?_
  exact HZ _ _ (by omega) (by omega)

end Go.Proofs.Ytpcdccljioiiaaa
