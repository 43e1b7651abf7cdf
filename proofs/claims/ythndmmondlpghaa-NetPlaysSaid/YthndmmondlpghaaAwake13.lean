/- Layer 13's law: the first calls. -/
import Derived.Test.YthndmmondlpghaaNet2
import Derived.Test.YthndmmondlpghaaNetO
namespace Go.Proofs.Ythndmmondlpghaa
open Go.RowKit

theorem aw_l1 : sendL [] ⟨#[98]⟩ = [[98]] := by
  unfold sendL
  rw [if_pos (by decide)]
  exact ins_perm (by unfold Srt; decide) (by decide)
theorem aw_l2 : sendL [[98]] ⟨#[97]⟩ = [[97], [98]] := by
  unfold sendL
  rw [if_pos (by decide)]
  exact ins_perm (by unfold Srt; decide) (by decide)
theorem aw_l3 : sendL [[97], [98]] ⟨#[98]⟩ = [[97], [98], [98]] := by
  unfold sendL
  rw [if_pos (by decide)]
  exact ins_perm (by unfold Srt; decide) (by decide)
theorem aw_l4 : takeL [[97], [98], [98]] 1 = [[97], [98]] := rfl
theorem aw_l5 : copyL [[97], [98]] 0 = [[97], [97], [98]] := by
  show sendL [[97], [98]] ⟨#[97]⟩ = _
  unfold sendL
  rw [if_pos (by decide)]
  exact ins_perm (by unfold Srt; decide) (by decide)
theorem awk_s1 (w : World) : Res.prune [0] [] (exec Try.prog (bodyOf Try.f8) 87 9 [⟨false, 0, []⟩] [.code []] ⟨[], [], [], w.heap.size⟩) = some ⟨[], dupR [], [.ops [1, 0] [0, 1], .code [1, 1]], ⟨[(0, .bool false)], [], [], w.heap.size⟩⟩ := by kernel_rfl
theorem awk_c2 : callAt Try.prog (opsOf (getCode (bodyOf Try.f8) [1, 0])) [(0, .bool false)] 0 = some (9, [], some 13, []) := by kernel_rfl
theorem awk_s3 (nb : Nat) (W1 : World) : Res.prune [0, 1, 16] [] (exec Try.prog (bodyOf Try.f8) 87 16 [⟨false, 0, []⟩, ⟨false, 0, []⟩, ⟨false, 0, []⟩, ⟨false, 0, []⟩, ⟨false, 0, []⟩] [.ops [1, 0] [1], .code [1, 1]] ⟨[(13, .pointer (some ⟨nb, 0, none⟩)), (0, .bool false)], [], [], W1.heap.size⟩) = some ⟨[false = false], dupR [], [.ops [1, 1, 1, 0] [1], .code [1, 1, 1, 1]], ⟨[(0, .bool false), (1, .pointer (some ⟨nb, 0, none⟩)), (16, .pointer (some ⟨nb, 0, none⟩))], [], [], W1.heap.size⟩⟩ := by kernel_rfl
theorem awk_c4 (nb : Nat) : callAt Try.prog (opsOf (getCode (bodyOf Try.f8) [1, 1, 1, 0])) [(0, .bool false), (1, .pointer (some ⟨nb, 0, none⟩)), (16, .pointer (some ⟨nb, 0, none⟩))] 1 = some (11, [.pointer (some ⟨nb, 0, none⟩), .string ⟨#[98]⟩], some 17, []) := by kernel_rfl
theorem awk_s5 (nb : Nat) (W2 : World) : Res.prune [0, 1, 18] [] (exec Try.prog (bodyOf Try.f8) 87 7 [⟨false, 0, []⟩] [.ops [1, 1, 1, 0] [], .code [1, 1, 1, 1]] ⟨[(17, .bool true), (0, .bool false), (1, .pointer (some ⟨nb, 0, none⟩)), (16, .pointer (some ⟨nb, 0, none⟩))], [], [], W2.heap.size⟩) = some ⟨[], dupR [], [.ops [1, 1, 1, 1, 0] [1], .code [1, 1, 1, 1, 1]], ⟨[(0, .bool false), (1, .pointer (some ⟨nb, 0, none⟩)), (18, .pointer (some ⟨nb, 0, none⟩))], [], [], W2.heap.size⟩⟩ := by kernel_rfl
theorem awk_c6 (nb : Nat) : callAt Try.prog (opsOf (getCode (bodyOf Try.f8) [1, 1, 1, 1, 0])) [(0, .bool false), (1, .pointer (some ⟨nb, 0, none⟩)), (18, .pointer (some ⟨nb, 0, none⟩))] 1 = some (11, [.pointer (some ⟨nb, 0, none⟩), .string ⟨#[97]⟩], some 19, []) := by kernel_rfl
theorem awk_s7 (nb : Nat) (W3 : World) : Res.prune [0, 1, 20] [] (exec Try.prog (bodyOf Try.f8) 87 7 [⟨false, 0, []⟩] [.ops [1, 1, 1, 1, 0] [], .code [1, 1, 1, 1, 1]] ⟨[(19, .bool true), (0, .bool false), (1, .pointer (some ⟨nb, 0, none⟩)), (18, .pointer (some ⟨nb, 0, none⟩))], [], [], W3.heap.size⟩) = some ⟨[], dupR [], [.ops [1, 1, 1, 1, 1, 0] [1], .code [1, 1, 1, 1, 1, 1]], ⟨[(0, .bool false), (1, .pointer (some ⟨nb, 0, none⟩)), (20, .pointer (some ⟨nb, 0, none⟩))], [], [], W3.heap.size⟩⟩ := by kernel_rfl
theorem awk_c8 (nb : Nat) : callAt Try.prog (opsOf (getCode (bodyOf Try.f8) [1, 1, 1, 1, 1, 0])) [(0, .bool false), (1, .pointer (some ⟨nb, 0, none⟩)), (20, .pointer (some ⟨nb, 0, none⟩))] 1 = some (11, [.pointer (some ⟨nb, 0, none⟩), .string ⟨#[98]⟩], some 21, []) := by kernel_rfl
theorem awk_s9 (nb : Nat) (W4 : World) : Res.prune [0, 1, 23] [] (exec Try.prog (bodyOf Try.f8) 87 7 [⟨false, 0, []⟩] [.ops [1, 1, 1, 1, 1, 0] [], .code [1, 1, 1, 1, 1, 1]] ⟨[(21, .bool true), (0, .bool false), (1, .pointer (some ⟨nb, 0, none⟩)), (20, .pointer (some ⟨nb, 0, none⟩))], [], [], W4.heap.size⟩) = some ⟨[], dupR [], [.ops [1, 1, 1, 1, 1, 1, 0] [1, 2, 3, 4, 5, 6], .code [1, 1, 1, 1, 1, 1, 1]], ⟨[(0, .bool false), (1, .pointer (some ⟨nb, 0, none⟩)), (23, .pointer (some ⟨nb, 0, none⟩))], [], [], W4.heap.size⟩⟩ := by kernel_rfl
theorem awk_c10 (nb : Nat) : callAt Try.prog (opsOf (getCode (bodyOf Try.f8) [1, 1, 1, 1, 1, 1, 0])) [(0, .bool false), (1, .pointer (some ⟨nb, 0, none⟩)), (23, .pointer (some ⟨nb, 0, none⟩))] 1 = some (14, [.pointer (some ⟨nb, 0, none⟩), .int .i64 0], some 24, []) := by kernel_rfl
theorem awk_s11 (nb : Nat) (z10 : Nat) : Res.prune [0, 1, 2, 3, 28] [] (exec Try.prog (bodyOf Try.f8) 87 12 [⟨false, 0, []⟩, ⟨false, 0, []⟩, ⟨false, 0, []⟩, ⟨false, 0, []⟩, ⟨false, 0, []⟩, ⟨false, 0, []⟩] [.ops [1, 1, 1, 1, 1, 1, 0] [2, 3, 4, 5, 6], .code [1, 1, 1, 1, 1, 1, 1]] ⟨[(24, .tuple #[.string ⟨#[97]⟩, .bool true]), (0, .bool false), (1, .pointer (some ⟨nb, 0, none⟩)), (23, .pointer (some ⟨nb, 0, none⟩))], [], [], z10⟩) = some ⟨[], dupR [], [.ops [1, 1, 1, 1, 1, 1, 1, 0] [1, 2, 3, 4, 5, 6], .code [1, 1, 1, 1, 1, 1, 1, 1]], ⟨[(0, .bool false), (1, .pointer (some ⟨nb, 0, none⟩)), (2, .string ⟨#[97]⟩), (3, .bool true), (28, .pointer (some ⟨nb, 0, none⟩))], [], [], z10⟩⟩ := by kernel_rfl
theorem awk_c12 (nb : Nat) : callAt Try.prog (opsOf (getCode (bodyOf Try.f8) [1, 1, 1, 1, 1, 1, 1, 0])) [(0, .bool false), (1, .pointer (some ⟨nb, 0, none⟩)), (2, .string ⟨#[97]⟩), (3, .bool true), (28, .pointer (some ⟨nb, 0, none⟩))] 1 = some (14, [.pointer (some ⟨nb, 0, none⟩), .int .i64 2], some 29, []) := by kernel_rfl
theorem awk_s13 (nb : Nat) (z12 : Nat) : Res.prune [0, 1, 2, 3, 4, 5, 33] [] (exec Try.prog (bodyOf Try.f8) 87 12 [⟨false, 0, []⟩, ⟨false, 0, []⟩, ⟨false, 0, []⟩, ⟨false, 0, []⟩, ⟨false, 0, []⟩, ⟨false, 0, []⟩] [.ops [1, 1, 1, 1, 1, 1, 1, 0] [2, 3, 4, 5, 6], .code [1, 1, 1, 1, 1, 1, 1, 1]] ⟨[(29, .tuple #[.string ⟨#[98]⟩, .bool true]), (0, .bool false), (1, .pointer (some ⟨nb, 0, none⟩)), (2, .string ⟨#[97]⟩), (3, .bool true), (28, .pointer (some ⟨nb, 0, none⟩))], [], [], z12⟩) = some ⟨[], dupR [], [.ops [1, 1, 1, 1, 1, 1, 1, 1, 0] [1, 2, 3, 4, 5, 6], .code [1, 1, 1, 1, 1, 1, 1, 1, 1]], ⟨[(0, .bool false), (1, .pointer (some ⟨nb, 0, none⟩)), (2, .string ⟨#[97]⟩), (3, .bool true), (4, .string ⟨#[98]⟩), (5, .bool true), (33, .pointer (some ⟨nb, 0, none⟩))], [], [], z12⟩⟩ := by kernel_rfl
theorem awk_c14 (nb : Nat) : callAt Try.prog (opsOf (getCode (bodyOf Try.f8) [1, 1, 1, 1, 1, 1, 1, 1, 0])) [(0, .bool false), (1, .pointer (some ⟨nb, 0, none⟩)), (2, .string ⟨#[97]⟩), (3, .bool true), (4, .string ⟨#[98]⟩), (5, .bool true), (33, .pointer (some ⟨nb, 0, none⟩))] 1 = some (13, [.pointer (some ⟨nb, 0, none⟩), .int .i64 1], some 34, []) := by kernel_rfl
theorem awk_s15 (nb : Nat) (W5 : World) : Res.prune [0, 1, 2, 3, 4, 5, 6, 7, 37] [] (exec Try.prog (bodyOf Try.f8) 87 12 [⟨false, 0, []⟩, ⟨false, 0, []⟩, ⟨false, 0, []⟩, ⟨false, 0, []⟩, ⟨false, 0, []⟩, ⟨false, 0, []⟩] [.ops [1, 1, 1, 1, 1, 1, 1, 1, 0] [2, 3, 4, 5, 6], .code [1, 1, 1, 1, 1, 1, 1, 1, 1]] ⟨[(34, .tuple #[.string ⟨#[98]⟩, .bool true]), (0, .bool false), (1, .pointer (some ⟨nb, 0, none⟩)), (2, .string ⟨#[97]⟩), (3, .bool true), (4, .string ⟨#[98]⟩), (5, .bool true), (33, .pointer (some ⟨nb, 0, none⟩))], [], [], W5.heap.size⟩) = some ⟨[], dupR [], [.ops [1, 1, 1, 1, 1, 1, 1, 1, 1, 0] [1, 2], .code [1, 1, 1, 1, 1, 1, 1, 1, 1, 1]], ⟨[(0, .bool false), (1, .pointer (some ⟨nb, 0, none⟩)), (2, .string ⟨#[97]⟩), (3, .bool true), (4, .string ⟨#[98]⟩), (5, .bool true), (6, .string ⟨#[98]⟩), (7, .bool true), (37, .pointer (some ⟨nb, 0, none⟩))], [], [], W5.heap.size⟩⟩ := by kernel_rfl
theorem awk_c16 (nb : Nat) : callAt Try.prog (opsOf (getCode (bodyOf Try.f8) [1, 1, 1, 1, 1, 1, 1, 1, 1, 0])) [(0, .bool false), (1, .pointer (some ⟨nb, 0, none⟩)), (2, .string ⟨#[97]⟩), (3, .bool true), (4, .string ⟨#[98]⟩), (5, .bool true), (6, .string ⟨#[98]⟩), (7, .bool true), (37, .pointer (some ⟨nb, 0, none⟩))] 1 = some (19, [.pointer (some ⟨nb, 0, none⟩), .int .i64 0], some 38, []) := by kernel_rfl
theorem awk_s17 (nb : Nat) (W6 : World) : Res.prune [0, 1, 2, 3, 4, 5, 6, 7, 8, 40] [] (exec Try.prog (bodyOf Try.f8) 87 8 [⟨false, 0, []⟩, ⟨false, 0, []⟩] [.ops [1, 1, 1, 1, 1, 1, 1, 1, 1, 0] [2], .code [1, 1, 1, 1, 1, 1, 1, 1, 1, 1]] ⟨[(38, .bool true), (0, .bool false), (1, .pointer (some ⟨nb, 0, none⟩)), (2, .string ⟨#[97]⟩), (3, .bool true), (4, .string ⟨#[98]⟩), (5, .bool true), (6, .string ⟨#[98]⟩), (7, .bool true), (37, .pointer (some ⟨nb, 0, none⟩))], [], [], W6.heap.size⟩) = some ⟨[], dupR [], [.ops [1, 1, 1, 1, 1, 1, 1, 1, 1, 1, 0] [1, 2, 3, 4, 5, 6], .code [1, 1, 1, 1, 1, 1, 1, 1, 1, 1, 1]], ⟨[(0, .bool false), (1, .pointer (some ⟨nb, 0, none⟩)), (2, .string ⟨#[97]⟩), (3, .bool true), (4, .string ⟨#[98]⟩), (5, .bool true), (6, .string ⟨#[98]⟩), (7, .bool true), (8, .bool true), (40, .pointer (some ⟨nb, 0, none⟩))], [], [], W6.heap.size⟩⟩ := by kernel_rfl
theorem awk_c18 (nb : Nat) : callAt Try.prog (opsOf (getCode (bodyOf Try.f8) [1, 1, 1, 1, 1, 1, 1, 1, 1, 1, 0])) [(0, .bool false), (1, .pointer (some ⟨nb, 0, none⟩)), (2, .string ⟨#[97]⟩), (3, .bool true), (4, .string ⟨#[98]⟩), (5, .bool true), (6, .string ⟨#[98]⟩), (7, .bool true), (8, .bool true), (40, .pointer (some ⟨nb, 0, none⟩))] 1 = some (14, [.pointer (some ⟨nb, 0, none⟩), .int .i64 1], some 41, []) := by kernel_rfl
theorem awk_s19 (nb : Nat) (z18 : Nat) : Res.prune [0, 1, 2, 3, 4, 5, 6, 7, 8, 9, 10, 45] [] (exec Try.prog (bodyOf Try.f8) 87 12 [⟨false, 0, []⟩, ⟨false, 0, []⟩, ⟨false, 0, []⟩, ⟨false, 0, []⟩, ⟨false, 0, []⟩, ⟨false, 0, []⟩] [.ops [1, 1, 1, 1, 1, 1, 1, 1, 1, 1, 0] [2, 3, 4, 5, 6], .code [1, 1, 1, 1, 1, 1, 1, 1, 1, 1, 1]] ⟨[(41, .tuple #[.string ⟨#[97]⟩, .bool true]), (0, .bool false), (1, .pointer (some ⟨nb, 0, none⟩)), (2, .string ⟨#[97]⟩), (3, .bool true), (4, .string ⟨#[98]⟩), (5, .bool true), (6, .string ⟨#[98]⟩), (7, .bool true), (8, .bool true), (40, .pointer (some ⟨nb, 0, none⟩))], [], [], z18⟩) = some ⟨[], dupR [], [.ops [1, 1, 1, 1, 1, 1, 1, 1, 1, 1, 1, 0] [1, 2, 3, 4, 5, 6], .code [1, 1, 1, 1, 1, 1, 1, 1, 1, 1, 1, 1]], ⟨[(0, .bool false), (1, .pointer (some ⟨nb, 0, none⟩)), (2, .string ⟨#[97]⟩), (3, .bool true), (4, .string ⟨#[98]⟩), (5, .bool true), (6, .string ⟨#[98]⟩), (7, .bool true), (8, .bool true), (9, .string ⟨#[97]⟩), (10, .bool true), (45, .pointer (some ⟨nb, 0, none⟩))], [], [], z18⟩⟩ := by kernel_rfl
theorem awk_c20 (nb : Nat) : callAt Try.prog (opsOf (getCode (bodyOf Try.f8) [1, 1, 1, 1, 1, 1, 1, 1, 1, 1, 1, 0])) [(0, .bool false), (1, .pointer (some ⟨nb, 0, none⟩)), (2, .string ⟨#[97]⟩), (3, .bool true), (4, .string ⟨#[98]⟩), (5, .bool true), (6, .string ⟨#[98]⟩), (7, .bool true), (8, .bool true), (9, .string ⟨#[97]⟩), (10, .bool true), (45, .pointer (some ⟨nb, 0, none⟩))] 1 = some (14, [.pointer (some ⟨nb, 0, none⟩), .int .i64 3], some 46, []) := by kernel_rfl
theorem awk_s21 (nb : Nat) (z20 : Nat) : Res.prune [0, 82, 83] [] (exec Try.prog (bodyOf Try.f8) 87 46 [⟨false, 0, []⟩, ⟨false, 0, []⟩, ⟨false, 0, []⟩, ⟨false, 0, []⟩, ⟨false, 0, []⟩, ⟨false, 0, []⟩, ⟨false, 0, []⟩, ⟨false, 0, []⟩, ⟨true, 0, []⟩, ⟨false, 2, []⟩, ⟨false, 0, []⟩, ⟨true, 0, []⟩, ⟨true, 0, []⟩, ⟨false, 2, []⟩, ⟨false, 0, []⟩, ⟨true, 0, []⟩, ⟨false, 2, []⟩, ⟨false, 0, []⟩, ⟨true, 0, []⟩, ⟨true, 0, []⟩, ⟨false, 2, []⟩, ⟨false, 0, []⟩, ⟨true, 0, []⟩, ⟨false, 2, []⟩, ⟨false, 0, []⟩, ⟨true, 0, []⟩, ⟨false, 2, []⟩, ⟨false, 0, []⟩, ⟨true, 0, []⟩, ⟨true, 0, []⟩, ⟨false, 2, []⟩, ⟨false, 0, []⟩, ⟨true, 0, []⟩, ⟨false, 2, []⟩, ⟨false, 0, []⟩, ⟨true, 0, []⟩, ⟨true, 0, []⟩, ⟨false, 2, []⟩, ⟨false, 0, []⟩, ⟨true, 0, []⟩] [.ops [1, 1, 1, 1, 1, 1, 1, 1, 1, 1, 1, 0] [2, 3, 4, 5, 6], .code [1, 1, 1, 1, 1, 1, 1, 1, 1, 1, 1, 1]] ⟨[(46, .tuple #[.string ⟨#[]⟩, .bool false]), (0, .bool false), (1, .pointer (some ⟨nb, 0, none⟩)), (2, .string ⟨#[97]⟩), (3, .bool true), (4, .string ⟨#[98]⟩), (5, .bool true), (6, .string ⟨#[98]⟩), (7, .bool true), (8, .bool true), (9, .string ⟨#[97]⟩), (10, .bool true), (45, .pointer (some ⟨nb, 0, none⟩))], [], [], z20⟩) = some ⟨[(ByteArray.toList ⟨#[97]⟩ == ByteArray.toList ⟨#[97]⟩) = true, (ByteArray.toList ⟨#[97]⟩ == ByteArray.toList ⟨#[97]⟩) = true, true = true, true = true, true = true, (ByteArray.toList ⟨#[98]⟩ == ByteArray.toList ⟨#[98]⟩) = true, (ByteArray.toList ⟨#[98]⟩ == ByteArray.toList ⟨#[98]⟩) = true, true = true, true = true, true = true, (ByteArray.toList ⟨#[98]⟩ == ByteArray.toList ⟨#[98]⟩) = true, (ByteArray.toList ⟨#[98]⟩ == ByteArray.toList ⟨#[98]⟩) = true, true = true, true = true, true = true, true = true, true = true, (ByteArray.toList ⟨#[97]⟩ == ByteArray.toList ⟨#[97]⟩) = true, (ByteArray.toList ⟨#[97]⟩ == ByteArray.toList ⟨#[97]⟩) = true, true = true, true = true, true = true, true = true], dupR [], [.ops [1, 1, 1, 1, 1, 1, 1, 1, 1, 1, 1, 1, 0] [35, 36, 37, 38], .code [1, 1, 1, 1, 1, 1, 1, 1, 1, 1, 1, 1, 1]], ⟨[(0, .bool false), (82, .bool true), (83, .pointer (some ⟨nb, 0, none⟩))], [], [], z20⟩⟩ := by kernel_rfl
theorem awk_c22 (nb : Nat) : callAt Try.prog (opsOf (getCode (bodyOf Try.f8) [1, 1, 1, 1, 1, 1, 1, 1, 1, 1, 1, 1, 0])) [(0, .bool false), (82, .bool true), (83, .pointer (some ⟨nb, 0, none⟩))] 35 = some (12, [.pointer (some ⟨nb, 0, none⟩)], some 84, [true = true]) := by kernel_rfl
theorem awk_s23 (nb : Nat) (z22 : Nat) : Res.prune [0] [] (exec Try.prog (bodyOf Try.f8) 87 7 [⟨true, 0, []⟩, ⟨false, 2, []⟩, ⟨false, 0, []⟩] [.ops [1, 1, 1, 1, 1, 1, 1, 1, 1, 1, 1, 1, 0] [36, 37, 38], .code [1, 1, 1, 1, 1, 1, 1, 1, 1, 1, 1, 1, 1]] ⟨[(84, .int .i64 3), (0, .bool false), (82, .bool true), (83, .pointer (some ⟨nb, 0, none⟩))], [], [], z22⟩) = some ⟨[true = true, true = true], dupR [], [.code [1, 1, 1, 1, 1, 1, 1, 1, 1, 1, 1, 1, 1]], ⟨[(0, .bool true)], [], [], z22⟩⟩ := by kernel_rfl
theorem awk_r24 : resL Try.prog [] [] [(0, .bool true)] Try.f8.results.toList [] = some ([.bool true], dupR []) := by kernel_rfl
set_option maxRecDepth 100000 in
set_option maxHeartbeats 4000000 in
theorem awake13P  (w : World) :
    Calls Try.prog 8 #[] w (RetK (.bool true) w) := by
  refine calls_of_holds (S := (fun _ => False)) (l := []) (n := 87) Try.func8 (body_of (by kernel_rfl)) rfl (by simp) (MemOk.none w _) ?_
  refine holds_go _ _ (awk_s1 w) trivial ?_
  refine holds_callW (w := w) (S' := (fun _ => False)) (Y := Nat × Nat) (fun (⟨nb, mb⟩ : Nat × Nat) => .pointer (some ⟨nb, 0, none⟩)) (fun (⟨nb, mb⟩ : Nat × Nat) => []) (fun (⟨nb, mb⟩ : Nat × Nat) W_ => (w.heap.size ≤ mb ∧ mb < nb) ∧ NetAt 43 W_ nb mb []) (fun (⟨nb, mb⟩ : Nat × Nat) => [(13, .pointer (some ⟨nb, 0, none⟩)), (0, .bool false)]) (awk_c2) trivial (fun _ => rfl) (fun wx hm => ?_) (fun y W1 hX1 hm1 => ?_)
  · refine (new_net wx).mono fun e w' ⟨nb', mb', he, h1, h2, h3, h4⟩ => ?_
    have hs : wx.heap.size = w.heap.size := hm.size
    exact ⟨(nb', mb'), he, ⟨⟨by omega, h2⟩, h3⟩, (hm.same h4).2⟩
  obtain ⟨nb, mb⟩ := y
  obtain ⟨hz_nb, hX1⟩ := hX1
  have hN1nb := hX1
  have hl_hN1nb := hN1nb.lt
  have hnT : ∀ xx, (xx = nb ∨ xx = mb) → ¬ Turned [] xx := by
    rintro xx hx2 ⟨b, hb, hr, he⟩
    simp at hb
  refine holds_go _ _ (awk_s3 nb W1) ⟨rfl, trivial⟩ ?_
  have hnB : ∀ b ∈ ([] : List Bk), ¬ (b.g = nb ∨ b.g = mb) := by
    intro b hb hx2
    simp at hb
  refine holds_callW (w := w) (S' := (fun _ => False)) (Y := Nat) (fun _ => .bool true) (fun _ => []) (fun _ W_ => NetAt 43 W_ nb mb [[98]]) (fun _ => [(17, .bool true), (0, .bool false), (1, .pointer (some ⟨nb, 0, none⟩)), (16, .pointer (some ⟨nb, 0, none⟩))]) (awk_c4 nb) trivial (fun _ => rfl) (fun wx hm => ?_) (fun _ W2 hX2 hm2 => ?_)
  · refine (send_net nb mb [] ⟨#[98]⟩ wx (hN1nb.kept hm.kept (hnT _ (by omega)) (hnT _ (by omega)))).mono fun e w' ⟨h1, h2, h3⟩ => ?_
    rw [aw_l1] at h2
    rw [show okS [] ⟨#[98]⟩ = true by decide] at h1
    exact ⟨0, h1, h2, (MemOk.back2 hm1 hm).offN (fun _ h => h) h3 (fun x h => .inr (by rcases h with h | h <;> omega)) (fun b hb h => hnB b hb (by rcases h with h | h <;> omega))⟩
  clear hnT hnB
  have hN2nb := hX2
  have hl_hN2nb := hN2nb.lt
  have hnT : ∀ xx, (xx = nb ∨ xx = mb) → ¬ Turned [] xx := by
    rintro xx hx2 ⟨b, hb, hr, he⟩
    simp at hb
  refine holds_go _ _ (awk_s5 nb W2) trivial ?_
  have hnB : ∀ b ∈ ([] : List Bk), ¬ (b.g = nb ∨ b.g = mb) := by
    intro b hb hx2
    simp at hb
  refine holds_callW (w := w) (S' := (fun _ => False)) (Y := Nat) (fun _ => .bool true) (fun _ => []) (fun _ W_ => NetAt 43 W_ nb mb [[97], [98]]) (fun _ => [(19, .bool true), (0, .bool false), (1, .pointer (some ⟨nb, 0, none⟩)), (18, .pointer (some ⟨nb, 0, none⟩))]) (awk_c6 nb) trivial (fun _ => rfl) (fun wx hm => ?_) (fun _ W3 hX3 hm3 => ?_)
  · refine (send_net nb mb [[98]] ⟨#[97]⟩ wx (hN2nb.kept hm.kept (hnT _ (by omega)) (hnT _ (by omega)))).mono fun e w' ⟨h1, h2, h3⟩ => ?_
    rw [aw_l2] at h2
    rw [show okS [[98]] ⟨#[97]⟩ = true by decide] at h1
    exact ⟨0, h1, h2, (MemOk.back2 hm2 hm).offN (fun _ h => h) h3 (fun x h => .inr (by rcases h with h | h <;> omega)) (fun b hb h => hnB b hb (by rcases h with h | h <;> omega))⟩
  clear hnT hnB
  have hN3nb := hX3
  have hl_hN3nb := hN3nb.lt
  have hnT : ∀ xx, (xx = nb ∨ xx = mb) → ¬ Turned [] xx := by
    rintro xx hx2 ⟨b, hb, hr, he⟩
    simp at hb
  refine holds_go _ _ (awk_s7 nb W3) trivial ?_
  have hnB : ∀ b ∈ ([] : List Bk), ¬ (b.g = nb ∨ b.g = mb) := by
    intro b hb hx2
    simp at hb
  refine holds_callW (w := w) (S' := (fun _ => False)) (Y := Nat) (fun _ => .bool true) (fun _ => []) (fun _ W_ => NetAt 43 W_ nb mb [[97], [98], [98]]) (fun _ => [(21, .bool true), (0, .bool false), (1, .pointer (some ⟨nb, 0, none⟩)), (20, .pointer (some ⟨nb, 0, none⟩))]) (awk_c8 nb) trivial (fun _ => rfl) (fun wx hm => ?_) (fun _ W4 hX4 hm4 => ?_)
  · refine (send_net nb mb [[97], [98]] ⟨#[98]⟩ wx (hN3nb.kept hm.kept (hnT _ (by omega)) (hnT _ (by omega)))).mono fun e w' ⟨h1, h2, h3⟩ => ?_
    rw [aw_l3] at h2
    rw [show okS [[97], [98]] ⟨#[98]⟩ = true by decide] at h1
    exact ⟨0, h1, h2, (MemOk.back2 hm3 hm).offN (fun _ h => h) h3 (fun x h => .inr (by rcases h with h | h <;> omega)) (fun b hb h => hnB b hb (by rcases h with h | h <;> omega))⟩
  clear hnT hnB
  have hN4nb := hX4
  have hl_hN4nb := hN4nb.lt
  have hnT : ∀ xx, (xx = nb ∨ xx = mb) → ¬ Turned [] xx := by
    rintro xx hx2 ⟨b, hb, hr, he⟩
    simp at hb
  refine holds_go _ _ (awk_s9 nb W4) trivial ?_
  refine holds_callP (.tuple #[.string ⟨#[97]⟩, .bool true]) (awk_c10 nb) trivial rfl (fun wx hm => look_net nb mb [[97], [98], [98]] 0 wx (hN4nb.kept hm.kept (hnT _ (by omega)) (hnT _ (by omega)))) fun z10 hz10 => ?_
  replace hz10 : W4.heap.size ≤ z10 := hz10
  refine holds_go _ _ (awk_s11 nb z10) trivial ?_
  refine holds_callP (.tuple #[.string ⟨#[98]⟩, .bool true]) (awk_c12 nb) trivial rfl (fun wx hm => look_net nb mb [[97], [98], [98]] 2 wx (hN4nb.kept hm.kept (hnT _ (by omega)) (hnT _ (by omega)))) fun z12 hz12 => ?_
  replace hz12 : z10 ≤ z12 := hz12
  refine holds_go _ _ (awk_s13 nb z12) trivial ?_
  have hnB : ∀ b ∈ ([] : List Bk), ¬ (b.g = nb ∨ b.g = mb) := by
    intro b hb hx2
    simp at hb
  refine holds_callW (w := w) (S' := (fun _ => False)) (Y := Nat) (fun _ => .tuple #[.string ⟨#[98]⟩, .bool true]) (fun _ => []) (fun _ W_ => NetAt 43 W_ nb mb [[97], [98]]) (fun _ => [(34, .tuple #[.string ⟨#[98]⟩, .bool true]), (0, .bool false), (1, .pointer (some ⟨nb, 0, none⟩)), (2, .string ⟨#[97]⟩), (3, .bool true), (4, .string ⟨#[98]⟩), (5, .bool true), (33, .pointer (some ⟨nb, 0, none⟩))]) (awk_c14 nb) trivial (fun _ => rfl) (fun wx hm => ?_) (fun _ W5 hX5 hm5 => ?_)
  · refine (take_net nb mb [[97], [98], [98]] 1 wx (hN4nb.kept hm.kept (hnT _ (by omega)) (hnT _ (by omega)))).mono fun e w' ⟨h1, h2, h3⟩ => ?_
    rw [aw_l4] at h2
    exact ⟨0, h1, h2, (MemOk.back2 hm4 hm).offN (fun _ h => h) h3 (fun x h => .inr (by rcases h with h | h <;> omega)) (fun b hb h => hnB b hb (by rcases h with h | h <;> omega))⟩
  clear hnT hnB
  have hN5nb := hX5
  have hl_hN5nb := hN5nb.lt
  have hnT : ∀ xx, (xx = nb ∨ xx = mb) → ¬ Turned [] xx := by
    rintro xx hx2 ⟨b, hb, hr, he⟩
    simp at hb
  refine holds_go _ _ (awk_s15 nb W5) trivial ?_
  have hnB : ∀ b ∈ ([] : List Bk), ¬ (b.g = nb ∨ b.g = mb) := by
    intro b hb hx2
    simp at hb
  refine holds_callW (w := w) (S' := (fun _ => False)) (Y := Nat) (fun _ => .bool true) (fun _ => []) (fun _ W_ => NetAt 43 W_ nb mb [[97], [97], [98]]) (fun _ => [(38, .bool true), (0, .bool false), (1, .pointer (some ⟨nb, 0, none⟩)), (2, .string ⟨#[97]⟩), (3, .bool true), (4, .string ⟨#[98]⟩), (5, .bool true), (6, .string ⟨#[98]⟩), (7, .bool true), (37, .pointer (some ⟨nb, 0, none⟩))]) (awk_c16 nb) trivial (fun _ => rfl) (fun wx hm => ?_) (fun _ W6 hX6 hm6 => ?_)
  · refine (copy_net nb mb [[97], [98]] 0 wx (hN5nb.kept hm.kept (hnT _ (by omega)) (hnT _ (by omega)))).mono fun e w' ⟨h1, h2, h3⟩ => ?_
    rw [aw_l5] at h2
    rw [show copyB [[97], [98]] 0 = true by decide] at h1
    exact ⟨0, h1, h2, (MemOk.back2 hm5 hm).offN (fun _ h => h) h3 (fun x h => .inr (by rcases h with h | h <;> omega)) (fun b hb h => hnB b hb (by rcases h with h | h <;> omega))⟩
  clear hnT hnB
  have hN6nb := hX6
  have hl_hN6nb := hN6nb.lt
  have hnT : ∀ xx, (xx = nb ∨ xx = mb) → ¬ Turned [] xx := by
    rintro xx hx2 ⟨b, hb, hr, he⟩
    simp at hb
  refine holds_go _ _ (awk_s17 nb W6) trivial ?_
  refine holds_callP (.tuple #[.string ⟨#[97]⟩, .bool true]) (awk_c18 nb) trivial rfl (fun wx hm => look_net nb mb [[97], [97], [98]] 1 wx (hN6nb.kept hm.kept (hnT _ (by omega)) (hnT _ (by omega)))) fun z18 hz18 => ?_
  replace hz18 : W6.heap.size ≤ z18 := hz18
  refine holds_go _ _ (awk_s19 nb z18) trivial ?_
  refine holds_callP (.tuple #[.string ⟨#[]⟩, .bool false]) (awk_c20 nb) trivial rfl (fun wx hm => look_net nb mb [[97], [97], [98]] 3 wx (hN6nb.kept hm.kept (hnT _ (by omega)) (hnT _ (by omega)))) fun z20 hz20 => ?_
  replace hz20 : z18 ≤ z20 := hz20
  refine holds_go _ _ (awk_s21 nb z20) ⟨beq_self_eq_true _, beq_self_eq_true _, rfl, rfl, rfl, beq_self_eq_true _, beq_self_eq_true _, rfl, rfl, rfl, beq_self_eq_true _, beq_self_eq_true _, rfl, rfl, rfl, rfl, rfl, beq_self_eq_true _, beq_self_eq_true _, rfl, rfl, rfl, rfl, trivial⟩ ?_
  refine holds_callP (.int .i64 3) (awk_c22 nb) ⟨rfl, trivial⟩ rfl (fun wx hm => len_net nb mb [[97], [97], [98]] wx (hN6nb.kept hm.kept (hnT _ (by omega)) (hnT _ (by omega)))) fun z22 hz22 => ?_
  replace hz22 : z20 ≤ z22 := hz22
  refine holds_go _ _ (awk_s23 nb z22) ⟨rfl, rfl, trivial⟩ ?_
  refine holds_ret [] (by kernel_rfl) (awk_r24) ?_
  intro wx hm
  exact ⟨rfl, (MemOk.back2 hm6 hm).kept⟩

end Go.Proofs.Ythndmmondlpghaa
