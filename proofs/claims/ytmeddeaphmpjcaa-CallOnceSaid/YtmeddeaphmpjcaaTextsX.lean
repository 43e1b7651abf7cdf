/- Texts of layer 1's law: one text, cut to 16 bytes. -/
import Derived.Test.YtmeddeaphmpjcaaEngG
import Derived.Test.YtmeddeaphmpjcaaProg
namespace Go.Proofs.Ytmeddeaphmpjcaa
open Go.RowKit

/-- what Texts answers of one text: a slice of one, that is as long -/
def TextsPost (s : ByteArray) (w : World) (e : Ending) (w' : World) : Prop :=
  ∃ x : Nat × Nat × List Value, w.heap.size ≤ x.1 ∧ e = .returned (.slice (some ⟨x.1, 0, none⟩) 1 x.2.1) ∧ Blk w' x.1 9 (.string (strL 16 s) :: x.2.2) ∧ Kept (fun _ => False) w w'

def TextsI (rb : Nat) (s : ByteArray) (w : World) (m : Nat) (st : St) : Prop :=
  (m = 1 ∧ st = ⟨[(0, .slice (some ⟨rb, 0, none⟩) 1 1), (1, .int .i64 1), (2, .int .i64 16), (6, .slice none 0 0), (7, .slice none 0 0), (8, .int .i64 0)], [⟨rb, 9, false, [.string s]⟩], [], w.heap.size⟩) ∨ (m = 0 ∧ ∃ (g c : Nat) (rest : List Value) (z : Nat), w.heap.size ≤ g ∧ w.heap.size ≤ z ∧ st = ⟨[(0, .slice (some ⟨rb, 0, none⟩) 1 1), (1, .int .i64 1), (2, .int .i64 16), (6, .slice none 0 0), (7, .slice (some ⟨g, 0, none⟩) 1 c), (8, .int .i64 1)], [⟨rb, 9, false, [.string s]⟩, ⟨g, 9, true, (.string (strL 16 s) :: rest)⟩], [], z⟩)

set_option maxRecDepth 100000 in
set_option maxHeartbeats 4000000 in
theorem texts_any (rb : Nat) (s : ByteArray) (w : World) (hr : Blk w rb 9 [.string s]) :
    Calls Try.prog 28 #[.slice (some ⟨rb, 0, none⟩) 1 1, .int .i64 1, .int .i64 16] w (TextsPost s w) := by
  refine calls_of_holds (S := (fun _ => False)) (l := [.slice (some ⟨rb, 0, none⟩) 1 1, .int .i64 1, .int .i64 16]) (n := 33) Try.func28 (body_of (by kernel_rfl)) rfl (by simp) (MemOk.start (bk := [⟨rb, 9, false, [.string s]⟩]) (wn := []) (by simpa using hr) (by simp) (by simp) (by simp)) ?_
  refine holds_go (f := 17) (hs := [⟨false, 0, []⟩, ⟨false, 0, []⟩, ⟨false, 0, []⟩]) [0, 1, 2, 6, 7, 8] [] (show _ = some (Res.mk [] (dupR []) [.code [1, 1, 0, 1, 0], .blk 0, .code [1, 1, 1]] ⟨[(0, .slice (some ⟨rb, 0, none⟩) 1 1), (1, .int .i64 1), (2, .int .i64 16), (6, .slice none 0 0), (7, .slice none 0 0), (8, .int .i64 0)], [⟨rb, 9, false, [.string s]⟩], [], w.heap.size⟩) by kernel_rfl) trivial ?_
  refine holds_loop (TextsI rb s w) 1 (by kernel_rfl) (.inl ⟨rfl, rfl⟩) ?_
  rintro m _ (⟨rfl, rfl⟩ | ⟨rfl, g, c, rest, z, hg, hz, rfl⟩) J hJ
  · skip
    refine holds_go (f := 35) (hs := [⟨false, 0, []⟩, ⟨false, 0, []⟩, ⟨false, 0, []⟩, ⟨true, 0, []⟩, ⟨false, 0, []⟩, ⟨false, 0, []⟩, ⟨false, 0, []⟩, ⟨false, 0, []⟩, ⟨false, 0, []⟩, ⟨false, 0, []⟩, ⟨false, 0, []⟩, ⟨true, 0, []⟩, ⟨false, 0, []⟩, ⟨false, 0, []⟩, ⟨false, 0, []⟩, ⟨false, 1, []⟩, ⟨false, 0, [⟨false, 0, 0, 1⟩]⟩]) [0, 1, 2, 6, 7, 8, 9, 21, 25] [] (show _ = some (Res.mk [true = true, true = true, (0 : Int) ≤ 0 ∧ 0 < ((1 : Nat) : Int)] (dupR [(rb, 0, 1)]) [.ops [1, 1, 0, 1, 0, 0, 1, 0, 0, 1, 0, 1, 0] [5], .code [1, 1, 0, 1, 0, 0, 1, 0, 0, 1, 1], .blk 1, .code [1, 1, 0, 1, 0, 0, 1, 1], .inv J, .blk 0, .code [1, 1, 1]] ⟨[(0, .slice (some ⟨rb, 0, none⟩) 1 1), (1, .int .i64 1), (2, .int .i64 16), (6, .slice none 0 0), (7, .slice none 0 0), (8, .int .i64 0), (9, .slice (some ⟨w.heap.size, 0, none⟩) 16 16), (21, .slice (some ⟨w.heap.size, 0, none⟩) 16 16), (25, .string s)], [⟨rb, 9, false, [.string s]⟩, ⟨w.heap.size, 5, true, [.int .u8 0, .int .u8 0, .int .u8 0, .int .u8 0, .int .u8 0, .int .u8 0, .int .u8 0, .int .u8 0, .int .u8 0, .int .u8 0, .int .u8 0, .int .u8 0, .int .u8 0, .int .u8 0, .int .u8 0, .int .u8 0]⟩], [], w.heap.size + 1⟩) by kernel_rfl) ⟨rfl, rfl, ⟨by omega, by omega⟩, trivial⟩ ?_
    refine holds_op1 (dst := (some 26)) (x := Builtin.copy_ #[76, 9] 3 #[.slice (some ⟨w.heap.size, 0, none⟩) 16 16, .string s]) (.int .i64 ((Nat.min (s.size) 16 : Nat) : Int)) [⟨rb, 9, false, [.string s]⟩, ⟨w.heap.size, 5, true, (bytesV (cutL 16 s))⟩] (by kernel_rfl) (by kernel_rfl) rfl (fun wx hm => ?_) fun z3 hz3 => ?_
    · have hB := hm.at_ 1 rfl
      have h1 := run_copyStr (P := Try.prog) wx 76 9 3 5 _ 16 16 _ s _ (by kernel_rfl) (by kernel_rfl) hB (by simp)
      have h2 := hm.set1 1 (b := ⟨w.heap.size, 5, true, List.replicate 16 (.int .u8 0)⟩) (cs := bytesV (cutL 16 s)) rfl rfl (setRow_kept wx _ _) (by
        have := setRow_blk hB (bytesV (cutL 16 s))
        exact this)
      refine ⟨_, h1, ?_⟩
      rw [show (List.replicate 16 (Value.int .u8 0)) = [.int .u8 0, .int .u8 0, .int .u8 0, .int .u8 0, .int .u8 0, .int .u8 0, .int .u8 0, .int .u8 0, .int .u8 0, .int .u8 0, .int .u8 0, .int .u8 0, .int .u8 0, .int .u8 0, .int .u8 0, .int .u8 0] from rfl] at h2
      have e := copy_cut 16 s
      rw [show (List.replicate 16 (Value.int .u8 0)) = [.int .u8 0, .int .u8 0, .int .u8 0, .int .u8 0, .int .u8 0, .int .u8 0, .int .u8 0, .int .u8 0, .int .u8 0, .int .u8 0, .int .u8 0, .int .u8 0, .int .u8 0, .int .u8 0, .int .u8 0, .int .u8 0] from rfl] at e
      rw [e]
      exact h2
    replace hz3 : w.heap.size + 1 ≤ z3 := hz3
    refine holds_go (f := 7) (hs := [⟨false, 0, []⟩, ⟨false, 0, []⟩]) [0, 1, 2, 6, 7, 8, 27, 28] [] (show _ = some (Res.mk [] (dupR []) [.ops [1, 1, 0, 1, 0, 0, 1, 0, 0, 1, 1] [2, 3, 4, 5], .blk 1, .code [1, 1, 0, 1, 0, 0, 1, 1], .inv J, .blk 0, .code [1, 1, 1]] ⟨[(0, .slice (some ⟨rb, 0, none⟩) 1 1), (1, .int .i64 1), (2, .int .i64 16), (6, .slice none 0 0), (7, .slice none 0 0), (8, .int .i64 0), (27, .slice none 0 0), (28, .slice (some ⟨w.heap.size, 0, none⟩) 16 16)], [⟨rb, 9, false, [.string s]⟩, ⟨w.heap.size, 5, true, (bytesV (cutL 16 s))⟩], [], z3⟩) by kernel_rfl) trivial ?_
    refine holds_opR (dst := (some 29)) (x := convert 76 9 (.slice (some ⟨w.heap.size, 0, none⟩) 16 16)) (.string (strL 16 s)) (by kernel_rfl) (by kernel_rfl) rfl (fun wx hm => ?_) ?_
    · exact run_bytesBack wx _ _ 5 _ _ _ _ _ (by kernel_rfl) (by kernel_rfl) (by kernel_rfl) (hm.at_ 1 rfl) (length_cutL _ _)
    refine holds_go (f := 4) (hs := [⟨false, 0, []⟩]) [0, 1, 2, 6, 7, 8, 27, 30] [] (show _ = some (Res.mk [] (dupR []) [.ops [1, 1, 0, 1, 0, 0, 1, 0, 0, 1, 1] [4, 5], .blk 1, .code [1, 1, 0, 1, 0, 0, 1, 1], .inv J, .blk 0, .code [1, 1, 1]] ⟨[(0, .slice (some ⟨rb, 0, none⟩) 1 1), (1, .int .i64 1), (2, .int .i64 16), (6, .slice none 0 0), (7, .slice none 0 0), (8, .int .i64 0), (27, .slice none 0 0), (30, .slice (some ⟨z3, 0, none⟩) 1 1)], [⟨rb, 9, false, [.string s]⟩, ⟨w.heap.size, 5, true, (bytesV (cutL 16 s))⟩, ⟨z3, 9, true, [.string (strL 16 s)]⟩], [], z3 + 1⟩) by kernel_rfl) trivial ?_
    refine holds_opX (dst := (some 31)) (x := Builtin.append_ #[70, 70] 70 #[.slice none 0 0, .slice (some ⟨z3, 0, none⟩) 1 1]) (X := Nat × List Value) (fun y => True) (fun y => .slice (some ⟨z3 + 1, 0, none⟩) 1 y.1) (fun y => [⟨rb, 9, false, [.string s]⟩, ⟨w.heap.size, 5, true, (bytesV (cutL 16 s))⟩, ⟨z3, 9, true, [.string (strL 16 s)]⟩, ⟨z3 + 1, 9, true, (.string (strL 16 s) :: y.2)⟩]) (fun y => [(31, .slice (some ⟨z3 + 1, 0, none⟩) 1 y.1), (0, .slice (some ⟨rb, 0, none⟩) 1 1), (1, .int .i64 1), (2, .int .i64 16), (6, .slice none 0 0), (7, .slice none 0 0), (8, .int .i64 0), (27, .slice none 0 0), (30, .slice (some ⟨z3, 0, none⟩) 1 1)]) (by kernel_rfl) (by kernel_rfl) (fun _ => rfl) (fun wx hm => ?_) ?_
    · obtain ⟨i0, hi, hz0, hz1, hz2⟩ := info_parts (show (Try.prog.info? 9).map (fun i => (i.zero, i.size, i.bytes)) = some (some (.string ⟨#[]⟩), 1, 16) by kernel_rfl)
      obtain ⟨c, rest, w', h1, h2, h3⟩ := run_appendNil1 (P := Try.prog) wx 70 70 9 i0 _ (.string (strL 16 s)) (by kernel_rfl) hi hz0 hz1 (by omega) _ _ _ [] (hm.at_ 2 rfl)
      rw [hm.size] at h1 h2
      exact ⟨(c, rest), w', trivial, h1, hm.add h3 [⟨_, 9, true, .string (strL 16 s) :: rest⟩] ⟨h2, trivial⟩ (by simp) (by simp)⟩
    intro y _ z7 hz7
    replace hz7 : z3 + 1 ≤ z7 := hz7
    refine holds_go (f := 11) (hs := [⟨false, 0, []⟩, ⟨false, 0, []⟩, ⟨false, 0, []⟩, ⟨false, 0, []⟩]) [0, 1, 2, 6, 7, 8] [] (show _ = some (Res.mk [] (dupR []) [.inv J, .blk 0, .code [1, 1, 1]] ⟨[(0, .slice (some ⟨rb, 0, none⟩) 1 1), (1, .int .i64 1), (2, .int .i64 16), (6, .slice none 0 0), (7, .slice (some ⟨z3 + 1, 0, none⟩) 1 y.1), (8, .int .i64 1)], [⟨rb, 9, false, [.string s]⟩, ⟨w.heap.size, 5, true, (bytesV (cutL 16 s))⟩, ⟨z3, 9, true, [.string (strL 16 s)]⟩, ⟨z3 + 1, 9, true, (.string (strL 16 s) :: y.2)⟩], [], z7⟩) by kernel_rfl) trivial ?_
    refine holds_prune [0, 1, 2, 6, 7, 8] [true, false, false, true] ?_
    exact hJ 0 _ (by omega) (.inr ⟨rfl, _, _, _, z7, by omega, by omega, rfl⟩)
  · skip
    refine holds_go (f := 17) (hs := [⟨false, 0, []⟩, ⟨false, 0, []⟩, ⟨false, 0, []⟩, ⟨false, 0, []⟩, ⟨false, 0, []⟩, ⟨false, 0, []⟩]) [6] [] (show _ = some (Res.mk [false = false] (dupR []) [.code [1, 1, 1, 1]] ⟨[(6, .slice (some ⟨g, 0, none⟩) 1 c)], [⟨rb, 9, false, [.string s]⟩, ⟨g, 9, true, (.string (strL 16 s) :: rest)⟩], [], z⟩) by kernel_rfl) ⟨rfl, trivial⟩ ?_
    refine holds_ret [] (by kernel_rfl) (show _ = some ([.slice (some ⟨g, 0, none⟩) 1 c], dupR []) by kernel_rfl) ?_
    intro wx hm
    exact ⟨(g, c, rest), hg, rfl, hm.at_ 1 rfl, hm.kept⟩

end Go.Proofs.Ytmeddeaphmpjcaa
