/- The platter: Acts. -/
import Derived.Test.YtfiheghjhgnblaaPlat3
namespace Go.Proofs.Ytfiheghjhgnblaa
open Go.RowKit

@[simp] def poac_b1 (n : Nat) (a : Int) (c : Int) (off : Bool) (lb : Nat) (mb : Nat) (pb : Nat) : List Bk := [⟨pb, 64, false, [.slice (some ⟨lb, 0, none⟩) n n, .map (some mb), .bool off, .int .i64 a, .int .i64 c]⟩]
set_option maxRecDepth 100000 in
set_option maxHeartbeats 4000000 in
theorem acts_any (n lb mb pb : Nat) (off : Bool) (a c : Int) (w : World) (hp : Blk w pb 64 [.slice (some ⟨lb, 0, none⟩) n n, .map (some mb), .bool off, .int .i64 a, .int .i64 c]) :
    Calls Try.prog 13 #[.pointer (some ⟨pb, 0, none⟩)] w (RetK (.int .i64 a) w) := by
  refine calls_of_holds (S := (fun _ => False)) (l := [(pt pb 0)]) (n := 7) Try.func13 (body_of (by kernel_rfl)) rfl (by simp) (MemOk.start (bk := (poac_b1 n a c off lb mb pb)) (wn := []) (by simpa using hp) (by simp) (by simp) (by simp)) ?_
  refine hgo 15 [oh0, oh0, oh0, oh0, ⟨false, 0, [⟨false, 0, 3, 1⟩]⟩, oh0] [2] [] [(pb, 3, 1)] [.code [1, 1]] ⟨[(2, .int .i64 a)], (poac_b1 n a c off lb mb pb), [], w.heap.size⟩ trivial ?_
  refine hrt [] [.int .i64 a] [] ?_
  intro wx hm
  exact ⟨rfl, hm.kept⟩

theorem acts_pl (M : Pl) (pb : Nat) (w : World) (hP : PlatAt 64 80 w pb M) : Calls Try.prog 13 #[.pointer (some ⟨pb, 0, none⟩)] w (RetK (.int .i64 M.acts) w) := acts_any M.n M.lb M.mb pb M.off M.acts M.armed w hP.p
end Go.Proofs.Ytfiheghjhgnblaa
