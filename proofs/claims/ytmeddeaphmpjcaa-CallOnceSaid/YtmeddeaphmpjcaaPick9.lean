/- pick of windlass/windlasslaw09 -/
import Derived.Test.YtmeddeaphmpjcaaPickZ
import Derived.Test.YtmeddeaphmpjcaaEngG
import Derived.Test.YtmeddeaphmpjcaaProg
namespace Go.Proofs.Ytmeddeaphmpjcaa
open Go.RowKit

set_option maxRecDepth 100000 in
set_option maxHeartbeats 4000000 in
theorem pick9_n (c n v : Int) (h : pickZ c n = v) (hc : c < 0) (h1 : 1 ≤ n) (h2 : n ≤ 9223372036854775807) (h3 : -9223372036854775808 ≤ c ∧ c ≤ 9223372036854775807) (w : World) :
    Calls Try.prog 27 #[.int .i64 c, .int .i64 n] w (RetK (.int .i64 v) w) := by
  refine calls_of_holds (S := (fun _ => False)) (l := [.int .i64 c, .int .i64 n]) (n := 13) Try.func27 (body_of (by kernel_rfl)) rfl (by simp) (MemOk.none w _) ?_
  refine hgE 27 [oh0, oh0, oh0, oh1, oh0, oh2, oh2, oh0, oh0, oh0, oh2, oh0] [4] [oE ((decide ((c : Int) < 0)) = true) (decide_eq_true hc), n64 ((c + 1)), n64 ((0 - (c + 1))), oE ((0 : Int) ≤ (0 - (c + 1)) ∧ (0 : Int) < n)] [] [.code [1, 1, 1]] ⟨[(4, .int .i64 ((0 - (c + 1)) % n))], [], [], w.heap.size⟩ ?_
  refine hrt [] [.int .i64 ((0 - (c + 1)) % n)] [] ?_
  intro wx hm
  refine ⟨?_, hm.kept⟩
  subst h
  simp only [oneOf, pickZ, if_pos hc]
  congr 3
  omega

set_option maxRecDepth 100000 in
set_option maxHeartbeats 4000000 in
theorem pick9_p (c n v : Int) (h : pickZ c n = v) (hc : ¬ c < 0) (h1 : 1 ≤ n) (h2 : n ≤ 9223372036854775807) (h3 : -9223372036854775808 ≤ c ∧ c ≤ 9223372036854775807) (w : World) :
    Calls Try.prog 27 #[.int .i64 c, .int .i64 n] w (RetK (.int .i64 v) w) := by
  refine calls_of_holds (S := (fun _ => False)) (l := [.int .i64 c, .int .i64 n]) (n := 13) Try.func27 (body_of (by kernel_rfl)) rfl (by simp) (MemOk.none w _) ?_
  refine hgE 22 [oh0, oh0, oh0, oh0, oh0, oh0, oh2, oh0] [4] [dF ((c : Int) < 0), oE ((0 : Int) ≤ c ∧ (0 : Int) < n)] [] [.code [1, 1, 1]] ⟨[(4, .int .i64 (c % n))], [], [], w.heap.size⟩ ?_
  refine hrt [] [.int .i64 (c % n)] [] ?_
  intro wx hm
  refine ⟨?_, hm.kept⟩
  subst h
  simp only [oneOf, pickZ, if_neg hc]

theorem pick9 (c n v : Int) (h : pickZ c n = v) (w : World) (h1 : 1 ≤ n) (h2 : n ≤ 9223372036854775807) (h3 : -9223372036854775808 ≤ c ∧ c ≤ 9223372036854775807) : Calls Try.prog 27 #[.int .i64 c, .int .i64 n] w (RetK (.int .i64 v) w) := by
  by_cases hc : c < 0
  · exact pick9_n c n v h hc h1 h2 h3 w
  · exact pick9_p c n v h hc h1 h2 h3 w
end Go.Proofs.Ytmeddeaphmpjcaa
