/- pick of windlass/windlasslaw13 -/
import Derived.Test.YthndmmondlpghaaPickZ
import Derived.Test.YthndmmondlpghaaEngG
import Derived.Test.YthndmmondlpghaaProg
namespace Go.Proofs.Ythndmmondlpghaa
open Go.RowKit

theorem pick13_n_s1 (c : Int) (n : Int) (w : World) : Res.prune [4] [] (exec Try.prog (bodyOf Try.f10) 13 27 [⟨false, 0, []⟩, ⟨false, 0, []⟩, ⟨false, 0, []⟩, ⟨true, 0, []⟩, ⟨false, 0, []⟩, ⟨false, 1, []⟩, ⟨false, 1, []⟩, ⟨false, 0, []⟩, ⟨false, 0, []⟩, ⟨false, 0, []⟩, ⟨false, 1, []⟩, ⟨false, 0, []⟩] [.code []] ⟨[(0, .int .i64 c), (1, .int .i64 n)], [], [], w.heap.size⟩) = some ⟨[(decide ((c : Int) < 0)) = true, inR .i64 ((c + 1)), inR .i64 ((0 - (c + 1))), (0 : Int) ≤ (0 - (c + 1)) ∧ (0 : Int) < n], dupR [], [.code [1, 1, 1]], ⟨[(4, .int .i64 ((0 - (c + 1)) % n))], [], [], w.heap.size⟩⟩ := by kernel_rfl
theorem pick13_n_r2 (c : Int) (n : Int) : resL Try.prog [] [] [(4, .int .i64 ((0 - (c + 1)) % n))] Try.f10.results.toList [] = some ([.int .i64 ((0 - (c + 1)) % n)], dupR []) := by kernel_rfl
set_option maxRecDepth 100000 in
set_option maxHeartbeats 4000000 in
theorem pick13_n (c n v : Int) (h : pickZ c n = v) (hc : c < 0) (h1 : 1 ≤ n) (h2 : n ≤ 9223372036854775807) (h3 : -9223372036854775808 ≤ c ∧ c ≤ 9223372036854775807) (w : World) :
    Calls Try.prog 10 #[.int .i64 c, .int .i64 n] w (RetK (.int .i64 v) w) := by
  refine calls_of_holds (S := (fun _ => False)) (l := [.int .i64 c, .int .i64 n]) (n := 13) Try.func10 (body_of (by kernel_rfl)) rfl (by simp) (MemOk.none w _) ?_
  refine holds_go _ _ (pick13_n_s1 c n w) ⟨decide_eq_true hc, in64 (by omega), in64 (by omega), ⟨by omega, by omega⟩, trivial⟩ ?_
  refine holds_ret [] (by kernel_rfl) (pick13_n_r2 c n) ?_
  intro wx hm
  refine ⟨?_, hm.kept⟩
  subst h
  simp only [oneOf, pickZ, if_pos hc]
  congr 3
  omega

theorem pick13_p_s1 (c : Int) (n : Int) (w : World) : Res.prune [4] [] (exec Try.prog (bodyOf Try.f10) 13 22 [⟨false, 0, []⟩, ⟨false, 0, []⟩, ⟨false, 0, []⟩, ⟨false, 0, []⟩, ⟨false, 0, []⟩, ⟨false, 0, []⟩, ⟨false, 1, []⟩, ⟨false, 0, []⟩] [.code []] ⟨[(0, .int .i64 c), (1, .int .i64 n)], [], [], w.heap.size⟩) = some ⟨[(decide ((c : Int) < 0)) = false, (0 : Int) ≤ c ∧ (0 : Int) < n], dupR [], [.code [1, 1, 1]], ⟨[(4, .int .i64 (c % n))], [], [], w.heap.size⟩⟩ := by kernel_rfl
theorem pick13_p_r2 (c : Int) (n : Int) : resL Try.prog [] [] [(4, .int .i64 (c % n))] Try.f10.results.toList [] = some ([.int .i64 (c % n)], dupR []) := by kernel_rfl
set_option maxRecDepth 100000 in
set_option maxHeartbeats 4000000 in
theorem pick13_p (c n v : Int) (h : pickZ c n = v) (hc : ¬ c < 0) (h1 : 1 ≤ n) (h2 : n ≤ 9223372036854775807) (h3 : -9223372036854775808 ≤ c ∧ c ≤ 9223372036854775807) (w : World) :
    Calls Try.prog 10 #[.int .i64 c, .int .i64 n] w (RetK (.int .i64 v) w) := by
  refine calls_of_holds (S := (fun _ => False)) (l := [.int .i64 c, .int .i64 n]) (n := 13) Try.func10 (body_of (by kernel_rfl)) rfl (by simp) (MemOk.none w _) ?_
  refine holds_go _ _ (pick13_p_s1 c n w) ⟨decide_eq_false (by omega), ⟨by omega, by omega⟩, trivial⟩ ?_
  refine holds_ret [] (by kernel_rfl) (pick13_p_r2 c n) ?_
  intro wx hm
  refine ⟨?_, hm.kept⟩
  subst h
  simp only [oneOf, pickZ, if_neg hc]

theorem pick13 (c n v : Int) (h : pickZ c n = v) (w : World) (h1 : 1 ≤ n) (h2 : n ≤ 9223372036854775807) (h3 : -9223372036854775808 ≤ c ∧ c ≤ 9223372036854775807) : Calls Try.prog 10 #[.int .i64 c, .int .i64 n] w (RetK (.int .i64 v) w) := by
  by_cases hc : c < 0
  · exact pick13_n c n v h hc h1 h2 h3 w
  · exact pick13_p c n v h hc h1 h2 h3 w
end Go.Proofs.Ythndmmondlpghaa
