/- The platter's functions. -/
import Derived.Test.YtillpjllbekedaaPlatG
import Derived.Test.YtillpjllbekedaaProg
namespace Go.Proofs.Ytillpjllbekedaa
open Go.RowKit

/-- so many sectors, all noughts -/
def secs (n : Nat) : List Value := (madeCells (intsV zeroSec).toArray (n * (intsV zeroSec).length)).toList
/-- a new platter: its sectors, its cache, itself -/
def PlatNew (n : Nat) (w : World) (e : Ending) (w' : World) : Prop := ∃ lb mb pb, e = .returned (.tuple #[.pointer (some ⟨pb, 0, none⟩), .int .i64 0]) ∧ w.heap.size ≤ lb ∧ lb < mb ∧ mb < pb ∧ Blk w' pb 53 [.slice (some ⟨lb, 0, none⟩) n n, .map (some mb), .bool false, .int .i64 0, .int .i64 0] ∧ Blk w' lb 56 (secs n) ∧ MapAt w' mb [] 0 ∧ Kept (fun _ => False) w w'
def pnw_v1 (n : Nat) (w : World) (z2 : Nat) : List Value := [.slice (some ⟨w.heap.size, 0, none⟩) n n, .map (some z2), .bool false, .int .i64 0, .int .i64 0]
theorem pnw_s1 (n : Nat) (w : World) : Res.prune [2, 3, 10] [] (exec Try.prog (bodyOf Try.f9) 15 23 [⟨false, 0, []⟩, ⟨false, 0, []⟩, ⟨false, 0, []⟩, ⟨false, 0, []⟩, ⟨false, 0, []⟩, ⟨false, 0, []⟩, ⟨false, 0, []⟩, ⟨false, 3, []⟩, ⟨false, 0, []⟩, ⟨false, 0, []⟩] [.code []] ⟨[(0, .int .i64 (n : Int))], [], [], w.heap.size⟩) = some ⟨[(decide (((n : Int) : Int) < 1)) = false, (decide (((n : Int) : Int) < 1)) = false, (decide (((n : Int) : Int) < 1)) = false, (decide (((n : Int) : Int) > 64)) = false], dupR [], [.ops [1, 1, 0] [1, 2, 3, 4, 5, 6], .code [1, 1, 1]], ⟨[(2, .pointer none), (3, .int .i64 0), (10, .int .i64 (n : Int))], [], [], w.heap.size⟩⟩ := by kernel_rfl
theorem pnw_s3 (n : Nat) (w : World) (z2 : Nat) : Res.prune [2, 3, 11] [] (exec Try.prog (bodyOf Try.f9) 15 3 [] [.ops [1, 1, 0] [2, 3, 4, 5, 6], .code [1, 1, 1]] ⟨[(11, .slice (some ⟨w.heap.size, 0, none⟩) n n), (2, .pointer none), (3, .int .i64 0), (10, .int .i64 (n : Int))], [⟨w.heap.size, 56, true, (secs n)⟩], [], z2⟩) = some ⟨[], dupR [], [.ops [1, 1, 0] [2, 3, 4, 5, 6], .code [1, 1, 1]], ⟨[(2, .pointer none), (3, .int .i64 0), (11, .slice (some ⟨w.heap.size, 0, none⟩) n n)], [⟨w.heap.size, 56, true, (secs n)⟩], [], z2⟩⟩ := by kernel_rfl
theorem pnw_s5 (n : Nat) (w : World) (W : World) (z2 : Nat) : Res.prune [2, 3] [] (exec Try.prog (bodyOf Try.f9) 15 8 [⟨false, 0, []⟩, ⟨false, 0, []⟩, ⟨false, 0, []⟩, ⟨false, 0, []⟩] [.ops [1, 1, 0] [3, 4, 5, 6], .code [1, 1, 1]] ⟨[(12, .map (some z2)), (2, .pointer none), (3, .int .i64 0), (11, .slice (some ⟨w.heap.size, 0, none⟩) n n)], [⟨w.heap.size, 56, true, (secs n)⟩], [], W.heap.size⟩) = some ⟨[], dupR [], [.code [1, 1, 1]], ⟨[(2, .pointer (some ⟨W.heap.size, 0, none⟩)), (3, .int .i64 0)], [⟨w.heap.size, 56, true, (secs n)⟩, ⟨W.heap.size, 53, true, (pnw_v1 n w z2)⟩], [], W.heap.size + 1⟩⟩ := by kernel_rfl
theorem pnw_r6 (n : Nat) (w : World) (W : World) (z2 : Nat) : resL Try.prog [] [⟨w.heap.size, 56, true, (secs n)⟩, ⟨W.heap.size, 53, true, (pnw_v1 n w z2)⟩] [(2, .pointer (some ⟨W.heap.size, 0, none⟩)), (3, .int .i64 0)] Try.f9.results.toList [] = some ([.pointer (some ⟨W.heap.size, 0, none⟩), .int .i64 0], dupR []) := by kernel_rfl
set_option maxRecDepth 100000 in
set_option maxHeartbeats 4000000 in
theorem new_any (n : Nat) (hn : 1 ≤ n ∧ n ≤ 64) (w : World) :
    Calls Try.prog 9 #[.int .i64 (n : Int)] w (PlatNew n w) := by
  refine calls_of_holds (S := (fun _ => False)) (l := [.int .i64 (n : Int)]) (n := 15) Try.func9 (body_of (by kernel_rfl)) rfl (by simp) (MemOk.none w _) ?_
  refine holds_go _ _ (pnw_s1 n w) ⟨decide_eq_false (by omega), decide_eq_false (by omega), decide_eq_false (by omega), decide_eq_false (by omega), trivial⟩ ?_
  refine holds_op1 (dst := (some 11)) (x := Instr.makeSlice 50 (.int .i64 (n : Int)) (.int .i64 (n : Int))) (.slice (some ⟨w.heap.size, 0, none⟩) n n) [⟨w.heap.size, 56, true, (secs n)⟩] (by kernel_rfl) (by kernel_rfl) rfl (fun wx hm => ?_) fun z2 hz2 => ?_
  · obtain ⟨w', h1, h2, h3⟩ := run_newRow (P := Try.prog) wx 50 56 (intsV zeroSec) n 64 (by kernel_rfl) (by kernel_rfl) (by omega) (by omega)
    rw [hm.size] at h1 h2
    have h4 := hm.add h3 [⟨w.heap.size, 56, true, secs n⟩] ⟨h2, trivial⟩ (by simp) (by simp)
    exact ⟨w', h1, h4⟩
  replace hz2 : w.heap.size ≤ z2 := hz2
  refine holds_fact (fun wx hm => hm.size ▸ (hm.at_ 0 rfl).lt) (fun hlt => ?_)
  replace hlt : w.heap.size < z2 := hlt
  refine holds_go _ _ (pnw_s3 n w z2) trivial ?_
  refine holds_opW (w := w) (S' := fun _ => False) (dst := (some 12)) (x := Instr.makeMap 51 none) (fun _ => .map (some z2)) (fun _ W => MapAt W z2 [] 0) (fun _ => [(12, .map (some z2)), (2, .pointer none), (3, .int .i64 0), (11, .slice (some ⟨w.heap.size, 0, none⟩) n n)]) (by kernel_rfl) (by kernel_rfl) (fun _ => rfl) (fun wx hm => ?_) (fun _ W hX hmW => ?_)
  · obtain ⟨w', h1, h2, h3⟩ := run_newMap (P := Try.prog) wx 51
    rw [hm.size] at h1 h2
    exact ⟨0, w', h1, h2, (hm.same h3).2⟩
  have hlW := hX.lt
  refine holds_go _ _ (pnw_s5 n w W z2) trivial ?_
  refine holds_ret [] (by kernel_rfl) (pnw_r6 n w W z2) ?_
  intro wx hm
  exact ⟨w.heap.size, z2, W.heap.size, rfl, by omega, by omega, by omega, hm.at_ 1 rfl, hm.at_ 0 rfl, hX.kept hm.kept (by rintro ⟨b, hb, hr, he⟩; simp at hb; subst hb; simp at he hr; omega), kept_back hmW hm.kept⟩

theorem phs_s1 (n : Nat) (k : Int) (a : Int) (c : Int) (off : Bool) (lb : Nat) (mb : Nat) (pb : Nat) (w : World) : Res.prune [4] [] (exec Try.prog (bodyOf Try.f24) 16 22 [⟨false, 0, []⟩, ⟨false, 0, []⟩, ⟨false, 0, []⟩, ⟨false, 0, []⟩, ⟨true, 0, []⟩, ⟨true, 0, []⟩, ⟨true, 0, []⟩, ⟨true, 0, []⟩, ⟨true, 0, [⟨false, 0, 0, 1⟩]⟩, ⟨true, 0, []⟩, ⟨true, 0, []⟩, ⟨false, 2, []⟩, ⟨false, 0, []⟩] [.code []] ⟨[(0, .pointer (some ⟨pb, 0, none⟩)), (1, .int .i64 k)], [⟨pb, 53, false, [.slice (some ⟨lb, 0, none⟩) n n, .map (some mb), .bool off, .int .i64 a, .int .i64 c]⟩], [], w.heap.size⟩) = some ⟨[(decide ((k : Int) ≥ 0)) = true, (decide ((k : Int) ≥ 0)) = true, (decide ((k : Int) ≥ 0)) = true, (decide ((k : Int) ≥ 0)) = true, (decide ((k : Int) ≥ 0)) = true, (decide ((k : Int) ≥ 0)) = true, (decide ((k : Int) ≥ 0)) = true, (decide ((k : Int) ≥ 0)) = true], dupR [(pb, 0, 1)], [.code [1, 1]], ⟨[(4, .bool (decide ((k : Int) < (n : Int))))], [⟨pb, 53, false, [.slice (some ⟨lb, 0, none⟩) n n, .map (some mb), .bool off, .int .i64 a, .int .i64 c]⟩], [], w.heap.size⟩⟩ := by kernel_rfl
theorem phs_r2 (n : Nat) (k : Int) (a : Int) (c : Int) (off : Bool) (lb : Nat) (mb : Nat) (pb : Nat) : resL Try.prog [] [⟨pb, 53, false, [.slice (some ⟨lb, 0, none⟩) n n, .map (some mb), .bool off, .int .i64 a, .int .i64 c]⟩] [(4, .bool (decide ((k : Int) < (n : Int))))] Try.f24.results.toList [] = some ([.bool (decide ((k : Int) < (n : Int)))], dupR []) := by kernel_rfl
set_option maxRecDepth 100000 in
set_option maxHeartbeats 4000000 in
theorem has_true (n lb mb pb : Nat) (off : Bool) (a c k : Int) (hk : 0 ≤ k ∧ k < (n : Int)) (w : World) (hp : Blk w pb 53 [.slice (some ⟨lb, 0, none⟩) n n, .map (some mb), .bool off, .int .i64 a, .int .i64 c]) :
    Calls Try.prog 24 #[.pointer (some ⟨pb, 0, none⟩), .int .i64 k] w (RetK (.bool true) w) := by
  refine calls_of_holds (S := (fun _ => False)) (l := [.pointer (some ⟨pb, 0, none⟩), .int .i64 k]) (n := 16) Try.func24 (body_of (by kernel_rfl)) rfl (by simp) (MemOk.start (bk := [⟨pb, 53, false, [.slice (some ⟨lb, 0, none⟩) n n, .map (some mb), .bool off, .int .i64 a, .int .i64 c]⟩]) (wn := []) (by simpa using hp) (by simp) (by simp) (by simp)) ?_
  refine holds_go _ _ (phs_s1 n k a c off lb mb pb w) ⟨decide_eq_true (by omega), decide_eq_true (by omega), decide_eq_true (by omega), decide_eq_true (by omega), decide_eq_true (by omega), decide_eq_true (by omega), decide_eq_true (by omega), decide_eq_true (by omega), trivial⟩ ?_
  refine holds_ret [] (by kernel_rfl) (phs_r2 n k a c off lb mb pb) ?_
  intro wx hm
  exact ⟨ret_bool (decide_eq_true (by omega)), hm.kept⟩

theorem pao_s1 (n : Nat) (a : Int) (c : Int) (lb : Nat) (mb : Nat) (pb : Nat) (w : World) : Res.prune [0, 2] [] (exec Try.prog (bodyOf Try.f23) 39 20 [⟨false, 0, []⟩, ⟨false, 0, []⟩, ⟨false, 0, []⟩, ⟨false, 0, []⟩, ⟨false, 0, [⟨false, 0, 2, 1⟩]⟩, ⟨true, 0, []⟩, ⟨false, 0, []⟩] [.code []] ⟨[(0, .pointer (some ⟨pb, 0, none⟩))], [⟨pb, 53, false, [.slice (some ⟨lb, 0, none⟩) n n, .map (some mb), .bool true, .int .i64 a, .int .i64 c]⟩], [], w.heap.size⟩) = some ⟨[true = true], dupR [(pb, 2, 1)], [.code [1, 0, 1, 0, 1], .code [1, 1]], ⟨[(0, .pointer (some ⟨pb, 0, none⟩)), (2, .bool false)], [⟨pb, 53, false, [.slice (some ⟨lb, 0, none⟩) n n, .map (some mb), .bool true, .int .i64 a, .int .i64 c]⟩], [], w.heap.size⟩⟩ := by kernel_rfl
theorem pao_r2 (n : Nat) (a : Int) (c : Int) (lb : Nat) (mb : Nat) (pb : Nat) : resL Try.prog [] [⟨pb, 53, false, [.slice (some ⟨lb, 0, none⟩) n n, .map (some mb), .bool true, .int .i64 a, .int .i64 c]⟩] [(0, .pointer (some ⟨pb, 0, none⟩)), (2, .bool false)] Try.f23.results.toList [] = some ([.bool false], dupR []) := by kernel_rfl
set_option maxRecDepth 100000 in
set_option maxHeartbeats 4000000 in
theorem act_off (n lb mb pb : Nat) (a c : Int) (w : World) (hp : Blk w pb 53 [.slice (some ⟨lb, 0, none⟩) n n, .map (some mb), .bool true, .int .i64 a, .int .i64 c]) :
    Calls Try.prog 23 #[.pointer (some ⟨pb, 0, none⟩)] w (RetK (.bool false) w) := by
  refine calls_of_holds (S := (fun _ => False)) (l := [.pointer (some ⟨pb, 0, none⟩)]) (n := 39) Try.func23 (body_of (by kernel_rfl)) rfl (by simp) (MemOk.start (bk := [⟨pb, 53, false, [.slice (some ⟨lb, 0, none⟩) n n, .map (some mb), .bool true, .int .i64 a, .int .i64 c]⟩]) (wn := []) (by simpa using hp) (by simp) (by simp) (by simp)) ?_
  refine holds_go _ _ (pao_s1 n a c lb mb pb w) ⟨rfl, trivial⟩ ?_
  refine holds_ret [] (by kernel_rfl) (pao_r2 n a c lb mb pb) ?_
  intro wx hm
  exact ⟨rfl, hm.kept⟩

def pal_v1 (n : Nat) (a : Int) (c : Int) (lb : Nat) (mb : Nat) : List Value := [.slice (some ⟨lb, 0, none⟩) n n, .map (some mb), .bool false, .int .i64 (a + 1), .int .i64 c]
def pal_v2 (n : Nat) (a : Int) (c : Int) (lb : Nat) (mb : Nat) : List Value := [.slice (some ⟨lb, 0, none⟩) n n, .map (some mb), .bool ((c - 1) == 0), .int .i64 (a + 1), .int .i64 (c - 1)]
theorem pal_s1 (n : Nat) (a : Int) (c : Int) (lb : Nat) (mb : Nat) (pb : Nat) (w : World) : Res.prune [0, 2, 18] [] (exec Try.prog (bodyOf Try.f23) 39 37 [⟨false, 0, []⟩, ⟨false, 0, []⟩, ⟨false, 0, []⟩, ⟨false, 0, []⟩, ⟨false, 0, [⟨false, 0, 2, 1⟩]⟩, ⟨false, 0, []⟩, ⟨false, 0, []⟩, ⟨false, 0, []⟩, ⟨false, 0, []⟩, ⟨false, 0, [⟨false, 0, 3, 1⟩]⟩, ⟨false, 1, []⟩, ⟨false, 0, []⟩, ⟨false, 0, []⟩, ⟨false, 0, [⟨false, 0, 3, 1⟩]⟩, ⟨false, 0, []⟩, ⟨false, 0, []⟩, ⟨false, 0, []⟩, ⟨false, 0, [⟨false, 0, 4, 1⟩]⟩, ⟨false, 0, []⟩] [.code []] ⟨[(0, .pointer (some ⟨pb, 0, none⟩))], [⟨pb, 53, true, [.slice (some ⟨lb, 0, none⟩) n n, .map (some mb), .bool false, .int .i64 a, .int .i64 c]⟩], [], w.heap.size⟩) = some ⟨[false = false, inR .i64 ((a + 1))], dupR [(pb, 2, 1), (pb, 3, 1), (pb, 3, 1), (pb, 4, 1)], [.code [1, 1, 1, 0, 1], .code [1, 1, 1, 1]], ⟨[(0, .pointer (some ⟨pb, 0, none⟩)), (2, .bool false), (18, .bool (decide ((c : Int) > 0)))], [⟨pb, 53, true, (pal_v1 n a c lb mb)⟩], [], w.heap.size⟩⟩ := by kernel_rfl
theorem pal_s2 (n : Nat) (a : Int) (c : Int) (lb : Nat) (mb : Nat) (pb : Nat) (w : World) : Res.prune [2] [] (exec Try.prog (bodyOf Try.f23) 39 35 [⟨true, 0, []⟩, ⟨false, 0, []⟩, ⟨false, 0, []⟩, ⟨false, 0, []⟩, ⟨false, 0, [⟨false, 0, 4, 1⟩]⟩, ⟨false, 1, []⟩, ⟨false, 0, []⟩, ⟨false, 0, []⟩, ⟨false, 0, [⟨false, 0, 4, 1⟩]⟩, ⟨false, 0, []⟩, ⟨false, 0, []⟩, ⟨false, 0, []⟩, ⟨false, 0, []⟩, ⟨false, 0, [⟨false, 0, 4, 1⟩]⟩, ⟨false, 0, []⟩, ⟨false, 0, []⟩, ⟨false, 0, []⟩, ⟨false, 0, [⟨false, 0, 2, 1⟩]⟩, ⟨false, 0, []⟩, ⟨false, 0, []⟩, ⟨false, 0, []⟩, ⟨false, 0, [⟨false, 0, 2, 1⟩]⟩, ⟨false, 0, []⟩, ⟨false, 0, []⟩] [.code [1, 1, 1, 0, 1], .code [1, 1, 1, 1]] ⟨[(0, .pointer (some ⟨pb, 0, none⟩)), (2, .bool false), (18, .bool (decide ((c : Int) > 0)))], [⟨pb, 53, true, (pal_v1 n a c lb mb)⟩], [], w.heap.size⟩) = some ⟨[(decide ((c : Int) > 0)) = true, inR .i64 ((c - 1))], dupR [(pb, 4, 1), (pb, 4, 1), (pb, 4, 1), (pb, 2, 1), (pb, 2, 1)], [.code [1, 1, 1, 1, 1]], ⟨[(2, .bool (!((c - 1) == 0)))], [⟨pb, 53, true, (pal_v2 n a c lb mb)⟩], [], w.heap.size⟩⟩ := by kernel_rfl
theorem pal_r3 (n : Nat) (a : Int) (c : Int) (lb : Nat) (mb : Nat) (pb : Nat) : resL Try.prog [] [⟨pb, 53, true, (pal_v2 n a c lb mb)⟩] [(2, .bool (!((c - 1) == 0)))] Try.f23.results.toList [] = some ([.bool (!((c - 1) == 0))], dupR []) := by kernel_rfl
theorem pal_s4 (n : Nat) (a : Int) (c : Int) (lb : Nat) (mb : Nat) (pb : Nat) (w : World) : Res.prune [2] [] (exec Try.prog (bodyOf Try.f23) 39 14 [⟨false, 0, []⟩, ⟨false, 0, []⟩, ⟨false, 0, []⟩, ⟨false, 0, []⟩, ⟨false, 0, [⟨false, 0, 2, 1⟩]⟩, ⟨false, 0, []⟩, ⟨false, 0, []⟩] [.code [1, 1, 1, 0, 1], .code [1, 1, 1, 1]] ⟨[(0, .pointer (some ⟨pb, 0, none⟩)), (2, .bool false), (18, .bool (decide ((c : Int) > 0)))], [⟨pb, 53, true, (pal_v1 n a c lb mb)⟩], [], w.heap.size⟩) = some ⟨[(decide ((c : Int) > 0)) = false], dupR [(pb, 2, 1)], [.code [1, 1, 1, 1, 1]], ⟨[(2, .bool true)], [⟨pb, 53, true, (pal_v1 n a c lb mb)⟩], [], w.heap.size⟩⟩ := by kernel_rfl
theorem pal_r5 (n : Nat) (a : Int) (c : Int) (lb : Nat) (mb : Nat) (pb : Nat) : resL Try.prog [] [⟨pb, 53, true, (pal_v1 n a c lb mb)⟩] [(2, .bool true)] Try.f23.results.toList [] = some ([.bool true], dupR []) := by kernel_rfl
set_option maxRecDepth 100000 in
set_option maxHeartbeats 4000000 in
theorem act_live (n lb mb pb : Nat) (a c : Int) (ha : 0 ≤ a ∧ a < 4611686018427387904) (hc : 0 ≤ c ∧ c < 4611686018427387904) (w : World) (hp : Blk w pb 53 [.slice (some ⟨lb, 0, none⟩) n n, .map (some mb), .bool false, .int .i64 a, .int .i64 c]) :
    Calls Try.prog 23 #[.pointer (some ⟨pb, 0, none⟩)] w (fun e w' => e = .returned (.bool (!decide (c = 1))) ∧ Blk w' pb 53 [.slice (some ⟨lb, 0, none⟩) n n, .map (some mb), .bool (decide (c = 1)), .int .i64 (a + 1), .int .i64 (dn c)] ∧ Kept (fun x => x = pb) w w') := by
  refine calls_of_holds (S := (fun x => x = pb)) (l := [.pointer (some ⟨pb, 0, none⟩)]) (n := 39) Try.func23 (body_of (by kernel_rfl)) rfl (by simp) (MemOk.start (bk := [⟨pb, 53, true, [.slice (some ⟨lb, 0, none⟩) n n, .map (some mb), .bool false, .int .i64 a, .int .i64 c]⟩]) (wn := []) (by simpa using hp) (by simp) (by simp) (by simp)) ?_
  refine holds_go _ _ (pal_s1 n a c lb mb pb w) ⟨rfl, in64 (by omega), trivial⟩ ?_
  rcases Bool.eq_false_or_eq_true (decide ((c : Int) > 0)) with d1 | d1
  · skip
    refine holds_go _ _ (pal_s2 n a c lb mb pb w) ⟨d1, in64 (by omega), trivial⟩ ?_
    refine holds_ret [] (by kernel_rfl) (pal_r3 n a c lb mb pb) ?_
    intro wx hm
    have e0 := of_decide_eq_true d1
    have e1 : ((c - 1 : Int) == 0) = decide (c = 1) := by
      rw [Bool.eq_iff_iff, beq_iff_eq, decide_eq_true_iff]
      omega
    have e2 : dn c = c - 1 := if_pos e0
    refine ⟨by rw [← e1]; rfl, ?_, hm.kept⟩
    rw [← e1, e2]
    exact hm.at_ 0 rfl
  · skip
    refine holds_go _ _ (pal_s4 n a c lb mb pb w) ⟨d1, trivial⟩ ?_
    refine holds_ret [] (by kernel_rfl) (pal_r5 n a c lb mb pb) ?_
    intro wx hm
    have e0 := of_decide_eq_false d1
    have e1 : decide (c = 1) = false := decide_eq_false (by omega)
    have e2 : dn c = c := if_neg (by omega)
    refine ⟨by rw [e1]; rfl, ?_, hm.kept⟩
    rw [e1, e2]
    exact hm.at_ 0 rfl

end Go.Proofs.Ytillpjllbekedaa
