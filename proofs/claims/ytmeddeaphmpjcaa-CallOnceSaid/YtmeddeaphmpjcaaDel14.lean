/- slices.Delete of one open call. -/
import Derived.Laws.OwnMore
import Derived.Test.YtmeddeaphmpjcaaCallR
import Derived.Test.YtmeddeaphmpjcaaEngU
import Derived.Test.YtmeddeaphmpjcaaEngT
import Derived.Test.YtmeddeaphmpjcaaEngK
import Derived.Test.YtmeddeaphmpjcaaOwnR
import Derived.Test.YtmeddeaphmpjcaaProg
namespace Go.Proofs.Ytmeddeaphmpjcaa
open Go.RowKit

theorem onesV_app (a b : List OneM) : onesV a ++ onesV b = onesV (a ++ b) := by simp [onesV]
theorem onesV_one (l : List OneM) : ∀ u ∈ onesV l, u.oneCell' = true := by
  intro u hu
  simp only [onesV, List.mem_flatten, List.mem_map] at hu
  obtain ⟨_, ⟨o, _, rfl⟩, hu⟩ := hu
  simp only [OneM.cells, List.mem_cons, List.not_mem_nil, or_false] at hu
  rcases hu with rfl | rfl | rfl | rfl | rfl | rfl | rfl | rfl | rfl | rfl | rfl | rfl | rfl <;> rfl
def dela_Q (g : Nat) (n : Nat) (cp : Nat) (i : Nat) (base : Nat) (l : List OneM) (w : World) : Exit → Act → World → Prop := bodyPost Try.prog Try.f22 (fun e w' => e = .returned (.slice (some ⟨g, 0, none⟩) (n - 1) cp) ∧ OwnR w' base 61 13 (some ⟨g, 0, none⟩) (n - 1) cp (onesV (l.eraseIdx i)) ∧ Kept (fun x => x = g) w w')
def dela_n1 : Array Bool := #[false, false, false, false, false, false, false, false]
def dela_n2 : Array Bool := #[true, true, false, true, true, false, false, false]
def dela_n3 : Array Bool := #[true, true, true, true, true, true, false, false]
theorem dela_t2 (g : Nat) (n : Nat) (cp : Nat) (i : Nat) (w : World) : tailP [0, 6, 7, 20, 21, 23, 24] (tailX Try.prog 33 (opsOf (getCode (bodyOf Try.f22) [1, 1, 1, 1, 0])) 8 dela_n1 ⟨[(0, .slice (some ⟨g, 0, none⟩) n cp), (1, .int .i64 (i : Int)), (2, .int .i64 ((i : Int) + 1)), (6, .slice none 0 0), (7, .int .i64 (n : Int))], [], [], w.heap.size⟩ [(0, true, oh0), (1, true, oh0), (3, true, oh0), (4, true, oh0)]) = some (⟨[], dupR [], ⟨[(0, .slice (some ⟨g, 0, none⟩) n cp), (6, .slice none 0 0), (7, .int .i64 (n : Int)), (20, .slice (some ⟨g, 0, none⟩) n cp), (21, .int .i64 (i : Int)), (23, .slice (some ⟨g, 0, none⟩) n cp), (24, .int .i64 ((i : Int) + 1))], [], [], w.heap.size⟩⟩, 4, dela_n2) := by kernel_rfl
theorem dela_e4 (g : Nat) (n : Nat) (cp : Nat) (i : Nat) (z3 : Nat) : Out.prune [0, 6, 7, 22, 25] (opStep Try.prog 33 (opsOf (getCode (bodyOf Try.f22) [1, 1, 1, 1, 0])) ⟨[(0, .slice (some ⟨g, 0, none⟩) n cp), (6, .slice none 0 0), (7, .int .i64 (n : Int)), (22, .slice (some ⟨g, 0, none⟩) i cp), (23, .slice (some ⟨g, 0, none⟩) n cp), (24, .int .i64 ((i : Int) + 1))], [], [], z3⟩ 5 oh3) = some ⟨[((0 : Int) ≤ ((i : Int) + 1) ∧ ((i : Int) + 1) ≤ ((n : Nat) : Int)) ∧ True], dupR [], ⟨[(0, .slice (some ⟨g, 0, none⟩) n cp), (6, .slice none 0 0), (7, .int .i64 (n : Int)), (22, .slice (some ⟨g, 0, none⟩) i cp), (25, .slice (some ⟨g, (bif Nat.beq cp (i + 1) then 0 else 0 + (i + 1) * 13), none⟩) (n - (i + 1)) (cp - (i + 1)))], [], [], z3⟩⟩ := by kernel_rfl
theorem dela_e5 (g : Nat) (n : Nat) (cp : Nat) (i : Nat) (z3 : Nat) : Out.prune [0, 6, 7, 22, 25] (opStep Try.prog 33 (opsOf (getCode (bodyOf Try.f22) [1, 1, 1, 1, 0])) ⟨[(0, .slice (some ⟨g, 0, none⟩) n cp), (6, .slice none 0 0), (7, .int .i64 (n : Int)), (20, .slice (some ⟨g, 0, none⟩) n cp), (21, .int .i64 (i : Int)), (25, .slice (some ⟨g, (bif Nat.beq cp (i + 1) then 0 else 0 + (i + 1) * 13), none⟩) (n - (i + 1)) (cp - (i + 1)))], [], [], z3⟩ 2 oh2) = some ⟨[(0 : Int) ≤ (i : Int) ∧ (i : Int) ≤ ((cp : Nat) : Int)], dupR [], ⟨[(0, .slice (some ⟨g, 0, none⟩) n cp), (6, .slice none 0 0), (7, .int .i64 (n : Int)), (22, .slice (some ⟨g, 0, none⟩) i cp), (25, .slice (some ⟨g, (bif Nat.beq cp (i + 1) then 0 else 0 + (i + 1) * 13), none⟩) (n - (i + 1)) (cp - (i + 1)))], [], [], z3⟩⟩ := by kernel_rfl
theorem dela_e6 (g : Nat) (n : Nat) (cp : Nat) (i : Nat) (z3 : Nat) : Out.prune [0, 6, 7, 22, 23, 24] (opStep Try.prog 33 (opsOf (getCode (bodyOf Try.f22) [1, 1, 1, 1, 0])) ⟨[(0, .slice (some ⟨g, 0, none⟩) n cp), (6, .slice none 0 0), (7, .int .i64 (n : Int)), (20, .slice (some ⟨g, 0, none⟩) n cp), (21, .int .i64 (i : Int)), (23, .slice (some ⟨g, 0, none⟩) n cp), (24, .int .i64 ((i : Int) + 1))], [], [], z3⟩ 2 oh2) = some ⟨[(0 : Int) ≤ (i : Int) ∧ (i : Int) ≤ ((cp : Nat) : Int)], dupR [], ⟨[(0, .slice (some ⟨g, 0, none⟩) n cp), (6, .slice none 0 0), (7, .int .i64 (n : Int)), (22, .slice (some ⟨g, 0, none⟩) i cp), (23, .slice (some ⟨g, 0, none⟩) n cp), (24, .int .i64 ((i : Int) + 1))], [], [], z3⟩⟩ := by kernel_rfl
theorem dela_e7 (g : Nat) (n : Nat) (cp : Nat) (i : Nat) (z3 : Nat) : Out.prune [0, 6, 7, 20, 21, 25] (opStep Try.prog 33 (opsOf (getCode (bodyOf Try.f22) [1, 1, 1, 1, 0])) ⟨[(0, .slice (some ⟨g, 0, none⟩) n cp), (6, .slice none 0 0), (7, .int .i64 (n : Int)), (20, .slice (some ⟨g, 0, none⟩) n cp), (21, .int .i64 (i : Int)), (23, .slice (some ⟨g, 0, none⟩) n cp), (24, .int .i64 ((i : Int) + 1))], [], [], z3⟩ 5 oh3) = some ⟨[((0 : Int) ≤ ((i : Int) + 1) ∧ ((i : Int) + 1) ≤ ((n : Nat) : Int)) ∧ True], dupR [], ⟨[(0, .slice (some ⟨g, 0, none⟩) n cp), (6, .slice none 0 0), (7, .int .i64 (n : Int)), (20, .slice (some ⟨g, 0, none⟩) n cp), (21, .int .i64 (i : Int)), (25, .slice (some ⟨g, (bif Nat.beq cp (i + 1) then 0 else 0 + (i + 1) * 13), none⟩) (n - (i + 1)) (cp - (i + 1)))], [], [], z3⟩⟩ := by kernel_rfl
theorem dela_t9 (g : Nat) (n : Nat) (cp : Nat) (i : Nat) (W3 : World) : tailP [0, 6, 7] (tailX Try.prog 33 (opsOf (getCode (bodyOf Try.f22) [1, 1, 1, 1, 0])) 1 #[true, true, true, true, true, true, true, false] ⟨[(26, .slice (some ⟨g, 0, none⟩) (n - 1) cp), (0, .slice (some ⟨g, 0, none⟩) n cp), (6, .slice none 0 0), (7, .int .i64 (n : Int)), (22, .slice (some ⟨g, 0, none⟩) i cp), (25, .slice (some ⟨g, (bif Nat.beq cp (i + 1) then 0 else 0 + (i + 1) * 13), none⟩) (n - (i + 1)) (cp - (i + 1)))], [], [], W3.heap.size⟩ [(7, false, oh0)]) = some (⟨[], dupR [], ⟨[(0, .slice (some ⟨g, 0, none⟩) (n - 1) cp), (6, .slice none 0 0), (7, .int .i64 (n : Int))], [], [], W3.heap.size⟩⟩, 0, #[true, true, true, true, true, true, true, true]) := by kernel_rfl
set_option maxRecDepth 100000 in
set_option maxHeartbeats 4000000 in
theorem delete_any (g n cp i base : Nat) (l : List OneM) (hl : l.length = n) (hi : i < n) (hn : n ≤ 64) (w : World) (hO : OwnR w base 61 13 (some ⟨g, 0, none⟩) n cp (onesV l)) :
    Calls Try.prog 22 #[.slice (some ⟨g, 0, none⟩) n cp, .int .i64 (i : Int), .int .i64 ((i : Int) + 1)] w (fun e w' => e = .returned (.slice (some ⟨g, 0, none⟩) (n - 1) cp) ∧ OwnR w' base 61 13 (some ⟨g, 0, none⟩) (n - 1) cp (onesV (l.eraseIdx i)) ∧ Kept (fun x => x = g) w w') := by
  refine calls_of_holds (S := (fun _ => False)) (l := [.slice (some ⟨g, 0, none⟩) n cp, .int .i64 (i : Int), .int .i64 ((i : Int) + 1)]) (n := 33) Try.func22 (body_of (by kernel_rfl)) rfl (by simp) (MemOk.none w _) ?_
  obtain ⟨r, hB, hnc, hcm, hrl⟩ : ∃ r, Blk w g 61 (onesV l ++ r) ∧ n ≤ cp ∧ cp ≤ maxLen ∧ (onesV l ++ r).length = cp * 13 := by
    rcases hO.blk with ⟨h, _⟩ | ⟨g', r, h, _, h2, h3, h4, h5⟩
    · cases h
    · cases h
      exact ⟨r, h2, h3, h4, h5⟩
  refine hgE 32 [oh0, oh0, oh0, oh0, oh0, oh0, oh2, oh0, oh0, oh0, oh0, oh0, oh0, oh0] [0, 1, 2, 6, 7] [oE (((0 : Int) ≤ (i : Int) ∧ (i : Int) ≤ ((i : Int) + 1) ∧ ((i : Int) + 1) ≤ (n : Int) ∧ (n : Int) ≤ ((cp : Nat) : Int)) ∧ i < n), oE (((i : Int) == ((i : Int) + 1)) = false) (beq_eq_false_iff_ne.2 (by omega))] [] [.code [1, 1, 1, 1, 0], .code [1, 1, 1, 1, 1]] ⟨[(0, .slice (some ⟨g, 0, none⟩) n cp), (1, .int .i64 (i : Int)), (2, .int .i64 ((i : Int) + 1)), (6, .slice none 0 0), (7, .int .i64 (n : Int))], [], [], w.heap.size⟩ ?_
  refine holds_anyStart (f := 8) (ls := dela_n1) (by kernel_rfl) (by kernel_rfl) (by kernel_rfl) (by kernel_rfl) ?_
  refine holds_tail panicOk_body _ _ (dela_t2 g n cp i w) trivial ?_
  suffices HZ3 : ∀ z3 : Nat, w.heap.size ≤ z3 → Holds [] Try.prog (bodyOf Try.f22) 33 w (fun _ => False) (dela_Q g n cp i base l w) [.any [1, 1, 1, 1, 0] 2 dela_n3, .code [1, 1, 1, 1, 1]] ⟨[(0, .slice (some ⟨g, 0, none⟩) n cp), (6, .slice none 0 0), (7, .int .i64 (n : Int)), (22, .slice (some ⟨g, 0, none⟩) i cp), (25, .slice (some ⟨g, (bif Nat.beq cp (i + 1) then 0 else 0 + (i + 1) * 13), none⟩) (n - (i + 1)) (cp - (i + 1)))], [], [], z3⟩ by
    have A3_0 : ∀ z3 : Nat, w.heap.size ≤ z3 → Holds [] Try.prog (bodyOf Try.f22) 33 w (fun _ => False) (dela_Q g n cp i base l w) [.any [1, 1, 1, 1, 0] 2 dela_n3, .code [1, 1, 1, 1, 1]] ⟨[(0, .slice (some ⟨g, 0, none⟩) n cp), (6, .slice none 0 0), (7, .int .i64 (n : Int)), (22, .slice (some ⟨g, 0, none⟩) i cp), (25, .slice (some ⟨g, (bif Nat.beq cp (i + 1) then 0 else 0 + (i + 1) * 13), none⟩) (n - (i + 1)) (cp - (i + 1)))], [], [], z3⟩ := by
      intro z3 hz3
      exact HZ3 z3 hz3
    have A3_1 : ∀ z3 : Nat, w.heap.size ≤ z3 → Holds [] Try.prog (bodyOf Try.f22) 33 w (fun _ => False) (dela_Q g n cp i base l w) [.any [1, 1, 1, 1, 0] 3 #[true, true, true, true, true, false, false, false], .code [1, 1, 1, 1, 1]] ⟨[(0, .slice (some ⟨g, 0, none⟩) n cp), (6, .slice none 0 0), (7, .int .i64 (n : Int)), (22, .slice (some ⟨g, 0, none⟩) i cp), (23, .slice (some ⟨g, 0, none⟩) n cp), (24, .int .i64 ((i : Int) + 1))], [], [], z3⟩ := by
      intro z3 hz3
      exact holds_anyAll (l := [5]) (by kernel_rfl) (by simp) ⟨edge_op (ls' := dela_n3) (by kernel_rfl) (dela_e4 g n cp i z3) ⟨⟨by omega, trivial⟩, trivial⟩ (A3_0 z3 hz3), trivial⟩
    have A3_2 : ∀ z3 : Nat, w.heap.size ≤ z3 → Holds [] Try.prog (bodyOf Try.f22) 33 w (fun _ => False) (dela_Q g n cp i base l w) [.any [1, 1, 1, 1, 0] 3 #[true, true, false, true, true, true, false, false], .code [1, 1, 1, 1, 1]] ⟨[(0, .slice (some ⟨g, 0, none⟩) n cp), (6, .slice none 0 0), (7, .int .i64 (n : Int)), (20, .slice (some ⟨g, 0, none⟩) n cp), (21, .int .i64 (i : Int)), (25, .slice (some ⟨g, (bif Nat.beq cp (i + 1) then 0 else 0 + (i + 1) * 13), none⟩) (n - (i + 1)) (cp - (i + 1)))], [], [], z3⟩ := by
      intro z3 hz3
      exact holds_anyAll (l := [2]) (by kernel_rfl) (by simp) ⟨edge_op (ls' := dela_n3) (by kernel_rfl) (dela_e5 g n cp i z3) ⟨⟨by omega, by omega⟩, trivial⟩ (A3_0 z3 hz3), trivial⟩
    have A3_3 : ∀ z3 : Nat, w.heap.size ≤ z3 → Holds [] Try.prog (bodyOf Try.f22) 33 w (fun _ => False) (dela_Q g n cp i base l w) [.any [1, 1, 1, 1, 0] 4 dela_n2, .code [1, 1, 1, 1, 1]] ⟨[(0, .slice (some ⟨g, 0, none⟩) n cp), (6, .slice none 0 0), (7, .int .i64 (n : Int)), (20, .slice (some ⟨g, 0, none⟩) n cp), (21, .int .i64 (i : Int)), (23, .slice (some ⟨g, 0, none⟩) n cp), (24, .int .i64 ((i : Int) + 1))], [], [], z3⟩ := by
      intro z3 hz3
      exact holds_anyAll (l := [2, 5]) (by kernel_rfl) (by simp) ⟨edge_op (ls' := #[true, true, true, true, true, false, false, false]) (by kernel_rfl) (dela_e6 g n cp i z3) ⟨⟨by omega, by omega⟩, trivial⟩ (A3_1 z3 hz3), edge_op (ls' := #[true, true, false, true, true, true, false, false]) (by kernel_rfl) (dela_e7 g n cp i z3) ⟨⟨by omega, trivial⟩, trivial⟩ (A3_2 z3 hz3), trivial⟩
    exact A3_3 _ (Nat.le_refl _)
  intro z3 hz3
  refine holds_anyV (i := 6) (ls' := #[true, true, true, true, true, true, true, false]) (w := w) (S' := (fun x => x = g)) (Y := Unit) (dst := (some 26)) (x := Builtin.append_ #[57, 57] 57 #[.slice (some ⟨g, 0, none⟩) i cp, .slice (some ⟨g, (bif Nat.beq cp (i + 1) then 0 else 0 + (i + 1) * 13), none⟩) (n - (i + 1)) (cp - (i + 1))]) (fun _ => .slice (some ⟨g, 0, none⟩) (n - 1) cp) [] (fun _ W_ => OwnR W_ base 61 13 (some ⟨g, 0, none⟩) (n - 1) cp (onesV (l.eraseIdx i))) (fun _ => [(26, .slice (some ⟨g, 0, none⟩) (n - 1) cp), (0, .slice (some ⟨g, 0, none⟩) n cp), (6, .slice none 0 0), (7, .int .i64 (n : Int)), (22, .slice (some ⟨g, 0, none⟩) i cp), (25, .slice (some ⟨g, (bif Nat.beq cp (i + 1) then 0 else 0 + (i + 1) * 13), none⟩) (n - (i + 1)) (cp - (i + 1)))]) (by kernel_rfl) (by kernel_rfl) (by kernel_rfl) (by kernel_rfl) (fun _ => rfl) (fun wx hm => ?_) (fun _ W3 hX3 hm3 => ?_)
  · obtain ⟨inf, hi1, hi2⟩ := Option.map_eq_some_iff.1 (show (Try.prog.info? 61).map (·.size) = some 13 by kernel_rfl)
    have hlt : (onesV (l.take i)).length = i * 13 := by rw [onesV_len, List.length_take]; omega
    have hld : (onesV (l.drop (i + 1))).length = (n - (i + 1)) * 13 := by rw [onesV_len, List.length_drop, hl]
    have hsp : onesV l = onesV (l.take (i + 1)) ++ onesV (l.drop (i + 1)) := by rw [onesV_app, List.take_append_drop]
    have hl1 : (onesV (l.take (i + 1))).length = (i + 1) * 13 := by rw [onesV_len, List.length_take]; omega
    have hBx := hB.kept hm.kept (fun h => h)
    have hOx : OwnR wx base 61 13 (some ⟨g, 0, none⟩) i cp (onesV (l.take i)) := by
      have e1 : onesV l ++ r = onesV (l.take i) ++ (onesV (l.drop i) ++ r) := by rw [← List.append_assoc, onesV_app, List.take_append_drop]
      exact ownR_of (hO.own g ⟨_, rfl, rfl⟩).1 (e1 ▸ hBx) (by omega) hcm hlt (by rw [← e1]; exact hrl)
    obtain ⟨w', h1, h2, h3⟩ := run_append_fits (P := Try.prog) (w := wx) base 57 57 61 inf 13 (by kernel_rfl) hi1 hi2 g i cp (onesV (l.take i)) hOx ⟨g, (bif Nat.beq cp (i + 1) then 0 else 0 + (i + 1) * 13), none⟩ (n - (i + 1)) (cp - (i + 1)) (onesV (l.drop (i + 1))) hld (fun j u hj => by
      have hj2 := (List.getElem?_eq_some_iff.1 hj).1
      have hne : Nat.beq cp (i + 1) = false := by
        cases hb : Nat.beq cp (i + 1) with
        | false => rfl
        | true => have := Nat.eq_of_beq_eq_true hb; omega
      rw [hne, add_norm]
      refine (hBx.cell _).trans ?_
      show (onesV l ++ r)[0 + (i + 1) * 13 + j]? = _
      rw [hsp, List.append_assoc, List.getElem?_append_right (by omega), hl1, show 0 + (i + 1) * 13 + j - (i + 1) * 13 = j by omega, List.getElem?_append_left hj2]
      exact hj) (onesV_one _) (by omega)
    have e2 : i + (n - (i + 1)) = n - 1 := by omega
    rw [e2] at h1 h2
    rw [onesV_app, ← List.eraseIdx_eq_take_drop_succ] at h2
    exact ⟨(), w', h1, h2, hm.offA (fun _ h => h.elim) (Kept.of_grown (S := (fun x => x = g)) h3 (fun k _ e => by cases e; rfl)) (fun x h => .inl h) (fun b hb => by cases hb)⟩
  refine holds_tail panicOk_body _ _ (dela_t9 g n cp i W3) trivial ?_
  refine holds_done (by kernel_rfl) ?_
  refine hgE 10 [oh0, oh0, oh0, oh0, oh2] [0, 6, 31] [oE (((0 : Int) ≤ (((n - 1) : Nat) : Int) ∧ (((n - 1) : Nat) : Int) ≤ (n : Int) ∧ (n : Int) ≤ ((cp : Nat) : Int)) ∧ (n - 1) < cp)] [] [.ops [1, 1, 1, 1, 1, 0] [5], .code [1, 1, 1, 1, 1, 1]] ⟨[(0, .slice (some ⟨g, 0, none⟩) (n - 1) cp), (6, .slice none 0 0), (31, .slice (some ⟨g, 0 + (n - 1) * 13, none⟩) (n - (n - 1)) (cp - (n - 1)))], [], [], W3.heap.size⟩ ?_
  refine holds_opW (w := w) (S' := (fun x => x = g)) (dst := none) (x := Builtin.clear_ #[57] 0 #[.slice (some ⟨g, 0 + (n - 1) * 13, none⟩) (n - (n - 1)) (cp - (n - 1))]) (fun _ => .tuple #[]) (fun _ W_ => OwnR W_ base 61 13 (some ⟨g, 0, none⟩) (n - 1) cp (onesV (l.eraseIdx i))) (fun _ => [(0, .slice (some ⟨g, 0, none⟩) (n - 1) cp), (6, .slice none 0 0), (31, .slice (some ⟨g, 0 + (n - 1) * 13, none⟩) (n - (n - 1)) (cp - (n - 1)))]) (by kernel_rfl) (by kernel_rfl) (fun _ => rfl) (fun wx hm => ?_) (fun _ W4 hX4 hm4 => ?_)
  · have hO3 := hX3.kept hm.kept (fun _ _ ⟨_, hb, _⟩ => by cases hb)
    obtain ⟨r3, hB3, hnc3, hcm3, hrl3⟩ : ∃ r, Blk wx g 61 (onesV (l.eraseIdx i) ++ r) ∧ n - 1 ≤ cp ∧ cp ≤ maxLen ∧ (onesV (l.eraseIdx i) ++ r).length = cp * 13 := by
      rcases hO3.blk with ⟨h, _⟩ | ⟨g', r, h, _, h2, h3, h4, h5⟩
      · cases h
      · cases h
        exact ⟨r, h2, h3, h4, h5⟩
    have hle : (onesV (l.eraseIdx i)).length = (n - 1) * 13 := hO3.len
    obtain ⟨ds, w', e1, e2, e3, e4⟩ := run_clearR (P := Try.prog) wx 57 61 0 13 (.agg #[.int .i64 0, .int .i64 0, .int .i64 0, .int .i64 0, .int .i64 0, .int .i64 0, .int .i64 0, .int .i64 0, .int .i64 0, .int .i64 0, .string ⟨#[]⟩, .int .i64 0, .int .i64 0]) g (n - 1) (n - (n - 1)) (cp - (n - 1)) 61 (onesV (l.eraseIdx i) ++ r3) 112 (by kernel_rfl) (by kernel_rfl) rfl (by decide) rfl hB3 (by omega) (by rw [hrl3]; omega)
    rw [List.take_append_of_le_length (by omega), List.take_of_length_le (by omega)] at e2 e3
    exact ⟨0, w', by rw [Nat.zero_add]; exact e1, ownR_of (hO.own g ⟨_, rfl, rfl⟩).1 e2 (by omega) hcm hle (by rw [e3, hrl3]), MemOk.offA (MemOk.bck hm3 hm) (fun _ h => h) e4 (fun _ h => .inl h) (fun b hb => by cases hb)⟩
  refine hgE 9 [oh0, oh0] [6] [] [] [.code [1, 1, 1, 1, 1, 1, 1]] ⟨[(6, .slice (some ⟨g, 0, none⟩) (n - 1) cp)], [], [], W4.heap.size⟩ ?_
  refine hrt [] [.slice (some ⟨g, 0, none⟩) (n - 1) cp] [] ?_
  intro wx hm
  exact ⟨rfl, hX4.kept hm.kept (fun _ _ ⟨_, hb, _⟩ => by cases hb), (MemOk.bck hm4 hm).kept⟩

end Go.Proofs.Ytmeddeaphmpjcaa
