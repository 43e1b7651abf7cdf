/- An ask that comes again, in plain Lean; raw asks of layer 9 as a slice reads. -/
import Derived.Test.YtieeeijaojdbfaaGrantX
import Derived.Test.YtieeeijaojdbfaaFitF
namespace Go.Proofs.Ytieeeijaojdbfaa
open Go.RowKit

theorem do_again (K : KeepM) (now fr id : Int) (q : AskM) (hfr : fr = 200 ∨ fr = 201) (h1 : 1 < id) (h2 : id ≤ 1099511627776) (h3 : K.i0 < id) (h4 : K.i1 < id) (ho : KeepOk K) :
    ∃ K' s, doF K now fr id q = (K', s, true) ∧ KeepOk K' ∧ K'.ls.length = K.ls.length ∧ K'.i0 ≤ id ∧ K'.i1 ≤ id ∧ (∀ now' q', doF K' now' fr id q' = (K', s, true)) ∧ ∀ now' q', doF K' now' fr (id - 1) q' = (K', ⟨0, 0, 0⟩, false) := by
  have key : KeepOk ⟨(ansF K.ls (clampT now) fr q).2, K.i0, K.i1, K.s0, K.s1⟩ :=
    ⟨by show 1 ≤ (ansF K.ls (clampT now) fr q).2.length; rw [length_ansF]; exact ho.n1, by show (ansF K.ls (clampT now) fr q).2.length ≤ 8; rw [length_ansF]; exact ho.n8, ansF_ep _ _ _ _ ho.ep⟩
  have a1 : ¬ (fr < 200 ∨ fr ≥ 202 ∨ id < 1 ∨ id > 1099511627776) := by omega
  have a2 : ¬ (fr < 200 ∨ fr ≥ 202 ∨ id - 1 < 1 ∨ id - 1 > 1099511627776) := by omega
  rcases hfr with rfl | rfl
  · refine ⟨{ K with ls := (ansF K.ls (clampT now) 200 q).2, i0 := id, s0 := (ansF K.ls (clampT now) 200 q).1 }, (ansF K.ls (clampT now) 200 q).1, ?_, ⟨key.n1, key.n8, key.ep⟩, length_ansF _ _ _ _, Int.le_refl _, by show K.i1 ≤ id; omega, fun now' q' => ?_, fun now' q' => ?_⟩
    · unfold doF
      rw [if_neg a1, if_pos rfl, if_neg (by omega), if_pos (by omega)]
    · unfold doF
      rw [if_neg a1, if_pos rfl, if_neg (by simp), if_neg (by simp)]
    · unfold doF
      rw [if_neg a2, if_pos rfl, if_pos (by show id - 1 < id; omega)]
  · refine ⟨{ K with ls := (ansF K.ls (clampT now) 201 q).2, i1 := id, s1 := (ansF K.ls (clampT now) 201 q).1 }, (ansF K.ls (clampT now) 201 q).1, ?_, ⟨key.n1, key.n8, key.ep⟩, length_ansF _ _ _ _, by show K.i0 ≤ id; omega, Int.le_refl _, fun now' q' => ?_, fun now' q' => ?_⟩
    · unfold doF
      rw [if_neg a1, if_neg (by omega), if_neg (by omega), if_pos (by omega)]
    · unfold doF
      rw [if_neg a1, if_neg (by omega), if_neg (by simp), if_neg (by simp)]
    · unfold doF
      rw [if_neg a2, if_neg (by omega), if_pos (by show id - 1 < id; omega)]
def RawsAt (w : World) (A : Option Addr) (n : Nat) (raws : Nat → Raw9) : Prop :=
  ∀ k, k < n → Raw9Ok (raws k) ∧ ∃ b o, A = some ⟨b, o, none⟩ ∧ b < w.heap.size ∧ ∀ j, j < 9 → w.cell? ⟨b, o + k * 9 + j, none⟩ = (raws k).cells[j]?
theorem raw_win {w : World} {b o k : Nat} {a : Raw9} (hb : b < w.heap.size) (hc : ∀ j, j < 9 → w.cell? ⟨b, o + k * 9 + j, none⟩ = a.cells[j]?) :
    ¬ False ∧ b < w.heap.size ∧ ∀ j v, a.cells[j]? = some v → w.cell? ⟨b, o + k * 9 + j, none⟩ = some v :=
  ⟨id, hb, fun j v hj => by
    have hlt : j < 9 := by
      have := (List.getElem?_eq_some_iff.1 hj).1
      simpa [Raw9.cells] using this
    rw [hc j hlt, hj]⟩
end Go.Proofs.Ytieeeijaojdbfaa
