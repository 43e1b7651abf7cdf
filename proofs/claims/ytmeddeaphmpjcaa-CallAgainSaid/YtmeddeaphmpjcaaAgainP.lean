/- CallAgain: as long as a call is open its letter goes out again: the call returns true, for every input; no conditions. -/
import Derived.Test.YtmeddeaphmpjcaaRows
import Derived.Test.YtmeddeaphmpjcaaOpen
import Derived.Test.YtmeddeaphmpjcaaPost
import Derived.OpenShut
import Derived.ChangeMaps5
import Derived.Test.YtmeddeaphmpjcaaAgainL
namespace Go.Proofs.Ytmeddeaphmpjcaa
open Go.ChangeShapes Go.WideShapes Go.ChangeAt Go.RowKit Go.Deep

theorem Try.laidOut : laidOutB Try.prog = true := by kernel_rfl
theorem Try.own : ownKnob Try.prog.godebug = none := by kernel_rfl
theorem wf_bd {a : Int} (h : (Lit.int .i64 a).wf = true) : -9223372036854775808 ≤ a ∧ a ≤ 9223372036854775807 := bounds_i64 h

instance : Inhabited Num1 := ⟨⟨0⟩⟩
theorem numsAt_of {w : World} {A : Option Addr} {n : Nat} (h : FlatAt w A n [0]) : ∃ f, NumsAt w A n f := by
  refine choose_lt (α := Num1) (n := n) (p := fun k a => Num1Ok a ∧ ∃ b o, A = some ⟨b, o, none⟩ ∧ b < w.heap.size ∧ ∀ j, j < 1 → w.cell? ⟨b, o + k * 1 + j, none⟩ = a.cells[j]?) (fun k hk => ?_)
  obtain ⟨b, o, rfl, hb, hc⟩ := h k hk
  obtain ⟨_, h0, a0, rfl, w0⟩ := hc 0 0 rfl
  refine ⟨⟨a0⟩, ⟨wf_bd w0⟩, b, o, rfl, hb, fun j hj => ?_⟩
  match j, hj with
  | 0, _ => exact h0
namespace again
set_option maxRecDepth 100000 in
theorem lifted (os : Os) (started : os.Started) (H : Type) (enc : TypeId × Value → H) :
    ReturnsInHanded {} Try.checked os 3 .any (Rows.callAgainSpec.pre6 enc Try.prog Try.f3 Rows.callAgainRow.domain false) (Rows.callAgainSpec.post enc Try.prog Try.f3 false true false false) := by
  refine returnsInHanded_of_change (C := Try.checked) Try.own started (by kernel_rfl) Try.func3
    (ChangeSpec.witness6 (enc := enc) (C := Try.checked) false ⟨#[], #[.slice none 0 0, .slice none 0 0, .int .i64 0, .int .i64 0], []⟩ 8 (by kernel_rfl) (by kernel_rfl) (by kernel_rfl) (by kernel_rfl)) ?_
  intro W base args ds gs before hval0 hW _ _
  have hval : ∀ (j : Nat) t v, Try.f3.params[j]? = some t → args[j]? = some v → Value.okWide Try.prog W .any base t v := hval0
  have hW' := hW
  obtain ⟨p, q, hA0, hV, rfl, hfz, hnd⟩ := hW
  have hA : DataW.TrodAll enc Try.prog W 0 (fun _ => true) true Try.f3.params.toList args.toList ds p := hA0
  rw [Try.params3] at hA hval
  obtain ⟨v0, vs0, d0, ds0, p0, q0, hargs, rfl, rfl, h0, r0⟩ := trodAll_cons hA
  obtain ⟨v1, vs1, d1, ds1, p1, q1, rfl, rfl, rfl, h1, r1⟩ := trodAll_cons r0
  obtain ⟨v2, vs2, d2, ds2, p2, q2, rfl, rfl, rfl, h2, r2⟩ := trodAll_cons r1
  obtain ⟨v3, vs3, d3, ds3, p3, q3, rfl, rfl, rfl, h3, r3⟩ := trodAll_cons r2
  obtain ⟨rfl, rfl, rfl⟩ := trodAll_nil r3
  obtain rfl : args = #[v0, v1, v2, v3] := by cases args; simp_all
  obtain ⟨A, n, cp, rfl, hl0, hm0, hf0⟩ := open_flat Try.underlying22 (show flat Try.prog 4 3 = some [0] by kernel_rfl) (show Try.prog.cellsOf 3 = 1 by kernel_rfl) (by decide) (hval 0 22 v0 rfl rfl) h0
  obtain ⟨nums, hnums⟩ := numsAt_of hf0
  obtain ⟨B, nb, bp, rfl, hl1, hm1, hf1⟩ := open_flat Try.underlying22 (show flat Try.prog 4 3 = some [0] by kernel_rfl) (show Try.prog.cellsOf 3 = 1 by kernel_rfl) (by decide) (hval 1 22 v1 rfl rfl) h1
  obtain ⟨numb, hnumb⟩ := numsAt_of hf1
  obtain ⟨x, rfl, _, _, w2⟩ := open_int Try.underlying3 (hval 2 3 v2 rfl rfl) h2
  obtain ⟨y, rfl, _, _, w3⟩ := open_int Try.underlying3 (hval 3 3 v3 rfl rfl) h3
  clear hA0 hval0
  refine (again14_any A n cp nums B nb bp numb x y (wf_bd w2) (wf_bd w3) W hnums hnumb).mono fun e W' ⟨he, hk⟩ => ?_
  subst he
  exact ⟨_, rfl, law_post (tb := 4) Try.laidOut (by rw [Try.params3]; intro t ht; simp at ht; first | (rcases ht with rfl | rfl | rfl | rfl <;> exact ⟨by kernel_rfl, of_decide_eq_true (by kernel_rfl)⟩) | (rcases ht with rfl | rfl | rfl <;> exact ⟨by kernel_rfl, of_decide_eq_true (by kernel_rfl)⟩) | (rcases ht with rfl | rfl <;> exact ⟨by kernel_rfl, of_decide_eq_true (by kernel_rfl)⟩)) (by kernel_rfl) Try.underlying4 rfl rfl hW' hk⟩

theorem proved : Rows.CallAgainSaid :=
  OpenClaim.holds_of_wide 3 Try.f3 rfl rfl rfl rfl rfl rfl rfl ⟨rfl, rfl, rfl, rfl, rfl⟩ rfl rfl rfl rfl rfl (by kernel_rfl) Try.func3 (by kernel_rfl)
    (of_decide_eq_true (by kernel_rfl)) (by unfold Func.isWrapper; first | (rw [if_pos (by decide +kernel)]; kernel_rfl) | (rw [if_neg (by decide +kernel)]; exact ⟨rfl, rfl⟩))
    (fun os started H enc _ => lifted os started H enc)
end again
#print axioms again.proved
end Go.Proofs.Ytmeddeaphmpjcaa
