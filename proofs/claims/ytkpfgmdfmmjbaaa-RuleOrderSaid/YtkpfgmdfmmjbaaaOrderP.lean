/- RuleOrder: tags stand in one row: the call returns true, for every input; no conditions. -/
import Derived.Test.YtkpfgmdfmmjbaaaRows
import Derived.Test.YtkpfgmdfmmjbaaaOpen
import Derived.Test.YtkpfgmdfmmjbaaaPost
import Derived.OpenShut
import Derived.Test.YtkpfgmdfmmjbaaaOrder
namespace Go.Proofs.Ytkpfgmdfmmjbaaa
open Go.ChangeShapes Go.WideShapes Go.ChangeAt Go.RowKit Go.Deep

theorem Try.laidOut : laidOutB Try.prog = true := by kernel_rfl
theorem Try.own : ownKnob Try.prog.godebug = none := by kernel_rfl
theorem wf_bd {a : Int} (h : (Lit.int .i64 a).wf = true) : -9223372036854775808 ≤ a ∧ a ≤ 9223372036854775807 := bounds_i64 h

namespace order
set_option maxRecDepth 100000 in
theorem lifted (os : Os) (started : os.Started) (H : Type) (enc : TypeId × Value → H) :
    ReturnsInHanded {} Try.checked os 8 .any (Rows.ruleOrderSpec.pre6 enc Try.prog Try.f8 Rows.ruleOrderRow.domain false) (Rows.ruleOrderSpec.post enc Try.prog Try.f8 false true false false) := by
  refine returnsInHanded_of_change (C := Try.checked) Try.own started (by kernel_rfl) Try.func8
    (ChangeSpec.witness6 (enc := enc) (C := Try.checked) false ⟨#[], #[.agg #[.int .i64 0, .int .i64 0], .agg #[.int .i64 0, .int .i64 0], .agg #[.int .i64 0, .int .i64 0]], []⟩ 8 (by kernel_rfl) (by kernel_rfl) (by kernel_rfl) (by kernel_rfl)) ?_
  intro W base args ds gs before hval0 hW _ _
  have hval : ∀ (j : Nat) t v, Try.f8.params[j]? = some t → args[j]? = some v → Value.okWide Try.prog W .any base t v := hval0
  have hW' := hW
  obtain ⟨p, q, hA0, hV, rfl, hfz, hnd⟩ := hW
  have hA : DataW.TrodAll enc Try.prog W 0 (fun _ => true) true Try.f8.params.toList args.toList ds p := hA0
  rw [Try.params8] at hA hval
  obtain ⟨v0, vs0, d0, ds0, p0, q0, hargs, rfl, rfl, h0, r0⟩ := trodAll_cons hA
  obtain ⟨v1, vs1, d1, ds1, p1, q1, rfl, rfl, rfl, h1, r1⟩ := trodAll_cons r0
  obtain ⟨v2, vs2, d2, ds2, p2, q2, rfl, rfl, rfl, h2, r2⟩ := trodAll_cons r1
  obtain ⟨rfl, rfl, rfl⟩ := trodAll_nil r2
  obtain rfl : args = #[v0, v1, v2] := by cases args; simp_all
  obtain ⟨cs0, rfl, hz0, hc0⟩ := open_agg Try.underlying27 (show flat Try.prog 4 27 = some [0, 0] by kernel_rfl) (by kernel_rfl) (hval 0 27 v0 rfl rfl) h0
  obtain ⟨_, e0_0, a, rfl, w0_0⟩ := hc0 0 0 rfl
  obtain ⟨_, e0_1, b, rfl, w0_1⟩ := hc0 1 0 rfl
  obtain rfl : cs0 = [.int .i64 a, .int .i64 b].toArray := agg_eq hz0 (fun j hj => by
    match j, hj with
    | 0, _ => exact e0_0
    | 1, _ => exact e0_1)
  obtain ⟨cs1, rfl, hz1, hc1⟩ := open_agg Try.underlying27 (show flat Try.prog 4 27 = some [0, 0] by kernel_rfl) (by kernel_rfl) (hval 1 27 v1 rfl rfl) h1
  obtain ⟨_, e1_0, c, rfl, w1_0⟩ := hc1 0 0 rfl
  obtain ⟨_, e1_1, d, rfl, w1_1⟩ := hc1 1 0 rfl
  obtain rfl : cs1 = [.int .i64 c, .int .i64 d].toArray := agg_eq hz1 (fun j hj => by
    match j, hj with
    | 0, _ => exact e1_0
    | 1, _ => exact e1_1)
  obtain ⟨cs2, rfl, hz2, hc2⟩ := open_agg Try.underlying27 (show flat Try.prog 4 27 = some [0, 0] by kernel_rfl) (by kernel_rfl) (hval 2 27 v2 rfl rfl) h2
  obtain ⟨_, e2_0, e, rfl, w2_0⟩ := hc2 0 0 rfl
  obtain ⟨_, e2_1, g, rfl, w2_1⟩ := hc2 1 0 rfl
  obtain rfl : cs2 = [.int .i64 e, .int .i64 g].toArray := agg_eq hz2 (fun j hj => by
    match j, hj with
    | 0, _ => exact e2_0
    | 1, _ => exact e2_1)
  clear hA0 hval0
  refine (order_any a b c d e g W).mono fun e W' ⟨he, hk⟩ => ?_
  subst he
  exact ⟨_, rfl, law_post (tb := 4) Try.laidOut (by rw [Try.params8]; intro t ht; simp at ht; subst ht; exact ⟨by kernel_rfl, of_decide_eq_true (by kernel_rfl)⟩) (by kernel_rfl) Try.underlying4 rfl rfl hW' hk⟩

theorem proved : Rows.RuleOrderSaid :=
  OpenClaim.holds_of_wide 8 Try.f8 rfl rfl rfl rfl rfl rfl rfl ⟨rfl, rfl, rfl, rfl, rfl⟩ rfl rfl rfl rfl rfl (by kernel_rfl) Try.func8 (by kernel_rfl)
    (of_decide_eq_true (by kernel_rfl)) (by unfold Func.isWrapper; first | (rw [if_pos (by decide +kernel)]; kernel_rfl) | (rw [if_neg (by decide +kernel)]; exact ⟨rfl, rfl⟩))
    (fun os started H enc _ => lifted os started H enc)
end order
#print axioms order.proved
end Go.Proofs.Ytkpfgmdfmmjbaaa
