/- ShelfPlaced: a record is read in its own stripe alone: the call returns true, for every input; no conditions. -/
import Derived.Test.YtpcdccljioiiaaaRows
import Derived.Test.YtpcdccljioiiaaaOpen
import Derived.Test.YtpcdccljioiiaaaPost
import Derived.OpenShut
import Derived.Test.YtpcdccljioiiaaaPlaced
namespace Go.Proofs.Ytpcdccljioiiaaa
open Go.ChangeShapes Go.WideShapes Go.ChangeAt Go.RowKit Go.Deep

theorem Try.laidOut : laidOutB Try.prog = true := by kernel_rfl
theorem Try.own : ownKnob Try.prog.godebug = none := by kernel_rfl
theorem wf_bd {a : Int} (h : (Lit.int .i64 a).wf = true) : -9223372036854775808 ≤ a ∧ a ≤ 9223372036854775807 := bounds_i64 h

namespace placed
set_option maxRecDepth 100000 in
theorem lifted (os : Os) (started : os.Started) (H : Type) (enc : TypeId × Value → H) :
    ReturnsInHanded {} Try.checked os 7 .any (Rows.shelfPlacedSpec.pre6 enc Try.prog Try.f7 Rows.shelfPlacedRow.domain false) (Rows.shelfPlacedSpec.post enc Try.prog Try.f7 false true false false) := by
  refine returnsInHanded_of_change (C := Try.checked) Try.own started (by kernel_rfl) Try.func7
    (ChangeSpec.witness6 (enc := enc) (C := Try.checked) false ⟨#[], #[.agg #[.int .i64 0, .int .i64 0, .int .i64 0, .int .i64 0, .int .i64 0, .int .i64 0, .int .i64 0, .string ⟨#[]⟩, .string ⟨#[]⟩], .int .i64 0, .int .i64 0], []⟩ 8 (by kernel_rfl) (by kernel_rfl) (by kernel_rfl) (by kernel_rfl)) ?_
  intro W base args ds gs before hval0 hW _ _
  have hval : ∀ (j : Nat) t v, Try.f7.params[j]? = some t → args[j]? = some v → Value.okWide Try.prog W .any base t v := hval0
  have hW' := hW
  obtain ⟨p, q, hA0, hV, rfl, hfz, hnd⟩ := hW
  have hA : DataW.TrodAll enc Try.prog W 0 (fun _ => true) true Try.f7.params.toList args.toList ds p := hA0
  rw [Try.params7] at hA hval
  obtain ⟨v0, vs0, d0, ds0, p0, q0, hargs, rfl, rfl, h0, r0⟩ := trodAll_cons hA
  obtain ⟨v1, vs1, d1, ds1, p1, q1, rfl, rfl, rfl, h1, r1⟩ := trodAll_cons r0
  obtain ⟨v2, vs2, d2, ds2, p2, q2, rfl, rfl, rfl, h2, r2⟩ := trodAll_cons r1
  obtain ⟨rfl, rfl, rfl⟩ := trodAll_nil r2
  obtain rfl : args = #[v0, v1, v2] := by cases args; simp_all
  obtain ⟨cs0, rfl, hz0, hc0⟩ := open_agg Try.underlying35 (show flat Try.prog 4 35 = some [0, 0, 0, 0, 0, 0, 0, 2, 2] by kernel_rfl) (by kernel_rfl) (hval 0 35 v0 rfl rfl) h0
  obtain ⟨_, e0_0, na0, rfl, w0_0⟩ := hc0 0 0 rfl
  obtain ⟨_, e0_1, nb0, rfl, w0_1⟩ := hc0 1 0 rfl
  obtain ⟨_, e0_2, nc0, rfl, w0_2⟩ := hc0 2 0 rfl
  obtain ⟨_, e0_3, nd0, rfl, w0_3⟩ := hc0 3 0 rfl
  obtain ⟨_, e0_4, ne0, rfl, w0_4⟩ := hc0 4 0 rfl
  obtain ⟨_, e0_5, nf0, rfl, w0_5⟩ := hc0 5 0 rfl
  obtain ⟨_, e0_6, ng0, rfl, w0_6⟩ := hc0 6 0 rfl
  obtain ⟨_, e0_7, nh0, rfl, _⟩ := hc0 7 2 rfl
  obtain ⟨_, e0_8, ni0, rfl, _⟩ := hc0 8 2 rfl
  obtain rfl : cs0 = [.int .i64 na0, .int .i64 nb0, .int .i64 nc0, .int .i64 nd0, .int .i64 ne0, .int .i64 nf0, .int .i64 ng0, .string nh0, .string ni0].toArray := agg_eq hz0 (fun j hj => by
    match j, hj with
    | 0, _ => exact e0_0
    | 1, _ => exact e0_1
    | 2, _ => exact e0_2
    | 3, _ => exact e0_3
    | 4, _ => exact e0_4
    | 5, _ => exact e0_5
    | 6, _ => exact e0_6
    | 7, _ => exact e0_7
    | 8, _ => exact e0_8)
  obtain ⟨st, rfl, _, _, w1⟩ := open_int Try.underlying3 (hval 1 3 v1 rfl rfl) h1
  obtain ⟨ot, rfl, _, _, w2⟩ := open_int Try.underlying3 (hval 2 3 v2 rfl rfl) h2
  clear hA0 hval0
  refine (placed_any ⟨na0, nb0, nc0, nd0, ne0, nf0, ng0, nh0, ni0⟩ st ot ⟨wf_bd w0_0, wf_bd w0_1, wf_bd w0_2, wf_bd w0_3, wf_bd w0_4, wf_bd w0_5, wf_bd w0_6⟩ (wf_bd w1) (wf_bd w2) W).mono fun e W' ⟨he, hk⟩ => ?_
  subst he
  exact ⟨_, rfl, law_post (tb := 4) Try.laidOut (by rw [Try.params7]; intro t ht; simp at ht; first | (rcases ht with rfl | rfl | rfl <;> exact ⟨by kernel_rfl, of_decide_eq_true (by kernel_rfl)⟩) | (rcases ht with rfl | rfl <;> exact ⟨by kernel_rfl, of_decide_eq_true (by kernel_rfl)⟩)) (by kernel_rfl) Try.underlying4 rfl rfl hW' hk⟩

theorem proved : Rows.ShelfPlacedSaid :=
  OpenClaim.holds_of_wide 7 Try.f7 rfl rfl rfl rfl rfl rfl rfl ⟨rfl, rfl, rfl, rfl, rfl⟩ rfl rfl rfl rfl rfl (by kernel_rfl) Try.func7 (by kernel_rfl)
    (of_decide_eq_true (by kernel_rfl)) (by unfold Func.isWrapper; first | (rw [if_pos (by decide +kernel)]; kernel_rfl) | (rw [if_neg (by decide +kernel)]; exact ⟨rfl, rfl⟩))
    (fun os started H enc _ => lifted os started H enc)
end placed
#print axioms placed.proved
end Go.Proofs.Ytpcdccljioiiaaa
