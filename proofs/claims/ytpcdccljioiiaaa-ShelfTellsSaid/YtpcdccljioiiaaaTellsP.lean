/- ShelfTells: whatever records and texts: packed and taken up as the document says: the call returns true, for every input; no conditions. -/
import Derived.Test.YtpcdccljioiiaaaRows
import Derived.Test.YtpcdccljioiiaaaOpen
import Derived.Test.YtpcdccljioiiaaaPost
import Derived.OpenShut
import Derived.ChangeMaps5
import Derived.Test.YtpcdccljioiiaaaTells
namespace Go.Proofs.Ytpcdccljioiiaaa
open Go.ChangeShapes Go.WideShapes Go.ChangeAt Go.RowKit Go.Deep

theorem Try.laidOut : laidOutB Try.prog = true := by kernel_rfl
theorem Try.own : ownKnob Try.prog.godebug = none := by kernel_rfl
theorem wf_bd {a : Int} (h : (Lit.int .i64 a).wf = true) : -9223372036854775808 ≤ a ∧ a ≤ 9223372036854775807 := bounds_i64 h

namespace tells
set_option maxRecDepth 100000 in
theorem lifted (os : Os) (started : os.Started) (H : Type) (enc : TypeId × Value → H) :
    ReturnsInHanded {} Try.checked os 3 .any (Rows.shelfTellsSpec.pre6 enc Try.prog Try.f3 Rows.shelfTellsRow.domain false) (Rows.shelfTellsSpec.post enc Try.prog Try.f3 false true false false) := by
  refine returnsInHanded_of_change (C := Try.checked) Try.own started (by kernel_rfl) Try.func3
    (ChangeSpec.witness6 (enc := enc) (C := Try.checked) false ⟨#[], #[.int .i64 0, .agg #[.bool false, .int .i64 0, .int .i64 0, .int .i64 0, .string ⟨#[]⟩, .bool false, .int .i64 0, .int .i64 0, .int .i64 0, .string ⟨#[]⟩], .string ⟨#[]⟩], []⟩ 8 (by kernel_rfl) (by kernel_rfl) (by kernel_rfl) (by kernel_rfl)) ?_
  intro W base args ds gs before hval0 hW _ _
  have hval : ∀ (j : Nat) t v, Try.f3.params[j]? = some t → args[j]? = some v → Value.okWide Try.prog W .any base t v := hval0
  have hW' := hW
  obtain ⟨p, q, hA0, hV, rfl, hfz, hnd⟩ := hW
  have hA : DataW.TrodAll enc Try.prog W 0 (fun _ => true) true Try.f3.params.toList args.toList ds p := hA0
  rw [Try.params3] at hA hval
  obtain ⟨v0, vs0, d0, ds0, p0, q0, hargs, rfl, rfl, h0, r0⟩ := trodAll_cons hA
  obtain ⟨v1, vs1, d1, ds1, p1, q1, rfl, rfl, rfl, h1, r1⟩ := trodAll_cons r0
  obtain ⟨v2, vs2, d2, ds2, p2, q2, rfl, rfl, rfl, h2, r2⟩ := trodAll_cons r1
  obtain ⟨rfl, rfl, rfl⟩ := trodAll_nil r2
  obtain rfl : args = #[v0, v1, v2] := by cases args; simp_all
  obtain ⟨st, rfl, _, _, w0⟩ := open_int Try.underlying3 (hval 0 3 v0 rfl rfl) h0
  obtain ⟨cs1, rfl, hz1, hc1⟩ := open_agg Try.underlying25 (show flat Try.prog 4 25 = some [1, 0, 0, 0, 2, 1, 0, 0, 0, 2] by kernel_rfl) (by kernel_rfl) (hval 1 25 v1 rfl rfl) h1
  obtain ⟨_, e1_0, b0, rfl⟩ := hc1 0 1 rfl
  obtain ⟨_, e1_1, a1, rfl, w1_1⟩ := hc1 1 0 rfl
  obtain ⟨_, e1_2, a2, rfl, w1_2⟩ := hc1 2 0 rfl
  obtain ⟨_, e1_3, a3, rfl, w1_3⟩ := hc1 3 0 rfl
  obtain ⟨_, e1_4, s4, rfl, _⟩ := hc1 4 2 rfl
  obtain ⟨_, e1_5, b5, rfl⟩ := hc1 5 1 rfl
  obtain ⟨_, e1_6, a6, rfl, w1_6⟩ := hc1 6 0 rfl
  obtain ⟨_, e1_7, a7, rfl, w1_7⟩ := hc1 7 0 rfl
  obtain ⟨_, e1_8, a8, rfl, w1_8⟩ := hc1 8 0 rfl
  obtain ⟨_, e1_9, s9, rfl, _⟩ := hc1 9 2 rfl
  obtain rfl : cs1 = [.bool b0, .int .i64 a1, .int .i64 a2, .int .i64 a3, .string s4, .bool b5, .int .i64 a6, .int .i64 a7, .int .i64 a8, .string s9].toArray := agg_eq hz1 (fun j hj => by
    match j, hj with
    | 0, _ => exact e1_0
    | 1, _ => exact e1_1
    | 2, _ => exact e1_2
    | 3, _ => exact e1_3
    | 4, _ => exact e1_4
    | 5, _ => exact e1_5
    | 6, _ => exact e1_6
    | 7, _ => exact e1_7
    | 8, _ => exact e1_8
    | 9, _ => exact e1_9)
  obtain ⟨s, rfl, _, _, w2⟩ := Go.ChangeMaps.open_string Try.underlying9 (hval 2 9 v2 rfl rfl) h2
  clear hA0 hval0
  refine (tells_any st ⟨b0, a1, a2, a3, s4, b5, a6, a7, a8, s9⟩ s W).mono fun e W' ⟨he, hk⟩ => ?_
  subst he
  exact ⟨_, rfl, law_post (tb := 4) Try.laidOut (by rw [Try.params3]; intro t ht; simp at ht; first | (rcases ht with rfl | rfl | rfl <;> exact ⟨by kernel_rfl, of_decide_eq_true (by kernel_rfl)⟩) | (rcases ht with rfl | rfl <;> exact ⟨by kernel_rfl, of_decide_eq_true (by kernel_rfl)⟩)) (by kernel_rfl) Try.underlying4 rfl rfl hW' hk⟩

theorem proved : Rows.ShelfTellsSaid :=
  OpenClaim.holds_of_wide 3 Try.f3 rfl rfl rfl rfl rfl rfl rfl ⟨rfl, rfl, rfl, rfl, rfl⟩ rfl rfl rfl rfl rfl (by kernel_rfl) Try.func3 (by kernel_rfl)
    (of_decide_eq_true (by kernel_rfl)) (by unfold Func.isWrapper; first | (rw [if_pos (by decide +kernel)]; kernel_rfl) | (rw [if_neg (by decide +kernel)]; exact ⟨rfl, rfl⟩))
    (fun os started H enc _ => lifted os started H enc)
end tells
#print axioms tells.proved
end Go.Proofs.Ytpcdccljioiiaaa
