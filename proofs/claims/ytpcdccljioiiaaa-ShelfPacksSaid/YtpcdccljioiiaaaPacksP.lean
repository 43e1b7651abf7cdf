/- ShelfPacks: the same of records that are right: the call returns true, for every input; no conditions. -/
import Derived.Test.YtpcdccljioiiaaaRows
import Derived.Test.YtpcdccljioiiaaaOpen
import Derived.Test.YtpcdccljioiiaaaPost
import Derived.OpenShut
import Derived.Test.YtpcdccljioiiaaaPacks
namespace Go.Proofs.Ytpcdccljioiiaaa
open Go.ChangeShapes Go.WideShapes Go.ChangeAt Go.RowKit Go.Deep

theorem Try.laidOut : laidOutB Try.prog = true := by kernel_rfl
theorem Try.own : ownKnob Try.prog.godebug = none := by kernel_rfl
theorem wf_bd {a : Int} (h : (Lit.int .i64 a).wf = true) : -9223372036854775808 ≤ a ∧ a ≤ 9223372036854775807 := bounds_i64 h

namespace packs
set_option maxRecDepth 100000 in
theorem lifted (os : Os) (started : os.Started) (H : Type) (enc : TypeId × Value → H) :
    ReturnsInHanded {} Try.checked os 4 .any (Rows.shelfPacksSpec.pre6 enc Try.prog Try.f4 Rows.shelfPacksRow.domain false) (Rows.shelfPacksSpec.post enc Try.prog Try.f4 false true false false) := by
  refine returnsInHanded_of_change (C := Try.checked) Try.own started (by kernel_rfl) Try.func4
    (ChangeSpec.witness6 (enc := enc) (C := Try.checked) false ⟨#[], #[.int .i64 0, .agg #[.int .i64 0, .int .i64 0, .int .i64 0, .int .i64 0, .int .i64 0, .int .i64 0, .int .i64 0, .string ⟨#[]⟩, .string ⟨#[]⟩], .int .i64 0], []⟩ 8 (by kernel_rfl) (by kernel_rfl) (by kernel_rfl) (by kernel_rfl)) ?_
  intro W base args ds gs before hval0 hW _ _
  have hval : ∀ (j : Nat) t v, Try.f4.params[j]? = some t → args[j]? = some v → Value.okWide Try.prog W .any base t v := hval0
  have hW' := hW
  obtain ⟨p, q, hA0, hV, rfl, hfz, hnd⟩ := hW
  have hA : DataW.TrodAll enc Try.prog W 0 (fun _ => true) true Try.f4.params.toList args.toList ds p := hA0
  rw [Try.params4] at hA hval
  obtain ⟨v0, vs0, d0, ds0, p0, q0, hargs, rfl, rfl, h0, r0⟩ := trodAll_cons hA
  obtain ⟨v1, vs1, d1, ds1, p1, q1, rfl, rfl, rfl, h1, r1⟩ := trodAll_cons r0
  obtain ⟨v2, vs2, d2, ds2, p2, q2, rfl, rfl, rfl, h2, r2⟩ := trodAll_cons r1
  obtain ⟨rfl, rfl, rfl⟩ := trodAll_nil r2
  obtain rfl : args = #[v0, v1, v2] := by cases args; simp_all
  obtain ⟨st, rfl, _, _, w0⟩ := open_int Try.underlying3 (hval 0 3 v0 rfl rfl) h0
  obtain ⟨cs1, rfl, hz1, hc1⟩ := open_agg Try.underlying35 (show flat Try.prog 4 35 = some [0, 0, 0, 0, 0, 0, 0, 2, 2] by kernel_rfl) (by kernel_rfl) (hval 1 35 v1 rfl rfl) h1
  obtain ⟨_, e1_0, na1, rfl, w1_0⟩ := hc1 0 0 rfl
  obtain ⟨_, e1_1, nb1, rfl, w1_1⟩ := hc1 1 0 rfl
  obtain ⟨_, e1_2, nc1, rfl, w1_2⟩ := hc1 2 0 rfl
  obtain ⟨_, e1_3, nd1, rfl, w1_3⟩ := hc1 3 0 rfl
  obtain ⟨_, e1_4, ne1, rfl, w1_4⟩ := hc1 4 0 rfl
  obtain ⟨_, e1_5, nf1, rfl, w1_5⟩ := hc1 5 0 rfl
  obtain ⟨_, e1_6, ng1, rfl, w1_6⟩ := hc1 6 0 rfl
  obtain ⟨_, e1_7, nh1, rfl, _⟩ := hc1 7 2 rfl
  obtain ⟨_, e1_8, ni1, rfl, _⟩ := hc1 8 2 rfl
  obtain rfl : cs1 = [.int .i64 na1, .int .i64 nb1, .int .i64 nc1, .int .i64 nd1, .int .i64 ne1, .int .i64 nf1, .int .i64 ng1, .string nh1, .string ni1].toArray := agg_eq hz1 (fun j hj => by
    match j, hj with
    | 0, _ => exact e1_0
    | 1, _ => exact e1_1
    | 2, _ => exact e1_2
    | 3, _ => exact e1_3
    | 4, _ => exact e1_4
    | 5, _ => exact e1_5
    | 6, _ => exact e1_6
    | 7, _ => exact e1_7
    | 8, _ => exact e1_8)
  obtain ⟨ot, rfl, _, _, w2⟩ := open_int Try.underlying3 (hval 2 3 v2 rfl rfl) h2
  clear hA0 hval0
  refine (packs_any st ⟨na1, nb1, nc1, nd1, ne1, nf1, ng1, nh1, ni1⟩ ot (wf_bd w0) ⟨wf_bd w1_0, wf_bd w1_1, wf_bd w1_2, wf_bd w1_3, wf_bd w1_4, wf_bd w1_5, wf_bd w1_6⟩ (wf_bd w2) W).mono fun e W' ⟨he, hk⟩ => ?_
  subst he
  exact ⟨_, rfl, law_post (tb := 4) Try.laidOut (by rw [Try.params4]; intro t ht; simp at ht; first | (rcases ht with rfl | rfl | rfl <;> exact ⟨by kernel_rfl, of_decide_eq_true (by kernel_rfl)⟩) | (rcases ht with rfl | rfl <;> exact ⟨by kernel_rfl, of_decide_eq_true (by kernel_rfl)⟩)) (by kernel_rfl) Try.underlying4 rfl rfl hW' hk⟩

theorem proved : Rows.ShelfPacksSaid :=
  OpenClaim.holds_of_wide 4 Try.f4 rfl rfl rfl rfl rfl rfl rfl ⟨rfl, rfl, rfl, rfl, rfl⟩ rfl rfl rfl rfl rfl (by kernel_rfl) Try.func4 (by kernel_rfl)
    (of_decide_eq_true (by kernel_rfl)) (by unfold Func.isWrapper; first | (rw [if_pos (by decide +kernel)]; kernel_rfl) | (rw [if_neg (by decide +kernel)]; exact ⟨rfl, rfl⟩))
    (fun os started H enc _ => lifted os started H enc)
end packs
#print axioms packs.proved
end Go.Proofs.Ytpcdccljioiiaaa
