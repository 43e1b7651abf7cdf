/- GrantApart: leases of one stripe know nothing of the others: the call returns true, for every input; no conditions. -/
import Derived.Test.YtieeeijaojdbfaaRows
import Derived.Test.YtieeeijaojdbfaaActsP
import Derived.Test.YtieeeijaojdbfaaApartX
namespace Go.Proofs.Ytieeeijaojdbfaa
open Go.ChangeShapes Go.WideShapes Go.ChangeAt Go.RowKit Go.Deep

namespace apart
set_option maxRecDepth 100000 in
theorem lifted (os : Os) (started : os.Started) (H : Type) (enc : TypeId × Value → H) :
    ReturnsInHanded {} Try.checked os 6 .any (Rows.grantApartSpec.pre6 enc Try.prog Try.f6 Rows.grantApartRow.domain false) (Rows.grantApartSpec.post enc Try.prog Try.f6 false true false false) := by
  refine returnsInHanded_of_change (C := Try.checked) Try.own started (by kernel_rfl) Try.func6
    (ChangeSpec.witness6 (enc := enc) (C := Try.checked) false ⟨#[], #[.slice none 0 0], []⟩ 8 (by kernel_rfl) (by kernel_rfl) (by kernel_rfl) (by kernel_rfl)) ?_
  intro W base args ds gs before hval0 hW _ _
  have hval : ∀ (j : Nat) t v, Try.f6.params[j]? = some t → args[j]? = some v → Value.okWide Try.prog W .any base t v := hval0
  have hW' := hW
  obtain ⟨p, q, hA0, hV, rfl, hfz, hnd⟩ := hW
  have hA : DataW.TrodAll enc Try.prog W 0 (fun _ => true) true Try.f6.params.toList args.toList ds p := hA0
  rw [Try.params6] at hA hval
  obtain ⟨v0, vs0, d0, ds0, p0, q0, hargs, rfl, rfl, h0, r0⟩ := trodAll_cons hA
  obtain ⟨rfl, rfl, rfl⟩ := trodAll_nil r0
  obtain rfl : args = #[v0] := by cases args; simp_all
  obtain ⟨A, n, cp, rfl, hl, hm, hflat⟩ := open_flat Try.underlying39 acts_flat acts_cells (by decide) (hval 0 39 v0 rfl rfl) h0
  obtain ⟨acts, hacts⟩ := actsAt_of hflat
  clear hA0 hval0
  have hn : n ≤ 9223372036854775807 := by unfold maxLen at hm; omega
  refine (apart_any A n cp acts W hacts hn).mono fun e W' ⟨he, hk⟩ => ?_
  subst he
  exact ⟨_, rfl, law_post (tb := 4) Try.laidOut (by rw [Try.params6]; intro t ht; simp at ht; subst ht; exact ⟨rec_acts, types_lt.1⟩) (by kernel_rfl) Try.underlying4 rfl rfl hW' hk⟩

theorem proved : Rows.GrantApartSaid :=
  OpenClaim.holds_of_wide 6 Try.f6 rfl rfl rfl rfl rfl rfl rfl ⟨rfl, rfl, rfl, rfl, rfl⟩ rfl rfl rfl rfl rfl (by kernel_rfl) Try.func6 (by kernel_rfl)
    (of_decide_eq_true (by kernel_rfl)) (by unfold Func.isWrapper; first | (rw [if_pos (by decide +kernel)]; kernel_rfl) | (rw [if_neg (by decide +kernel)]; exact ⟨rfl, rfl⟩))
    (fun os started H enc _ => lifted os started H enc)
end apart
#print axioms apart.proved
end Go.Proofs.Ytieeeijaojdbfaa
