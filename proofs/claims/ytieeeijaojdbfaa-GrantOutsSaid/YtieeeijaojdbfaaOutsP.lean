/- GrantOuts: a node is out from AskOut on, through every lease, till AskIn by the last lease; and nobody else can end it: the call returns true, for every input; no conditions. -/
import Derived.Test.YtieeeijaojdbfaaRows
import Derived.Test.YtieeeijaojdbfaaActsP
import Derived.Test.YtieeeijaojdbfaaOutsW
namespace Go.Proofs.Ytieeeijaojdbfaa
open Go.ChangeShapes Go.WideShapes Go.ChangeAt Go.RowKit Go.Deep

namespace outs
set_option maxRecDepth 100000 in
theorem lifted (os : Os) (started : os.Started) (H : Type) (enc : TypeId × Value → H) :
    ReturnsInHanded {} Try.checked os 7 .any (Rows.grantOutsSpec.pre6 enc Try.prog Try.f7 Rows.grantOutsRow.domain false) (Rows.grantOutsSpec.post enc Try.prog Try.f7 false true false false) := by
  refine returnsInHanded_of_change (C := Try.checked) Try.own started (by kernel_rfl) Try.func7
    (ChangeSpec.witness6 (enc := enc) (C := Try.checked) false ⟨#[], #[.int .i64 0, .slice none 0 0, .bool false], []⟩ 8 (by kernel_rfl) (by kernel_rfl) (by kernel_rfl) (by kernel_rfl)) ?_
  intro W base args ds gs before hval0 hW _ _
  have hval : ∀ (j : Nat) t v, Try.f7.params[j]? = some t → args[j]? = some v → Value.okWide Try.prog W .any base t v := hval0
  have hW' := hW
  obtain ⟨p, q, hA0, hV, rfl, hfz, hnd⟩ := hW
  have hA : DataW.TrodAll enc Try.prog W 0 (fun _ => true) true Try.f7.params.toList args.toList ds p := hA0
  rw [Try.params7] at hA hval
  obtain ⟨v0, vs0, d0, ds0, p0, q0, hargs, rfl, rfl, h0, r0⟩ := trodAll_cons hA
  obtain ⟨v1, vs1, d1, ds1, p1, q1, rfl, rfl, rfl, h1, r1⟩ := trodAll_cons r0
  obtain ⟨v2, vs2, d2, ds2, p2, q2, rfl, rfl, rfl, h2, r2⟩ := trodAll_cons r1
  obtain ⟨rfl, rfl, rfl⟩ := trodAll_nil r2
  obtain rfl : args = #[v0, v1, v2] := by cases args; simp_all
  obtain ⟨nd, rfl, -, -, w0⟩ := open_int Try.underlying3 (hval 0 3 v0 rfl rfl) h0
  obtain ⟨A, n, cp, rfl, hl, hm, hflat⟩ := open_flat Try.underlying39 acts_flat acts_cells (by decide) (hval 1 39 v1 rfl rfl) h1
  obtain ⟨right, rfl, -, -⟩ := open_bool Try.underlying4 (hval 2 4 v2 rfl rfl) h2
  obtain ⟨acts, hacts⟩ := actsAt_of hflat
  clear hA0 hval0
  have hn : n ≤ 9223372036854775807 := by unfold maxLen at hm; omega
  refine (outs_any nd A n cp acts right W hacts hn (wf_bd w0).1 (wf_bd w0).2).mono fun e W' ⟨he, hk⟩ => ?_
  subst he
  have hts : ∀ t ∈ Try.f7.params.toList, Try.prog.readableRec t = true ∧ t < Try.prog.types.size := by
    rw [Try.params7]
    intro t ht
    simp at ht
    rcases ht with rfl | rfl | rfl
    · exact ⟨rec_int, types_lt.2.1⟩
    · exact ⟨rec_acts, types_lt.1⟩
    · exact ⟨rec_bool, types_lt.2.2⟩
  exact ⟨_, rfl, law_post (tb := 4) Try.laidOut hts (by kernel_rfl) Try.underlying4 rfl rfl hW' hk⟩

theorem proved : Rows.GrantOutsSaid :=
  OpenClaim.holds_of_wide 7 Try.f7 rfl rfl rfl rfl rfl rfl rfl ⟨rfl, rfl, rfl, rfl, rfl⟩ rfl rfl rfl rfl rfl (by kernel_rfl) Try.func7 (by kernel_rfl)
    (of_decide_eq_true (by kernel_rfl)) (by unfold Func.isWrapper; first | (rw [if_pos (by decide +kernel)]; kernel_rfl) | (rw [if_neg (by decide +kernel)]; exact ⟨rfl, rfl⟩))
    (fun os started H enc _ => lifted os started H enc)
end outs
#print axioms outs.proved
end Go.Proofs.Ytieeeijaojdbfaa
