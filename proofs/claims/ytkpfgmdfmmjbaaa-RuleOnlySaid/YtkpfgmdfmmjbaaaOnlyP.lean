/- RuleOnly: there is one update open at most: the call returns true, for every input; no conditions. -/
import Derived.Test.YtkpfgmdfmmjbaaaRows
import Derived.Test.YtkpfgmdfmmjbaaaOpen
import Derived.Test.YtkpfgmdfmmjbaaaPost
import Derived.OpenShut
import Derived.Test.YtkpfgmdfmmjbaaaOnly
namespace Go.Proofs.Ytkpfgmdfmmjbaaa
open Go.ChangeShapes Go.WideShapes Go.ChangeAt Go.RowKit Go.Deep

theorem Try.laidOut : laidOutB Try.prog = true := by kernel_rfl
theorem Try.own : ownKnob Try.prog.godebug = none := by kernel_rfl
theorem wf_bd {a : Int} (h : (Lit.int .i64 a).wf = true) : -9223372036854775808 ≤ a ∧ a ≤ 9223372036854775807 := bounds_i64 h

instance : Inhabited Raw9 := ⟨⟨0, 0, 0, 0, 0, 0, 0, 0, ⟨#[]⟩⟩⟩
theorem rawsAt_of {w : World} {A : Option Addr} {n : Nat} (h : FlatAt w A n [0, 0, 0, 0, 0, 0, 0, 0, 2]) : ∃ f, RawsAt w A n f := by
  refine choose_lt (α := Raw9) (n := n) (p := fun k a => Raw9Ok a ∧ ∃ b o, A = some ⟨b, o, none⟩ ∧ b < w.heap.size ∧ ∀ j, j < 9 → w.cell? ⟨b, o + k * 9 + j, none⟩ = a.cells[j]?) (fun k hk => ?_)
  obtain ⟨b, o, rfl, hb, hc⟩ := h k hk
  obtain ⟨_, h0, a0, rfl, w0⟩ := hc 0 0 rfl
  obtain ⟨_, h1, a1, rfl, w1⟩ := hc 1 0 rfl
  obtain ⟨_, h2, a2, rfl, w2⟩ := hc 2 0 rfl
  obtain ⟨_, h3, a3, rfl, w3⟩ := hc 3 0 rfl
  obtain ⟨_, h4, a4, rfl, w4⟩ := hc 4 0 rfl
  obtain ⟨_, h5, a5, rfl, w5⟩ := hc 5 0 rfl
  obtain ⟨_, h6, a6, rfl, w6⟩ := hc 6 0 rfl
  obtain ⟨_, h7, a7, rfl, w7⟩ := hc 7 0 rfl
  obtain ⟨_, h8, s8, rfl, q8⟩ := hc 8 2 rfl
  refine ⟨⟨a0, a1, a2, a3, a4, a5, a6, a7, s8⟩, ⟨wf_bd w0, wf_bd w1, wf_bd w2, wf_bd w3, wf_bd w4, wf_bd w5, wf_bd w6, wf_bd w7⟩, b, o, rfl, hb, fun j hj => ?_⟩
  match j, hj with
  | 0, _ => exact h0
  | 1, _ => exact h1
  | 2, _ => exact h2
  | 3, _ => exact h3
  | 4, _ => exact h4
  | 5, _ => exact h5
  | 6, _ => exact h6
  | 7, _ => exact h7
  | 8, _ => exact h8
namespace only
set_option maxRecDepth 100000 in
theorem lifted (os : Os) (started : os.Started) (H : Type) (enc : TypeId × Value → H) :
    ReturnsInHanded {} Try.checked os 6 .any (Rows.ruleOnlySpec.pre6 enc Try.prog Try.f6 Rows.ruleOnlyRow.domain false) (Rows.ruleOnlySpec.post enc Try.prog Try.f6 false true false false) := by
  refine returnsInHanded_of_change (C := Try.checked) Try.own started (by kernel_rfl) Try.func6
    (ChangeSpec.witness6 (enc := enc) (C := Try.checked) false ⟨#[], #[.agg #[.int .i64 0, .int .i64 0, .int .i64 0, .int .i64 0, .int .i64 0, .int .i64 0, .int .i64 0, .string ⟨#[]⟩, .string ⟨#[]⟩], .slice none 0 0], []⟩ 8 (by kernel_rfl) (by kernel_rfl) (by kernel_rfl) (by kernel_rfl)) ?_
  intro W base args ds gs before hval0 hW _ _
  have hval : ∀ (j : Nat) t v, Try.f6.params[j]? = some t → args[j]? = some v → Value.okWide Try.prog W .any base t v := hval0
  have hW' := hW
  obtain ⟨p, q, hA0, hV, rfl, hfz, hnd⟩ := hW
  have hA : DataW.TrodAll enc Try.prog W 0 (fun _ => true) true Try.f6.params.toList args.toList ds p := hA0
  rw [Try.params6] at hA hval
  obtain ⟨v0, vs0, d0, ds0, p0, q0, hargs, rfl, rfl, h0, r0⟩ := trodAll_cons hA
  obtain ⟨v1, vs1, d1, ds1, p1, q1, rfl, rfl, rfl, h1, r1⟩ := trodAll_cons r0
  obtain ⟨rfl, rfl, rfl⟩ := trodAll_nil r1
  obtain rfl : args = #[v0, v1] := by cases args; simp_all
  obtain ⟨cs0, rfl, hz0, hc0⟩ := open_agg Try.underlying23 (show flat Try.prog 4 23 = some [0, 0, 0, 0, 0, 0, 0, 2, 2] by kernel_rfl) (by kernel_rfl) (hval 0 23 v0 rfl rfl) h0
  obtain ⟨_, e0_0, a0, rfl, w0_0⟩ := hc0 0 0 rfl
  obtain ⟨_, e0_1, a1, rfl, w0_1⟩ := hc0 1 0 rfl
  obtain ⟨_, e0_2, a2, rfl, w0_2⟩ := hc0 2 0 rfl
  obtain ⟨_, e0_3, a3, rfl, w0_3⟩ := hc0 3 0 rfl
  obtain ⟨_, e0_4, a4, rfl, w0_4⟩ := hc0 4 0 rfl
  obtain ⟨_, e0_5, a5, rfl, w0_5⟩ := hc0 5 0 rfl
  obtain ⟨_, e0_6, a6, rfl, w0_6⟩ := hc0 6 0 rfl
  obtain ⟨_, e0_7, s7, rfl, _⟩ := hc0 7 2 rfl
  obtain ⟨_, e0_8, s8, rfl, _⟩ := hc0 8 2 rfl
  obtain rfl : cs0 = [.int .i64 a0, .int .i64 a1, .int .i64 a2, .int .i64 a3, .int .i64 a4, .int .i64 a5, .int .i64 a6, .string s7, .string s8].toArray := agg_eq hz0 (fun j hj => by
    match j, hj with
    | 0, _ => exact e0_0
    | 1, _ => exact e0_1
    | 2, _ => exact e0_2
    | 3, _ => exact e0_3
    | 4, _ => exact e0_4
    | 5, _ => exact e0_5
    | 6, _ => exact e0_6
    | 7, _ => exact e0_7
    | 8, _ => exact e0_8)
  obtain ⟨A, n, cp, rfl, hl1, hm1, hf1⟩ := open_flat Try.underlying24 (show flat Try.prog 4 35 = some [0, 0, 0, 0, 0, 0, 0, 0, 2] by kernel_rfl) (show Try.prog.cellsOf 35 = 9 by kernel_rfl) (by decide) (hval 1 24 v1 rfl rfl) h1
  have hn1 : n ≤ 9223372036854775807 := by unfold maxLen at hm1; omega
  obtain ⟨raws, hraws⟩ := rawsAt_of hf1
  clear hA0 hval0
  refine (ruleonly_any ⟨a0, a1, a2, a3, a4, a5, a6, s7, s8⟩ _ ⟨wf_bd w0_0, wf_bd w0_1, wf_bd w0_2, wf_bd w0_3, wf_bd w0_4, wf_bd w0_5, wf_bd w0_6⟩ rfl A n cp raws W hraws hn1).mono fun e W' ⟨he, hk⟩ => ?_
  subst he
  exact ⟨_, rfl, law_post (tb := 4) Try.laidOut (by rw [Try.params6]; intro t ht; simp at ht; rcases ht with rfl | rfl <;> exact ⟨by kernel_rfl, of_decide_eq_true (by kernel_rfl)⟩) (by kernel_rfl) Try.underlying4 rfl rfl hW' hk⟩

theorem proved : Rows.RuleOnlySaid :=
  OpenClaim.holds_of_wide 6 Try.f6 rfl rfl rfl rfl rfl rfl rfl ⟨rfl, rfl, rfl, rfl, rfl⟩ rfl rfl rfl rfl rfl (by kernel_rfl) Try.func6 (by kernel_rfl)
    (of_decide_eq_true (by kernel_rfl)) (by unfold Func.isWrapper; first | (rw [if_pos (by decide +kernel)]; kernel_rfl) | (rw [if_neg (by decide +kernel)]; exact ⟨rfl, rfl⟩))
    (fun os started H enc _ => lifted os started H enc)
end only
#print axioms only.proved
end Go.Proofs.Ytkpfgmdfmmjbaaa
