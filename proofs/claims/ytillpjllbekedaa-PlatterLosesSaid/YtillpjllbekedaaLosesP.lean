/- PlatterLoses: behind Lose there is nothing: the call returns true, for every input; no conditions. -/
import Derived.Test.YtillpjllbekedaaRows
import Derived.Test.YtillpjllbekedaaOpen
import Derived.Test.YtillpjllbekedaaPost
import Derived.OpenShut
import Derived.ChangeMaps5
import Derived.Test.YtillpjllbekedaaLoses
namespace Go.Proofs.Ytillpjllbekedaa
open Go.ChangeShapes Go.WideShapes Go.ChangeAt Go.RowKit Go.Deep

theorem Try.laidOut : laidOutB Try.prog = true := by kernel_rfl
theorem Try.own : ownKnob Try.prog.godebug = none := by kernel_rfl
theorem wf_bd {a : Int} (h : (Lit.int .i64 a).wf = true) : -9223372036854775808 ≤ a ∧ a ≤ 9223372036854775807 := bounds_i64 h

instance : Inhabited Act7 := ⟨⟨0, 0, 0, 0, ⟨#[]⟩, none, 0, 0⟩⟩
theorem acts7At_of {w : World} {A : Option Addr} {n : Nat} (h : FlatAt w A n [0, 0, 0, 0, 2, 3]) : ∃ f, Acts7At w A n f := by
  refine choose_lt (α := Act7) (n := n) (p := fun k a => Act7Ok a ∧ ∃ b o, A = some ⟨b, o, none⟩ ∧ b < w.heap.size ∧ ∀ j, j < 6 → w.cell? ⟨b, o + k * 6 + j, none⟩ = a.cells[j]?) (fun k hk => ?_)
  obtain ⟨b, o, rfl, hb, hc⟩ := h k hk
  obtain ⟨_, h0, a0, rfl, w0⟩ := hc 0 0 rfl
  obtain ⟨_, h1, a1, rfl, w1⟩ := hc 1 0 rfl
  obtain ⟨_, h2, a2, rfl, w2⟩ := hc 2 0 rfl
  obtain ⟨_, h3, a3, rfl, w3⟩ := hc 3 0 rfl
  obtain ⟨_, h4, s4, rfl, q4⟩ := hc 4 2 rfl
  obtain ⟨_, h5, l5, m5, c5, rfl⟩ := hc 5 3 rfl
  refine ⟨⟨a0, a1, a2, a3, s4, l5, m5, c5⟩, ⟨wf_bd w0, wf_bd w1, wf_bd w2, wf_bd w3⟩, b, o, rfl, hb, fun j hj => ?_⟩
  match j, hj with
  | 0, _ => exact h0
  | 1, _ => exact h1
  | 2, _ => exact h2
  | 3, _ => exact h3
  | 4, _ => exact h4
  | 5, _ => exact h5
instance : Inhabited Num1 := ⟨⟨0⟩⟩
theorem numsAt_of {w : World} {A : Option Addr} {n : Nat} (h : FlatAt w A n [0]) : ∃ f, NumsAt w A n f := by
  refine choose_lt (α := Num1) (n := n) (p := fun k a => Num1Ok a ∧ ∃ b o, A = some ⟨b, o, none⟩ ∧ b < w.heap.size ∧ ∀ j, j < 1 → w.cell? ⟨b, o + k * 1 + j, none⟩ = a.cells[j]?) (fun k hk => ?_)
  obtain ⟨b, o, rfl, hb, hc⟩ := h k hk
  obtain ⟨_, h0, a0, rfl, w0⟩ := hc 0 0 rfl
  refine ⟨⟨a0⟩, ⟨wf_bd w0⟩, b, o, rfl, hb, fun j hj => ?_⟩
  match j, hj with
  | 0, _ => exact h0
namespace loses
set_option maxRecDepth 100000 in
theorem lifted (os : Os) (started : os.Started) (H : Type) (enc : TypeId × Value → H) :
    ReturnsInHanded {} Try.checked os 7 .any (Rows.platterLosesSpec.pre6 enc Try.prog Try.f7 Rows.platterLosesRow.domain false) (Rows.platterLosesSpec.post enc Try.prog Try.f7 false true false false) := by
  refine returnsInHanded_of_change (C := Try.checked) Try.own started (by kernel_rfl) Try.func7
    (ChangeSpec.witness6 (enc := enc) (C := Try.checked) false ⟨#[], #[.slice none 0 0, .slice none 0 0, .slice none 0 0], []⟩ 8 (by kernel_rfl) (by kernel_rfl) (by kernel_rfl) (by kernel_rfl)) ?_
  intro W base args ds gs before hval0 hW _ _
  have hval : ∀ (j : Nat) t v, Try.f7.params[j]? = some t → args[j]? = some v → Value.okWide Try.prog W .any base t v := hval0
  have hW' := hW
  obtain ⟨p, q, hA0, hV, rfl, hfz, hnd⟩ := hW
  have hA : DataW.TrodAll enc Try.prog W 0 (fun _ => true) true Try.f7.params.toList args.toList ds p := hA0
  rw [Try.params7] at hA hval
  obtain ⟨v0, vs0, d0, ds0, p0, q0, hargs, rfl, rfl, h0, r0⟩ := trodAll_cons hA
  obtain ⟨v1, vs1, d1, ds1, p1, q1, rfl, rfl, rfl, h1, r1⟩ := trodAll_cons r0
  obtain ⟨v2, vs2, d2, ds2, p2, q2, rfl, rfl, rfl, h2, r2⟩ := trodAll_cons r1
  obtain ⟨rfl, rfl, rfl⟩ := trodAll_nil r2
  obtain rfl : args = #[v0, v1, v2] := by cases args; simp_all
  obtain ⟨A, n, cp, rfl, hl0, hm0, hf0⟩ := open_flat Try.underlying38 (show flat Try.prog 4 40 = some [0, 0, 0, 0, 2, 3] by kernel_rfl) (show Try.prog.cellsOf 40 = 6 by kernel_rfl) (by decide) (hval 0 38 v0 rfl rfl) h0
  obtain ⟨acts, hacts⟩ := acts7At_of hf0
  obtain ⟨A2, n2, cp2, rfl, hl1, hm1, hf1⟩ := open_flat Try.underlying22 (show flat Try.prog 4 3 = some [0] by kernel_rfl) (show Try.prog.cellsOf 3 = 1 by kernel_rfl) (by decide) (hval 1 22 v1 rfl rfl) h1
  obtain ⟨nums, hnums⟩ := numsAt_of hf1
  obtain ⟨K, nk, kcp, rfl, hl2, hm2, hf2⟩ := open_flat Try.underlying22 (show flat Try.prog 4 3 = some [0] by kernel_rfl) (show Try.prog.cellsOf 3 = 1 by kernel_rfl) (by decide) (hval 2 22 v2 rfl rfl) h2
  obtain ⟨kf, hkf⟩ := numsAt_of hf2
  clear hA0 hval0
  refine (loses_any A n cp acts A2 n2 cp2 nums K nk kcp kf W hacts hnums hkf).mono fun e W' ⟨he, hk⟩ => ?_
  subst he
  exact ⟨_, rfl, law_post (tb := 4) Try.laidOut (by rw [Try.params7]; intro t ht; simp at ht; first | (rcases ht with rfl | rfl | rfl <;> exact ⟨by kernel_rfl, of_decide_eq_true (by kernel_rfl)⟩) | (rcases ht with rfl | rfl <;> exact ⟨by kernel_rfl, of_decide_eq_true (by kernel_rfl)⟩)) (by kernel_rfl) Try.underlying4 rfl rfl hW' hk⟩

theorem proved : Rows.PlatterLosesSaid :=
  OpenClaim.holds_of_wide 7 Try.f7 rfl rfl rfl rfl rfl rfl rfl ⟨rfl, rfl, rfl, rfl, rfl⟩ rfl rfl rfl rfl rfl (by kernel_rfl) Try.func7 (by kernel_rfl)
    (of_decide_eq_true (by kernel_rfl)) (by unfold Func.isWrapper; first | (rw [if_pos (by decide +kernel)]; kernel_rfl) | (rw [if_neg (by decide +kernel)]; exact ⟨rfl, rfl⟩))
    (fun os started H enc _ => lifted os started H enc)
end loses
#print axioms loses.proved
end Go.Proofs.Ytillpjllbekedaa
