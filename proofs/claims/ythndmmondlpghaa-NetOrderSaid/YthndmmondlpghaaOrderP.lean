/- NetOrder: what is under way hangs on which frames were sent, not on the order: the call returns true, for every input; no conditions. -/
import Derived.Test.YthndmmondlpghaaRows
import Derived.Test.YthndmmondlpghaaOpen
import Derived.Test.YthndmmondlpghaaPost
import Derived.OpenShut
import Derived.ChangeMaps5
import Derived.Test.YthndmmondlpghaaOrder
namespace Go.Proofs.Ythndmmondlpghaa
open Go.ChangeShapes Go.WideShapes Go.ChangeAt Go.RowKit Go.Deep

theorem Try.laidOut : laidOutB Try.prog = true := by kernel_rfl
theorem Try.own : ownKnob Try.prog.godebug = none := by kernel_rfl
theorem wf_bd {a : Int} (h : (Lit.int .i64 a).wf = true) : -9223372036854775808 ≤ a ∧ a ≤ 9223372036854775807 := bounds_i64 h

instance : Inhabited Txt1 := ⟨⟨⟨#[]⟩⟩⟩
theorem textsAt_of {w : World} {A : Option Addr} {n : Nat} (h : FlatAt w A n [2]) : ∃ f, TextsAt w A n f := by
  refine choose_lt (α := Txt1) (n := n) (p := fun k a => Txt1Ok a ∧ ∃ b o, A = some ⟨b, o, none⟩ ∧ b < w.heap.size ∧ ∀ j, j < 1 → w.cell? ⟨b, o + k * 1 + j, none⟩ = a.cells[j]?) (fun k hk => ?_)
  obtain ⟨b, o, rfl, hb, hc⟩ := h k hk
  obtain ⟨_, h0, s0, rfl, q0⟩ := hc 0 2 rfl
  refine ⟨⟨s0⟩, ⟨rfl⟩, b, o, rfl, hb, fun j hj => ?_⟩
  match j, hj with
  | 0, _ => exact h0
namespace order
set_option maxRecDepth 100000 in
theorem lifted (os : Os) (started : os.Started) (H : Type) (enc : TypeId × Value → H) :
    ReturnsInHanded {} Try.checked os 3 .any (Rows.netOrderSpec.pre6 enc Try.prog Try.f3 Rows.netOrderRow.domain false) (Rows.netOrderSpec.post enc Try.prog Try.f3 false true false false) := by
  refine returnsInHanded_of_change (C := Try.checked) Try.own started (by kernel_rfl) Try.func3
    (ChangeSpec.witness6 (enc := enc) (C := Try.checked) false ⟨#[], #[.slice none 0 0, .int .i64 0], []⟩ 8 (by kernel_rfl) (by kernel_rfl) (by kernel_rfl) (by kernel_rfl)) ?_
  intro W base args ds gs before hval0 hW _ _
  have hval : ∀ (j : Nat) t v, Try.f3.params[j]? = some t → args[j]? = some v → Value.okWide Try.prog W .any base t v := hval0
  have hW' := hW
  obtain ⟨p, q, hA0, hV, rfl, hfz, hnd⟩ := hW
  have hA : DataW.TrodAll enc Try.prog W 0 (fun _ => true) true Try.f3.params.toList args.toList ds p := hA0
  rw [Try.params3] at hA hval
  obtain ⟨v0, vs0, d0, ds0, p0, q0, hargs, rfl, rfl, h0, r0⟩ := trodAll_cons hA
  obtain ⟨v1, vs1, d1, ds1, p1, q1, rfl, rfl, rfl, h1, r1⟩ := trodAll_cons r0
  obtain ⟨rfl, rfl, rfl⟩ := trodAll_nil r1
  obtain rfl : args = #[v0, v1] := by cases args; simp_all
  obtain ⟨A, n, cp, rfl, hl0, hm0, hf0⟩ := open_flat Try.underlying22 (show flat Try.prog 4 9 = some [2] by kernel_rfl) (show Try.prog.cellsOf 9 = 1 by kernel_rfl) (by decide) (hval 0 22 v0 rfl rfl) h0
  have hn0 : n ≤ 9223372036854775807 := by unfold maxLen at hm0; omega
  obtain ⟨txs, htxs⟩ := textsAt_of hf0
  obtain ⟨x, rfl, _, _, w1⟩ := open_int Try.underlying3 (hval 1 3 v1 rfl rfl) h1
  clear hA0 hval0
  refine (order_any A n cp txs x W htxs (wf_bd w1) hn0).mono fun e W' ⟨he, hk⟩ => ?_
  subst he
  exact ⟨_, rfl, law_post (tb := 4) Try.laidOut (by rw [Try.params3]; intro t ht; simp at ht; first | (rcases ht with rfl | rfl <;> exact ⟨by kernel_rfl, of_decide_eq_true (by kernel_rfl)⟩)) (by kernel_rfl) Try.underlying4 rfl rfl hW' hk⟩

theorem proved : Rows.NetOrderSaid :=
  OpenClaim.holds_of_wide 3 Try.f3 rfl rfl rfl rfl rfl rfl rfl ⟨rfl, rfl, rfl, rfl, rfl⟩ rfl rfl rfl rfl rfl (by kernel_rfl) Try.func3 (by kernel_rfl)
    (of_decide_eq_true (by kernel_rfl)) (by unfold Func.isWrapper; first | (rw [if_pos (by decide +kernel)]; kernel_rfl) | (rw [if_neg (by decide +kernel)]; exact ⟨rfl, rfl⟩))
    (fun os started H enc _ => lifted os started H enc)
end order
#print axioms order.proved
end Go.Proofs.Ythndmmondlpghaa
