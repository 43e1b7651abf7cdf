/- CallDrops: what was dropped is answered by nothing, and is sent no more: the call returns true, for every input; no conditions. -/
import Derived.Test.YtmeddeaphmpjcaaRows
import Derived.Test.YtmeddeaphmpjcaaOpen
import Derived.Test.YtmeddeaphmpjcaaPost
import Derived.OpenShut
import Derived.ChangeMaps5
import Derived.Test.YtmeddeaphmpjcaaDrops14
namespace Go.Proofs.Ytmeddeaphmpjcaa
open Go.ChangeShapes Go.WideShapes Go.ChangeAt Go.RowKit Go.Deep

theorem Try.laidOut : laidOutB Try.prog = true := by kernel_rfl
theorem Try.own : ownKnob Try.prog.godebug = none := by kernel_rfl
theorem wf_bd {a : Int} (h : (Lit.int .i64 a).wf = true) : -9223372036854775808 ≤ a ∧ a ≤ 9223372036854775807 := bounds_i64 h

instance : Inhabited Num1 := ⟨⟨0⟩⟩
theorem numsAt_of {w : World} {A : Option Addr} {n : Nat} (h : FlatAt w A n [0]) : ∃ f, NumsAt w A n f := by
  refine choose_lt (α := Num1) (n := n) (p := fun k a => Num1Ok a ∧ ∃ b o, A = some ⟨b, o, none⟩ ∧ b < w.heap.size ∧ ∀ j, j < 1 → w.cell? ⟨b, o + k * 1 + j, none⟩ = a.cells[j]?) (fun k hk => ?_)
  obtain ⟨b, o, rfl, hb, hc⟩ := h k hk
  obtain ⟨_, h0, a0, rfl, w0⟩ := hc 0 0 rfl
  refine ⟨⟨a0⟩, ⟨wf_bd w0⟩, b, o, rfl, hb, fun j hj => ?_⟩
  match j, hj with
  | 0, _ => exact h0
namespace drops
set_option maxRecDepth 100000 in
theorem lifted (os : Os) (started : os.Started) (H : Type) (enc : TypeId × Value → H) :
    ReturnsInHanded {} Try.checked os 5 .any (Rows.callDropsSpec.pre6 enc Try.prog Try.f5 Rows.callDropsRow.domain false) (Rows.callDropsSpec.post enc Try.prog Try.f5 false true false false) := by
  refine returnsInHanded_of_change (C := Try.checked) Try.own started (by kernel_rfl) Try.func5
    (ChangeSpec.witness6 (enc := enc) (C := Try.checked) false ⟨#[], #[.slice none 0 0, .slice none 0 0], []⟩ 8 (by kernel_rfl) (by kernel_rfl) (by kernel_rfl) (by kernel_rfl)) ?_
  intro W base args ds gs before hval0 hW _ _
  have hval : ∀ (j : Nat) t v, Try.f5.params[j]? = some t → args[j]? = some v → Value.okWide Try.prog W .any base t v := hval0
  have hW' := hW
  obtain ⟨p, q, hA0, hV, rfl, hfz, hnd⟩ := hW
  have hA : DataW.TrodAll enc Try.prog W 0 (fun _ => true) true Try.f5.params.toList args.toList ds p := hA0
  rw [Try.params5] at hA hval
  obtain ⟨v0, vs0, d0, ds0, p0, q0, hargs, rfl, rfl, h0, r0⟩ := trodAll_cons hA
  obtain ⟨v1, vs1, d1, ds1, p1, q1, rfl, rfl, rfl, h1, r1⟩ := trodAll_cons r0
  obtain ⟨rfl, rfl, rfl⟩ := trodAll_nil r1
  obtain rfl : args = #[v0, v1] := by cases args; simp_all
  obtain ⟨A, n, cp, rfl, hl0, hm0, hf0⟩ := open_flat Try.underlying22 (show flat Try.prog 4 3 = some [0] by kernel_rfl) (show Try.prog.cellsOf 3 = 1 by kernel_rfl) (by decide) (hval 0 22 v0 rfl rfl) h0
  obtain ⟨nums, hnums⟩ := numsAt_of hf0
  obtain ⟨B, nb, bp, rfl, hl1, hm1, hf1⟩ := open_flat Try.underlying22 (show flat Try.prog 4 3 = some [0] by kernel_rfl) (show Try.prog.cellsOf 3 = 1 by kernel_rfl) (by decide) (hval 1 22 v1 rfl rfl) h1
  obtain ⟨numb, hnumb⟩ := numsAt_of hf1
  clear hA0 hval0
  refine (drops_any A n cp nums B nb bp numb W hnums hnumb).mono fun e W' ⟨he, hk⟩ => ?_
  subst he
  exact ⟨_, rfl, law_post (tb := 4) Try.laidOut (by rw [Try.params5]; intro t ht; simp at ht; subst ht; exact ⟨by kernel_rfl, of_decide_eq_true (by kernel_rfl)⟩) (by kernel_rfl) Try.underlying4 rfl rfl hW' hk⟩

theorem proved : Rows.CallDropsSaid :=
  OpenClaim.holds_of_wide 5 Try.f5 rfl rfl rfl rfl rfl rfl rfl ⟨rfl, rfl, rfl, rfl, rfl⟩ rfl rfl rfl rfl rfl (by kernel_rfl) Try.func5 (by kernel_rfl)
    (of_decide_eq_true (by kernel_rfl)) (by unfold Func.isWrapper; first | (rw [if_pos (by decide +kernel)]; kernel_rfl) | (rw [if_neg (by decide +kernel)]; exact ⟨rfl, rfl⟩))
    (fun os started H enc _ => lifted os started H enc)
end drops
#print axioms drops.proved
end Go.Proofs.Ytmeddeaphmpjcaa
