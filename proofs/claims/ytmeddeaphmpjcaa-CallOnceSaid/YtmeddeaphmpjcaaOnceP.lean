/- CallOnce: no id is given twice, each call is answered once at most: the call returns true, for every input; no conditions. -/
import Derived.Test.YtmeddeaphmpjcaaRows
import Derived.Test.YtmeddeaphmpjcaaOpen
import Derived.Test.YtmeddeaphmpjcaaPost
import Derived.OpenShut
import Derived.ChangeMaps5
import Derived.Test.YtmeddeaphmpjcaaOnce14
namespace Go.Proofs.Ytmeddeaphmpjcaa
open Go.ChangeShapes Go.WideShapes Go.ChangeAt Go.RowKit Go.Deep

theorem Try.laidOut : laidOutB Try.prog = true := by kernel_rfl
theorem Try.own : ownKnob Try.prog.godebug = none := by kernel_rfl
theorem wf_bd {a : Int} (h : (Lit.int .i64 a).wf = true) : -9223372036854775808 ≤ a ∧ a ≤ 9223372036854775807 := bounds_i64 h

instance : Inhabited Act14 := ⟨⟨0, 0, 0, 0, 0, ⟨0, 0, 0, 0, 0, 0, 0, 0, ⟨#[]⟩⟩⟩⟩
theorem acts14At_of {w : World} {A : Option Addr} {n : Nat} (h : FlatAt w A n [0, 0, 0, 0, 0, 0, 0, 0, 0, 0, 0, 0, 0, 2]) : ∃ f, Acts14At w A n f := by
  refine choose_lt (α := Act14) (n := n) (p := fun k a => Act14Ok a ∧ ∃ b o, A = some ⟨b, o, none⟩ ∧ b < w.heap.size ∧ ∀ j, j < 14 → w.cell? ⟨b, o + k * 14 + j, none⟩ = a.cells[j]?) (fun k hk => ?_)
  obtain ⟨b, o, rfl, hb, hc⟩ := h k hk
  obtain ⟨_, h0, a0, rfl, w0⟩ := hc 0 0 rfl
  obtain ⟨_, h1, a1, rfl, w1⟩ := hc 1 0 rfl
  obtain ⟨_, h2, a2, rfl, w2⟩ := hc 2 0 rfl
  obtain ⟨_, h3, a3, rfl, w3⟩ := hc 3 0 rfl
  obtain ⟨_, h4, a4, rfl, w4⟩ := hc 4 0 rfl
  obtain ⟨_, h5, a5, rfl, w5⟩ := hc 5 0 rfl
  obtain ⟨_, h6, a6, rfl, w6⟩ := hc 6 0 rfl
  obtain ⟨_, h7, a7, rfl, w7⟩ := hc 7 0 rfl
  obtain ⟨_, h8, a8, rfl, w8⟩ := hc 8 0 rfl
  obtain ⟨_, h9, a9, rfl, w9⟩ := hc 9 0 rfl
  obtain ⟨_, h10, a10, rfl, w10⟩ := hc 10 0 rfl
  obtain ⟨_, h11, a11, rfl, w11⟩ := hc 11 0 rfl
  obtain ⟨_, h12, a12, rfl, w12⟩ := hc 12 0 rfl
  obtain ⟨_, h13, s13, rfl, q13⟩ := hc 13 2 rfl
  refine ⟨⟨a0, a1, a2, a3, a4, ⟨a5, a6, a7, a8, a9, a10, a11, a12, s13⟩⟩, ⟨wf_bd w0, wf_bd w1, wf_bd w2, wf_bd w3, wf_bd w4, ⟨wf_bd w5, wf_bd w6, wf_bd w7, wf_bd w8, wf_bd w9, wf_bd w10, wf_bd w11, wf_bd w12⟩⟩, b, o, rfl, hb, fun j hj => ?_⟩
  match j, hj with
  | 0, _ => exact h0
  | 1, _ => exact h1
  | 2, _ => exact h2
  | 3, _ => exact h3
  | 4, _ => exact h4
  | 5, _ => exact h5
  | 6, _ => exact h6
  | 7, _ => exact h7
  | 8, _ => exact h8
  | 9, _ => exact h9
  | 10, _ => exact h10
  | 11, _ => exact h11
  | 12, _ => exact h12
  | 13, _ => exact h13
namespace once
set_option maxRecDepth 100000 in
theorem lifted (os : Os) (started : os.Started) (H : Type) (enc : TypeId × Value → H) :
    ReturnsInHanded {} Try.checked os 4 .any (Rows.callOnceSpec.pre6 enc Try.prog Try.f4 Rows.callOnceRow.domain false) (Rows.callOnceSpec.post enc Try.prog Try.f4 false true false false) := by
  refine returnsInHanded_of_change (C := Try.checked) Try.own started (by kernel_rfl) Try.func4
    (ChangeSpec.witness6 (enc := enc) (C := Try.checked) false ⟨#[], #[.slice none 0 0], []⟩ 8 (by kernel_rfl) (by kernel_rfl) (by kernel_rfl) (by kernel_rfl)) ?_
  intro W base args ds gs before hval0 hW _ _
  have hval : ∀ (j : Nat) t v, Try.f4.params[j]? = some t → args[j]? = some v → Value.okWide Try.prog W .any base t v := hval0
  have hW' := hW
  obtain ⟨p, q, hA0, hV, rfl, hfz, hnd⟩ := hW
  have hA : DataW.TrodAll enc Try.prog W 0 (fun _ => true) true Try.f4.params.toList args.toList ds p := hA0
  rw [Try.params4] at hA hval
  obtain ⟨v0, vs0, d0, ds0, p0, q0, hargs, rfl, rfl, h0, r0⟩ := trodAll_cons hA
  obtain ⟨rfl, rfl, rfl⟩ := trodAll_nil r0
  obtain rfl : args = #[v0] := by cases args; simp_all
  obtain ⟨A, n, cp, rfl, hl0, hm0, hf0⟩ := open_flat Try.underlying46 (show flat Try.prog 4 51 = some [0, 0, 0, 0, 0, 0, 0, 0, 0, 0, 0, 0, 0, 2] by kernel_rfl) (show Try.prog.cellsOf 51 = 14 by kernel_rfl) (by decide) (hval 0 46 v0 rfl rfl) h0
  obtain ⟨acts, hacts⟩ := acts14At_of hf0
  clear hA0 hval0
  refine (once_any A n cp acts W hacts).mono fun e W' ⟨he, hk⟩ => ?_
  subst he
  exact ⟨_, rfl, law_post (tb := 4) Try.laidOut (by rw [Try.params4]; intro t ht; simp at ht; subst ht; exact ⟨by kernel_rfl, of_decide_eq_true (by kernel_rfl)⟩) (by kernel_rfl) Try.underlying4 rfl rfl hW' hk⟩

theorem proved : Rows.CallOnceSaid :=
  OpenClaim.holds_of_wide 4 Try.f4 rfl rfl rfl rfl rfl rfl rfl ⟨rfl, rfl, rfl, rfl, rfl⟩ rfl rfl rfl rfl rfl (by kernel_rfl) Try.func4 (by kernel_rfl)
    (of_decide_eq_true (by kernel_rfl)) (by unfold Func.isWrapper; first | (rw [if_pos (by decide +kernel)]; kernel_rfl) | (rw [if_neg (by decide +kernel)]; exact ⟨rfl, rfl⟩))
    (fun os started H enc _ => lifted os started H enc)
end once
#print axioms once.proved
end Go.Proofs.Ytmeddeaphmpjcaa
