/- ShelfLasts: behind Set that was OK there is that record, through any cut: the call returns true, for every input; no conditions. -/
import Derived.Test.YtpilmccjjbgmiaaRows
import Derived.Test.YtpilmccjjbgmiaaOpen
import Derived.Test.YtpilmccjjbgmiaaPost
import Derived.OpenShut
import Derived.Test.YtpilmccjjbgmiaaLasts
namespace Go.Proofs.Ytpilmccjjbgmiaa
open Go.ChangeShapes Go.WideShapes Go.ChangeAt Go.RowKit Go.Deep

theorem Try.laidOut : laidOutB Try.prog = true := by kernel_rfl
theorem Try.own : ownKnob Try.prog.godebug = none := by kernel_rfl
theorem wf_bd {a : Int} (h : (Lit.int .i64 a).wf = true) : -9223372036854775808 ≤ a ∧ a ≤ 9223372036854775807 := bounds_i64 h

instance : Inhabited Raw8 := ⟨⟨0, 0, 0, 0, 0, 0, 0, ⟨#[]⟩, ⟨#[]⟩⟩⟩
instance : Inhabited Num1 := ⟨⟨0⟩⟩
theorem raw8sAt_of {w : World} {A : Option Addr} {n : Nat} (h : FlatAt w A n [0, 0, 0, 0, 0, 0, 0, 2, 2]) : ∃ f, Raw8sAt w A n f := by
  refine choose_lt (α := Raw8) (n := n) (p := fun k a => Raw8Ok a ∧ ∃ b o, A = some ⟨b, o, none⟩ ∧ b < w.heap.size ∧ ∀ j, j < 9 → w.cell? ⟨b, o + k * 9 + j, none⟩ = a.cells[j]?) (fun k hk => ?_)
  obtain ⟨b, o, rfl, hb, hc⟩ := h k hk
  obtain ⟨_, h0, a0, rfl, w0⟩ := hc 0 0 rfl
  obtain ⟨_, h1, a1, rfl, w1⟩ := hc 1 0 rfl
  obtain ⟨_, h2, a2, rfl, w2⟩ := hc 2 0 rfl
  obtain ⟨_, h3, a3, rfl, w3⟩ := hc 3 0 rfl
  obtain ⟨_, h4, a4, rfl, w4⟩ := hc 4 0 rfl
  obtain ⟨_, h5, a5, rfl, w5⟩ := hc 5 0 rfl
  obtain ⟨_, h6, a6, rfl, w6⟩ := hc 6 0 rfl
  obtain ⟨_, h7, s7, rfl, q7⟩ := hc 7 2 rfl
  obtain ⟨_, h8, s8, rfl, q8⟩ := hc 8 2 rfl
  refine ⟨⟨a0, a1, a2, a3, a4, a5, a6, s7, s8⟩, ⟨wf_bd w0, wf_bd w1, wf_bd w2, wf_bd w3, wf_bd w4, wf_bd w5, wf_bd w6⟩, b, o, rfl, hb, fun j hj => ?_⟩
  match j, hj with
  | 0, _ => exact h0
  | 1, _ => exact h1
  | 2, _ => exact h2
  | 3, _ => exact h3
  | 4, _ => exact h4
  | 5, _ => exact h5
  | 6, _ => exact h6
  | 7, _ => exact h7
  | 8, _ => exact h8
theorem numsAt_of {w : World} {A : Option Addr} {n : Nat} (h : FlatAt w A n [0]) : ∃ f, NumsAt w A n f := by
  refine choose_lt (α := Num1) (n := n) (p := fun k a => Num1Ok a ∧ ∃ b o, A = some ⟨b, o, none⟩ ∧ b < w.heap.size ∧ ∀ j, j < 1 → w.cell? ⟨b, o + k * 1 + j, none⟩ = a.cells[j]?) (fun k hk => ?_)
  obtain ⟨b, o, rfl, hb, hc⟩ := h k hk
  obtain ⟨_, h0, a0, rfl, w0⟩ := hc 0 0 rfl
  refine ⟨⟨a0⟩, ⟨wf_bd w0⟩, b, o, rfl, hb, fun j hj => ?_⟩
  match j, hj with
  | 0, _ => exact h0
namespace lasts
set_option maxRecDepth 100000 in
theorem lifted (os : Os) (started : os.Started) (H : Type) (enc : TypeId × Value → H) :
    ReturnsInHanded {} Try.checked os 9 .any (Rows.shelfLastsSpec.pre6 enc Try.prog Try.f9 Rows.shelfLastsRow.domain false) (Rows.shelfLastsSpec.post enc Try.prog Try.f9 false true false false) := by
  refine returnsInHanded_of_change (C := Try.checked) Try.own started (by kernel_rfl) Try.func9
    (ChangeSpec.witness6 (enc := enc) (C := Try.checked) false ⟨#[], #[.slice none 0 0, .slice none 0 0, .slice none 0 0, .slice none 0 0], []⟩ 8 (by kernel_rfl) (by kernel_rfl) (by kernel_rfl) (by kernel_rfl)) ?_
  intro W base args ds gs before hval0 hW _ _
  have hval : ∀ (j : Nat) t v, Try.f9.params[j]? = some t → args[j]? = some v → Value.okWide Try.prog W .any base t v := hval0
  have hW' := hW
  obtain ⟨p, q, hA0, hV, rfl, hfz, hnd⟩ := hW
  have hA : DataW.TrodAll enc Try.prog W 0 (fun _ => true) true Try.f9.params.toList args.toList ds p := hA0
  rw [Try.params9] at hA hval
  obtain ⟨v0, vs0, d0, ds0, p0, q0, hargs, rfl, rfl, h0, r0⟩ := trodAll_cons hA
  obtain ⟨v1, vs1, d1, ds1, p1, q1, rfl, rfl, rfl, h1, r1⟩ := trodAll_cons r0
  obtain ⟨v2, vs2, d2, ds2, p2, q2, rfl, rfl, rfl, h2, r2⟩ := trodAll_cons r1
  obtain ⟨v3, vs3, d3, ds3, p3, q3, rfl, rfl, rfl, h3, r3⟩ := trodAll_cons r2
  obtain ⟨rfl, rfl, rfl⟩ := trodAll_nil r3
  obtain rfl : args = #[v0, v1, v2, v3] := by cases args; simp_all
  obtain ⟨A, n, cp, rfl, hl0, hm0, hf0⟩ := open_flat Try.underlying51 (show flat Try.prog 4 35 = some [0, 0, 0, 0, 0, 0, 0, 2, 2] by kernel_rfl) (show Try.prog.cellsOf 35 = 9 by kernel_rfl) (by decide) (hval 0 51 v0 rfl rfl) h0
  obtain ⟨raws, hraws⟩ := raw8sAt_of hf0
  obtain ⟨A2, n2, cp2, rfl, hl1, hm1, hf1⟩ := open_flat Try.underlying52 (show flat Try.prog 4 3 = some [0] by kernel_rfl) (show Try.prog.cellsOf 3 = 1 by kernel_rfl) (by decide) (hval 1 52 v1 rfl rfl) h1
  obtain ⟨nums, hnums⟩ := numsAt_of hf1
  obtain ⟨A3, n3, cp3, rfl, hl2, hm2, hf2⟩ := open_flat Try.underlying52 (show flat Try.prog 4 3 = some [0] by kernel_rfl) (show Try.prog.cellsOf 3 = 1 by kernel_rfl) (by decide) (hval 2 52 v2 rfl rfl) h2
  obtain ⟨arms, harms⟩ := numsAt_of hf2
  obtain ⟨A4, n4, cp4, rfl, hl3, hm3, hf3⟩ := open_flat Try.underlying52 (show flat Try.prog 4 3 = some [0] by kernel_rfl) (show Try.prog.cellsOf 3 = 1 by kernel_rfl) (by decide) (hval 3 52 v3 rfl rfl) h3
  obtain ⟨kf, hkf⟩ := numsAt_of hf3
  clear hA0 hval0
  refine (lasts_any A n cp raws A2 n2 cp2 nums A3 n3 cp3 arms A4 n4 cp4 kf W hraws hnums harms hkf).mono fun e W' ⟨he, hk⟩ => ?_
  subst he
  exact ⟨_, rfl, law_post (tb := 4) Try.laidOut (by rw [Try.params9]; intro t ht; simp at ht; first | (rcases ht with rfl | rfl | rfl | rfl <;> exact ⟨by kernel_rfl, of_decide_eq_true (by kernel_rfl)⟩) | (rcases ht with rfl | rfl | rfl <;> exact ⟨by kernel_rfl, of_decide_eq_true (by kernel_rfl)⟩) | (rcases ht with rfl | rfl <;> exact ⟨by kernel_rfl, of_decide_eq_true (by kernel_rfl)⟩)) (by kernel_rfl) Try.underlying4 rfl rfl hW' hk⟩

theorem proved : Rows.ShelfLastsSaid :=
  OpenClaim.holds_of_wide 9 Try.f9 rfl rfl rfl rfl rfl rfl rfl ⟨rfl, rfl, rfl, rfl, rfl⟩ rfl rfl rfl rfl rfl (by kernel_rfl) Try.func9 (by kernel_rfl)
    (of_decide_eq_true (by kernel_rfl)) (by unfold Func.isWrapper; first | (rw [if_pos (by decide +kernel)]; kernel_rfl) | (rw [if_neg (by decide +kernel)]; exact ⟨rfl, rfl⟩))
    (fun os started H enc _ => lifted os started H enc)
end lasts
#print axioms lasts.proved
end Go.Proofs.Ytpilmccjjbgmiaa
