/- What the rows over scripts of acts share. -/
import Derived.Test.YtieeeijaojdbfaaRows
import Derived.Test.YtieeeijaojdbfaaPost
import Derived.Test.YtieeeijaojdbfaaOpen
import Derived.Test.YtieeeijaojdbfaaActs
import Derived.OpenShut
namespace Go.Proofs.Ytieeeijaojdbfaa
open Go.ChangeShapes Go.WideShapes Go.ChangeAt Go.RowKit Go.Deep

instance : Inhabited ActM := ⟨⟨0, 0, 0, ⟨0, 0, 0, 0, 0, 0, 0, 0, ⟨#[]⟩⟩⟩⟩
theorem wf_bd {a : Int} (h : (Lit.int .i64 a).wf = true) : -9223372036854775808 ≤ a ∧ a ≤ 9223372036854775807 := bounds_i64 h
theorem actsAt_of {w : World} {A : Option Addr} {n : Nat} (h : FlatAt w A n [0, 0, 0, 0, 0, 0, 0, 0, 0, 0, 0, 2]) : ∃ acts, ActsAt w A n acts := by
  refine choose_lt (α := ActM) (n := n) (p := fun k a => ActOk a ∧ ∃ b o, A = some ⟨b, o, none⟩ ∧ b < w.heap.size ∧ ∀ j, j < 12 → w.cell? ⟨b, o + k * 12 + j, none⟩ = a.cells[j]?) (fun k hk => ?_)
  obtain ⟨b, o, rfl, hb, hc⟩ := h k hk
  obtain ⟨_, h0, a0, rfl, w0⟩ := hc 0 0 rfl
  obtain ⟨_, h1, a1, rfl, w1⟩ := hc 1 0 rfl
  obtain ⟨_, h2, a2, rfl, w2⟩ := hc 2 0 rfl
  obtain ⟨_, h3, a3, rfl, w3⟩ := hc 3 0 rfl
  obtain ⟨_, h4, a4, rfl, w4⟩ := hc 4 0 rfl
  obtain ⟨_, h5, a5, rfl, w5⟩ := hc 5 0 rfl
  obtain ⟨_, h6, a6, rfl, w6⟩ := hc 6 0 rfl
  obtain ⟨_, h7, a7, rfl, w7⟩ := hc 7 0 rfl
  obtain ⟨_, h8, a8, rfl, w8⟩ := hc 8 0 rfl
  obtain ⟨_, h9, a9, rfl, w9⟩ := hc 9 0 rfl
  obtain ⟨_, h10, a10, rfl, w10⟩ := hc 10 0 rfl
  obtain ⟨_, h11, s, rfl, _⟩ := hc 11 2 rfl
  refine ⟨⟨a0, a1, a2, ⟨a3, a4, a5, a6, a7, a8, a9, a10, s⟩⟩, ⟨wf_bd w0, wf_bd w2, ⟨wf_bd w3, wf_bd w4, wf_bd w6, wf_bd w8⟩⟩, b, o, rfl, hb, fun j hj => ?_⟩
  match j, hj with
  | 0, _ => exact h0
  | 1, _ => exact h1
  | 2, _ => exact h2
  | 3, _ => exact h3
  | 4, _ => exact h4
  | 5, _ => exact h5
  | 6, _ => exact h6
  | 7, _ => exact h7
  | 8, _ => exact h8
  | 9, _ => exact h9
  | 10, _ => exact h10
  | 11, _ => exact h11

theorem Try.laidOut : laidOutB Try.prog = true := by kernel_rfl
theorem Try.own : ownKnob Try.prog.godebug = none := by kernel_rfl
theorem acts_flat : flat Try.prog 4 43 = some [0, 0, 0, 0, 0, 0, 0, 0, 0, 0, 0, 2] := by kernel_rfl
theorem acts_cells : Try.prog.cellsOf 43 = 12 := by kernel_rfl
theorem rec_acts : Try.prog.readableRec 39 = true := by kernel_rfl
theorem rec_int : Try.prog.readableRec 3 = true := by kernel_rfl
theorem rec_bool : Try.prog.readableRec 4 = true := by kernel_rfl
theorem types_lt : 39 < Try.prog.types.size ∧ 3 < Try.prog.types.size ∧ 4 < Try.prog.types.size := by
  refine ⟨?_, ?_, ?_⟩ <;> exact of_decide_eq_true (by kernel_rfl)

end Go.Proofs.Ytieeeijaojdbfaa
