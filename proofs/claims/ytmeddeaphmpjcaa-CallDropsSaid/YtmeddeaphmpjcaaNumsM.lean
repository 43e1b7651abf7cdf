/- Layer 14's laws: an argument's numbers. Plain lemmas; no program. -/
import Derived.Test.YtmeddeaphmpjcaaPartyM
import Derived.Test.YtmeddeaphmpjcaaRaw9
namespace Go.Proofs.Ytmeddeaphmpjcaa
open Go.RowKit
/-- a number of an argument -/
structure Num1 where
  v : Int
structure Num1Ok (x : Num1) : Prop where
  v : I64 x.v
def Num1.cells (x : Num1) : List Value := [.int .i64 x.v]
def NumsAt (w : World) (A : Option Addr) (n : Nat) (f : Nat → Num1) : Prop :=
  ∀ k, k < n → Num1Ok (f k) ∧ ∃ b o, A = some ⟨b, o, none⟩ ∧ b < w.heap.size ∧ ∀ j, j < 1 → w.cell? ⟨b, o + k * 1 + j, none⟩ = (f k).cells[j]?
theorem turned_new {w W : World} {bk : List Bk} {wn : List Wn} {sz : Nat} (h : MemOk w (fun _ => False) bk wn sz W) {y : Nat} (hy : Turned bk y) : w.heap.size ≤ y := by
  obtain ⟨b, hb, hr, rfl⟩ := hy
  exact (h.own b hb hr).elim (fun h => h.elim) id
theorem num_cell {w W : World} {b o j : Nat} {x : Num1} {v : Value} (hk : Kept (fun _ => False) w W) (hb : b < w.heap.size) (hc : ∀ j, j < 1 → w.cell? ⟨b, o + j, none⟩ = x.cells[j]?) (hj : ([.int .i64 x.v] : List Value)[j]? = some v) : W.cell? ⟨b, o + j, none⟩ = some v := by
  have h5 : j < 1 := (List.getElem?_eq_some_iff.1 hj).1
  exact (hk.cell (p := ⟨b, o + j, none⟩) hb (fun h => h)).trans ((hc j h5).trans hj)
theorem lettersC_snoc (frm : Int) (l : List OneM) (o : OneM) : lettersC frm l ++ letC frm o = lettersC frm (l ++ [o]) := by simp [lettersC]
theorem ask_M {l : List OneM} {last now to_ t : Int} {q : AskM} (ht : within14 now = t) : askC ⟨200, last, l⟩ now to_ q = ⟨200, last + 1, l ++ [⟨to_, last + 1, q, t, t⟩]⟩ := by simp [askC, ht]
theorem againL_none {now : Int} {l : List OneM} (h : ∀ o ∈ l, now - o.sent < 2) : againL now l = [] := by
  unfold againL
  rw [List.filter_eq_nil_iff]
  intro o ho
  have := h o ho
  simp
  omega
theorem againL_all {now : Int} {l : List OneM} (h : ∀ o ∈ l, now - o.sent ≥ 2) : againL now l = l := by
  unfold againL
  rw [List.filter_eq_self]
  intro o ho
  simpa using h o ho
theorem againS_none {now : Int} {l : List OneM} (h : ∀ o ∈ l, now - o.sent < 2) : againS now l = l := by
  unfold againS
  conv => rhs; rw [← List.map_id l]
  refine List.map_congr_left (fun o ho => ?_)
  have := h o ho
  rw [if_neg (by omega)]
  rfl
end Go.Proofs.Ytmeddeaphmpjcaa
