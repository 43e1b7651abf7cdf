/- Layer 14's laws: an argument's numbers. Plain lemmas; no program. -/
import Derived.Test.YtmeddeaphmpjcaaPartyM
import Derived.Test.YtmeddeaphmpjcaaRaw9
namespace Go.Proofs.Ytmeddeaphmpjcaa
open Go.RowKit
/-- a number of an argument -/
structure Num1 where
  v : Int
structure Num1Ok (x : Num1) : Prop where
  v : I64 x.v
def Num1.cells (x : Num1) : List Value := [.int .i64 x.v]
def NumsAt (w : World) (A : Option Addr) (n : Nat) (f : Nat → Num1) : Prop :=
  ∀ k, k < n → Num1Ok (f k) ∧ ∃ b o, A = some ⟨b, o, none⟩ ∧ b < w.heap.size ∧ ∀ j, j < 1 → w.cell? ⟨b, o + k * 1 + j, none⟩ = (f k).cells[j]?
theorem turned_new {w W : World} {bk : List Bk} {wn : List Wn} {sz : Nat} (h : MemOk w (fun _ => False) bk wn sz W) {y : Nat} (hy : Turned bk y) : w.heap.size ≤ y := by
  obtain ⟨b, hb, hr, rfl⟩ := hy
  exact (h.own b hb hr).elim (fun h => h.elim) id
theorem num_cell {w W : World} {b o j : Nat} {x : Num1} {v : Value} (hk : Kept (fun _ => False) w W) (hb : b < w.heap.size) (hc : ∀ j, j < 1 → w.cell? ⟨b, o + j, none⟩ = x.cells[j]?) (hj : ([.int .i64 x.v] : List Value)[j]? = some v) : W.cell? ⟨b, o + j, none⟩ = some v := by
  have h5 : j < 1 := (List.getElem?_eq_some_iff.1 hj).1
  exact (hk.cell (p := ⟨b, o + j, none⟩) hb (fun h => h)).trans ((hc j h5).trans hj)
theorem lettersC_snoc (frm : Int) (l : List OneM) (o : OneM) : lettersC frm l ++ letC frm o = lettersC frm (l ++ [o]) := by simp [lettersC]
theorem ask_M {frm : Int} {l : List OneM} {last now to_ t : Int} {q : AskM} (ht : within14 now = t) : askC ⟨frm, last, l⟩ now to_ q = ⟨frm, last + 1, l ++ [⟨to_, last + 1, q, t, t⟩]⟩ := by simp [askC, ht]
theorem againL_none {now : Int} {l : List OneM} (h : ∀ o ∈ l, now - o.sent < 2) : againL now l = [] := by
  unfold againL
  rw [List.filter_eq_nil_iff]
  intro o ho
  have := h o ho
  simp
  omega
theorem againL_all {now : Int} {l : List OneM} (h : ∀ o ∈ l, now - o.sent ≥ 2) : againL now l = l := by
  unfold againL
  rw [List.filter_eq_self]
  intro o ho
  simpa using h o ho
theorem againS_none {now : Int} {l : List OneM} (h : ∀ o ∈ l, now - o.sent < 2) : againS now l = l := by
  unfold againS
  conv => rhs; rw [← List.map_id l]
  refine List.map_congr_left (fun o ho => ?_)
  have := h o ho
  rw [if_neg (by omega)]
  rfl
theorem lettersC_again (frm now : Int) (l : List OneM) : lettersC frm (againS now l) = lettersC frm l := by
  unfold lettersC againS
  rw [List.map_map]
  congr 1
  refine List.map_congr_left (fun o _ => ?_)
  simp only [Function.comp]
  split <;> rfl
theorem againS_all {now : Int} {l : List OneM} (h : ∀ o ∈ l, now - o.sent ≥ 2) : ∀ o ∈ againS now l, o.sent = now ∧ ∃ o' ∈ l, o'.asked = o.asked ∧ o'.to = o.to ∧ o'.id = o.id := by
  intro o ho
  simp only [againS, List.mem_map] at ho
  obtain ⟨o', h1, rfl⟩ := ho
  rw [if_pos (h o' h1)]
  exact ⟨rfl, o', h1, rfl, rfl, rfl⟩
theorem againS_pair {now : Int} {l : List OneM} (h : l.Pairwise (fun a b => a.id < b.id)) : (againS now l).Pairwise (fun a b => a.id < b.id) := by
  unfold againS
  rw [List.pairwise_map]
  refine h.imp (fun {a b} hab => ?_)
  split <;> split <;> exact hab
theorem againS_to {now : Int} {l : List OneM} {n : Int} : (∃ o ∈ againS now l, o.to = n) ↔ ∃ o ∈ l, o.to = n := by
  simp only [againS, List.mem_map]
  constructor
  · rintro ⟨_, ⟨o, ho, rfl⟩, rfl⟩
    refine ⟨o, ho, ?_⟩
    split <;> rfl
  · rintro ⟨o, ho, rfl⟩
    refine ⟨_, ⟨o, ho, rfl⟩, ?_⟩
    split <;> rfl
theorem againS_len (now : Int) (l : List OneM) : (againS now l).length = l.length := by simp [againS]
/-- is one of the first j letters for party n? -/
def hasB (l : List OneM) (n j : Nat) : Bool := (l.take j).any (fun o => o.to == (n : Int))
/-- is one of the first j of these n? -/
def toldB (l : List Int) (n j : Nat) : Bool := (l.take j).any (fun y => y == (n : Int))
theorem hasB_zero (l : List OneM) (n : Nat) : hasB l n 0 = false := by simp [hasB]
theorem toldB_zero (l : List Int) (n : Nat) : toldB l n 0 = false := by simp [toldB]
theorem hasB_succ {l : List OneM} {n j : Nat} {o : OneM} (h : l[j]? = some o) : hasB l n (j + 1) = (hasB l n j || (o.to == (n : Int))) := by
  simp [hasB, List.take_add_one, h]
theorem toldB_succ {l : List Int} {n j : Nat} {y : Int} (h : l[j]? = some y) : toldB l n (j + 1) = (toldB l n j || (y == (n : Int))) := by
  simp [toldB, List.take_add_one, h]
theorem hasB_all {l : List OneM} {n : Nat} : hasB l n l.length = true ↔ ∃ o ∈ l, o.to = (n : Int) := by simp [hasB]
theorem toldB_all {l : List Int} {n : Nat} : toldB l n l.length = true ↔ (n : Int) ∈ l := by
  simp only [toldB, List.take_length, List.any_eq_true, beq_iff_eq]
  exact ⟨fun ⟨y, h1, h2⟩ => h2 ▸ h1, fun h => ⟨_, h, rfl⟩⟩
end Go.Proofs.Ytmeddeaphmpjcaa
