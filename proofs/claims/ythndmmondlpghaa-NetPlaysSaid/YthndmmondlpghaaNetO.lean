/- Layer 13: the order of texts; sends in a row; lists of texts and scripts that came in. Plain lemmas; no program. -/
import Derived.Test.YthndmmondlpghaaNetL
import Derived.Test.YthndmmondlpghaaLawM
namespace Go.Proofs.Ythndmmondlpghaa
open Go.RowKit

theorem bytesLess_lt : ∀ (x y : List UInt8), Op.bytesLess x y = decide (x < y)
  | [], [] => by simp [Op.bytesLess]
  | [], y :: ys => by simp [Op.bytesLess]
  | x :: xs, [] => by simp [Op.bytesLess]
  | x :: xs, y :: ys => by
    rw [Op.bytesLess, bytesLess_lt xs ys, Bool.eq_iff_iff, decide_eq_true_iff, List.cons_lt_cons_iff, Bool.or_eq_true, Bool.and_eq_true, decide_eq_true_iff, decide_eq_true_iff, beq_iff_eq]
theorem less_of_le {x y : List UInt8} (h : leB x y = true) : Op.bytesLess y x = false := by
  rw [bytesLess_lt]
  simp only [leB, decide_eq_true_eq] at h
  exact decide_eq_false (List.not_lt.2 h)
theorem le_nil (x : List UInt8) : leB [] x = true := by
  simp only [leB, decide_eq_true_eq]
  exact List.nil_le x
theorem less_str {a b : ByteArray} (h : leB (kb b) (kb a) = true) : Op.bytesLess a.toList b.toList = false := by
  rw [ByteArray.toList_eq, ByteArray.toList_eq]
  exact less_of_le h
/-- a list's frame is no greater than one behind it -/
theorem srt_le {L : List (List UInt8)} (h : Srt L) {i j : Nat} {x y : List UInt8} (hi : L[i]? = some x) (hj : L[j]? = some y) (hij : i ≤ j) : leB x y = true := by
  obtain ⟨h1, rfl⟩ := List.getElem?_eq_some_iff.1 hi
  obtain ⟨h2, rfl⟩ := List.getElem?_eq_some_iff.1 hj
  rcases Nat.lt_or_eq_of_le hij with h3 | rfl
  · exact (List.pairwise_iff_getElem.1 h) i j h1 h2 h3
  · exact le_rf _
theorem ins_perm {s : List UInt8} {L R : List (List UInt8)} (hs : Srt R) (h : R.Perm (s :: L)) : insL s L = R :=
  srt_eq (srt_ins s L) hs (fun x => by rw [count_ins, h.count_eq])
theorem lookR_some {L : List (List UInt8)} {i : Int} (h0 : 0 ≤ i) (h1 : i < (L.length : Int)) : ∃ x, lookR L i = some x ∧ L[i.toNat]? = some x := by
  unfold lookR
  rw [if_neg (by omega)]
  exact ⟨_, List.getElem?_eq_getElem (by omega), List.getElem?_eq_getElem (by omega)⟩
theorem lookR_none {L : List (List UInt8)} {i : Int} (h : (L.length : Int) ≤ i) : lookR L i = none := by
  unfold lookR
  rw [if_neg (by omega)]
  exact List.getElem?_eq_none (by omega)
theorem lookR_lt {L : List (List UInt8)} {i : Int} {x : List UInt8} (h : lookR L i = some x) : 0 ≤ i ∧ i < (L.length : Int) := by
  unfold lookR at h
  split at h
  · cases h
  · have := (List.getElem?_eq_some_iff.1 h).1
    omega
/- texts that came in -/
structure Txt1 where
  s : ByteArray
structure Txt1Ok (x : Txt1) : Prop where
  ok : x = x
def Txt1.cells (x : Txt1) : List Value := [.string x.s]
def TextsAt (w : World) (A : Option Addr) (n : Nat) (f : Nat → Txt1) : Prop :=
  ∀ k, k < n → Txt1Ok (f k) ∧ ∃ b o, A = some ⟨b, o, none⟩ ∧ b < w.heap.size ∧ ∀ j, j < 1 → w.cell? ⟨b, o + k * 1 + j, none⟩ = (f k).cells[j]?
/-- one of a script's acts -/
structure Act13 where
  (what at_ : Int)
  near : Bool
  text : ByteArray
structure Act13Ok (x : Act13) : Prop where
  what : I64 x.what
  at_ : I64 x.at_
def Act13.cells (x : Act13) : List Value := [.int .i64 x.what, .int .i64 x.at_, .bool x.near, .string x.text]
def Acts13At (w : World) (A : Option Addr) (n : Nat) (f : Nat → Act13) : Prop :=
  ∀ k, k < n → Act13Ok (f k) ∧ ∃ b o, A = some ⟨b, o, none⟩ ∧ b < w.heap.size ∧ ∀ j, j < 4 → w.cell? ⟨b, o + k * 4 + j, none⟩ = (f k).cells[j]?
end Go.Proofs.Ythndmmondlpghaa
