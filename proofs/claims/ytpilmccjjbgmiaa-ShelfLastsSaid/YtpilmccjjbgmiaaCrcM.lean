/- Layer 2's sum in plain Lean. No program. -/
import Derived.Test.YtpilmccjjbgmiaaEngV
namespace Go.Proofs.Ytpilmccjjbgmiaa
open Go.RowKit

def crc1 (c : Int) : Int := if 16777216 ≤ c * 2 then xorZ (c * 2) 25578747 else c * 2
def crcN : Nat → Int → Int
  | 0, c => c
  | k + 1, c => crcN k (crc1 c)
def crcB (c b : Int) : Int := crcN 8 (xorZ c (b * 65536))
def crcL (c : Int) (l : List Int) : Int := l.foldl crcB c
def crcS (s : ByteArray) : Int := crcL 11994318 (intsOf s)
def Sum24 (c : Int) : Prop := 0 ≤ c ∧ c < 16777216
theorem xor_under {a b k : Nat} (ha : a < 2 ^ k) (hb : b < 2 ^ k) : a ^^^ b < 2 ^ k := Nat.xor_lt_two_pow ha hb
theorem xor_top {a b k : Nat} (ha : a < 2 ^ (k + 1)) (hb : b < 2 ^ (k + 1)) (ha' : 2 ^ k ≤ a) (hb' : 2 ^ k ≤ b) : a ^^^ b < 2 ^ k := by
  have ta : a.testBit k = true := by
    rw [Nat.testBit_eq_decide_div_mod_eq]
    have h1 : a / 2 ^ k = 1 := by
      rw [Nat.pow_succ] at ha
      exact Nat.div_eq_of_lt_le (by omega) (by omega)
    simp [h1]
  have tb : b.testBit k = true := by
    rw [Nat.testBit_eq_decide_div_mod_eq]
    have h1 : b / 2 ^ k = 1 := by
      rw [Nat.pow_succ] at hb
      exact Nat.div_eq_of_lt_le (by omega) (by omega)
    simp [h1]
  refine Nat.lt_pow_two_of_testBit _ fun i hi => ?_
  rw [Nat.testBit_xor]
  rcases Nat.lt_or_eq_of_le hi with h | h
  · rw [Nat.testBit_lt_two_pow (Nat.lt_of_lt_of_le ha (Nat.pow_le_pow_right (by decide) h)), Nat.testBit_lt_two_pow (Nat.lt_of_lt_of_le hb (Nat.pow_le_pow_right (by decide) h))]
    rfl
  · subst h
    rw [ta, tb]
    rfl
theorem xorZ_under {a b : Int} (k : Nat) (ha : 0 ≤ a ∧ a < ((2 ^ k : Nat) : Int)) (hb : 0 ≤ b ∧ b < ((2 ^ k : Nat) : Int)) : 0 ≤ xorZ a b ∧ xorZ a b < ((2 ^ k : Nat) : Int) := by
  have := xor_under (a := a.toNat) (b := b.toNat) (k := k) (by omega) (by omega)
  unfold xorZ
  omega
theorem crc1_bd {c : Int} (h : Sum24 c) : Sum24 (crc1 c) := by
  unfold Sum24 at *
  unfold crc1
  split
  · have := xor_top (a := (c * 2).toNat) (b := (25578747 : Int).toNat) (k := 24) (by omega) (by decide) (by omega) (by decide)
    unfold xorZ
    omega
  · omega
theorem crcN_bd : ∀ (k : Nat) {c : Int}, Sum24 c → Sum24 (crcN k c)
  | 0, _, h => h
  | k + 1, _, h => crcN_bd k (crc1_bd h)
theorem xor24 {c b : Int} (h : Sum24 c) (hb : 0 ≤ b ∧ b ≤ 255) : Sum24 (xorZ c (b * 65536)) := by
  unfold Sum24 at *
  have := xorZ_under (a := c) (b := b * 65536) 24 (by omega) (by omega)
  omega
theorem crcB_bd {c b : Int} (h : Sum24 c) (hb : 0 ≤ b ∧ b ≤ 255) : Sum24 (crcB c b) := crcN_bd 8 (xor24 h hb)
theorem crcL_bd : ∀ (l : List Int) {c : Int}, Sum24 c → Byts l → Sum24 (crcL c l)
  | [], _, h, _ => h
  | x :: l, _, h, hl => crcL_bd l (crcB_bd h (hl x (List.mem_cons_self ..))) (fun n hn => hl n (List.mem_cons_of_mem _ hn))
theorem crcS_bd (s : ByteArray) : 0 ≤ crcS s ∧ crcS s ≤ 16777215 := by
  have := crcL_bd (intsOf s) (c := 11994318) ⟨by decide, by decide⟩ (byts_intsOf s)
  unfold Sum24 at this
  unfold crcS
  omega
theorem crcL_take (c : Int) (s : ByteArray) {i : Nat} (h : i < s.size) : crcL c ((intsOf s).take (i + 1)) = crcB (crcL c ((intsOf s).take i)) (byteAt s i) := by
  have hl : i < (intsOf s).length := by rw [length_intsOf]; exact h
  rw [List.take_add_one, List.getElem?_eq_getElem hl, byteAt_eq, List.getElem?_eq_getElem hl]
  simp only [Option.toList_some, Option.getD_some, crcL, List.foldl_append, List.foldl_cons, List.foldl_nil]
theorem take_all (s : ByteArray) : (intsOf s).take s.size = intsOf s := List.take_of_length_le (by rw [length_intsOf]; exact Nat.le_refl _)
/- the document's xor: bit by bit -/
theorem xor_half (a b : Nat) : a ^^^ b = 2 * ((a / 2) ^^^ (b / 2)) + (if a % 2 ≠ b % 2 then 1 else 0) := by
  have h1 : (a ^^^ b) / 2 = a / 2 ^^^ b / 2 := by
    have := Nat.shiftRight_xor_distrib (a := a) (b := b) (i := 1)
    simpa [Nat.shiftRight_eq_div_pow] using this
  have h2 : (a ^^^ b) % 2 = if a % 2 ≠ b % 2 then 1 else 0 := by
    have h3 : (a ^^^ b).testBit 0 = (a.testBit 0 ^^ b.testBit 0) := Nat.testBit_xor a b 0
    simp only [Nat.testBit_zero] at h3
    have h4 : ∀ x : Nat, decide (x % 2 = 1) = true ↔ x % 2 = 1 := fun x => by simp
    rcases Nat.mod_two_eq_zero_or_one a with ha | ha <;> rcases Nat.mod_two_eq_zero_or_one b with hb | hb <;> rw [ha, hb] at h3 ⊢
    · have := (decide_eq_false_iff_not (p := (a ^^^ b) % 2 = 1)).1 h3
      rw [if_neg (by decide)]
      omega
    · have := (decide_eq_true_iff (p := (a ^^^ b) % 2 = 1)).1 h3
      rw [if_pos (by decide)]
      exact this
    · have := (decide_eq_true_iff (p := (a ^^^ b) % 2 = 1)).1 h3
      rw [if_pos (by decide)]
      exact this
    · have := (decide_eq_false_iff_not (p := (a ^^^ b) % 2 = 1)).1 h3
      rw [if_neg (by decide)]
      omega
  omega
theorem xorZ_half (a b : Int) (ha : 0 ≤ a) (hb : 0 ≤ b) : xorZ a b = 2 * xorZ (a / 2) (b / 2) + (if a % 2 ≠ b % 2 then 1 else 0) := by
  have h := xor_half a.toNat b.toNat
  unfold xorZ
  have e1 : (a / 2).toNat = a.toNat / 2 := by omega
  have e2 : (b / 2).toNat = b.toNat / 2 := by omega
  rw [e1, e2]
  rw [h]
  split <;> split <;> omega
end Go.Proofs.Ytpilmccjjbgmiaa
