/- Layer 8: a run of at most 24 turned bits is seen. Plain Lean; no program. -/
import Derived.Test.YtpcdccljioiiaaaShelfL
namespace Go.Proofs.Ytpcdccljioiiaaa
open Go.RowKit

/- the sum on natural numbers -/
def nc1 (c : Nat) : Nat := if 16777216 ≤ c * 2 then (c * 2) ^^^ 25578747 else c * 2
def ncN : Nat → Nat → Nat
  | 0, c => c
  | k + 1, c => ncN k (nc1 c)
theorem crc1_nat (n : Nat) : crc1 (n : Int) = (nc1 n : Int) := by
  unfold crc1 nc1
  by_cases h : 16777216 ≤ n * 2
  · rw [if_pos h, if_pos (by omega)]
    unfold xorZ
    have e : ((n : Int) * 2).toNat = n * 2 := by omega
    rw [e]
    rfl
  · rw [if_neg h, if_neg (by omega)]
    omega
theorem crcN_nat : ∀ (k n : Nat), crcN k (n : Int) = (ncN k n : Int)
  | 0, _ => rfl
  | k + 1, n => by
    show crcN k (crc1 (n : Int)) = _
    rw [crc1_nat, crcN_nat k]
    rfl
theorem nc1_lt {c : Nat} (h : c < 16777216) : nc1 c < 16777216 := by
  unfold nc1
  split
  · exact xor_top (k := 24) (by omega) (by decide) (by omega) (by decide)
  · omega
theorem ncN_lt : ∀ (k : Nat) {c : Nat}, c < 16777216 → ncN k c < 16777216
  | 0, _, h => h
  | k + 1, _, h => ncN_lt k (nc1_lt h)
theorem ncN_add : ∀ (j k c : Nat), ncN (j + k) c = ncN k (ncN j c)
  | 0, k, c => by rw [Nat.zero_add]; rfl
  | j + 1, k, c => by
    rw [Nat.add_right_comm]
    exact ncN_add j k (nc1 c)
theorem xor_mix {a b : Nat} (ha : 8388608 ≤ a) (hb : b < 8388608) : 8388608 ≤ a ^^^ b := by
  rcases Nat.lt_or_ge (a ^^^ b) 8388608 with h | h
  · have h2 := xor_under (k := 23) (a := a ^^^ b) (b := b) h hb
    rw [Nat.xor_assoc, Nat.xor_self, Nat.xor_zero] at h2
    omega
  · exact h
theorem nc1_xor {a b : Nat} (ha : a < 16777216) (hb : b < 16777216) : nc1 (a ^^^ b) = nc1 a ^^^ nc1 b := by
  have e : (a ^^^ b) * 2 = a * 2 ^^^ b * 2 := by
    have := Nat.shiftLeft_xor_distrib (a := a) (b := b) (i := 1)
    simpa [Nat.shiftLeft_eq] using this
  unfold nc1
  rcases Nat.lt_or_ge a 8388608 with ha' | ha' <;> rcases Nat.lt_or_ge b 8388608 with hb' | hb'
  · have := xor_under (k := 23) ha' hb'
    rw [if_neg (by omega), if_neg (by omega), if_neg (by omega), e]
  · have := xor_mix hb' ha'
    rw [Nat.xor_comm] at this
    rw [if_pos (by omega), if_neg (by omega), if_pos (by omega), e, Nat.xor_assoc]
  · have := xor_mix ha' hb'
    rw [if_pos (by omega), if_pos (by omega), if_neg (by omega), e, Nat.xor_assoc, Nat.xor_assoc, Nat.xor_comm (b * 2)]
  · have := xor_top (k := 23) ha hb ha' hb'
    rw [if_neg (by omega), if_pos (by omega), if_pos (by omega), e, Nat.xor_assoc, Nat.xor_comm (b * 2), ← Nat.xor_assoc 25578747, Nat.xor_self, Nat.zero_xor]
theorem ncN_xor : ∀ (k : Nat) {a b : Nat}, a < 16777216 → b < 16777216 → ncN k (a ^^^ b) = ncN k a ^^^ ncN k b
  | 0, _, _, _, _ => rfl
  | k + 1, _, _, ha, hb => by
    show ncN k (nc1 _) = ncN k (nc1 _) ^^^ ncN k (nc1 _)
    rw [nc1_xor ha hb, ncN_xor k (nc1_lt ha) (nc1_lt hb)]
theorem ncN_shift : ∀ (k : Nat) {a : Nat}, a * 2 ^ k < 16777216 → ncN k a = a * 2 ^ k
  | 0, a, _ => (Nat.mul_one a).symm
  | k + 1, a, h => by
    have e : a * 2 ^ (k + 1) = a * 2 * 2 ^ k := by rw [Nat.pow_succ, Nat.mul_comm (2 ^ k), ← Nat.mul_assoc]
    rw [e] at h ⊢
    have h1 : a * 2 ≤ a * 2 * 2 ^ k := Nat.le_mul_of_pos_right _ (Nat.pow_pos (by decide))
    have h2 : nc1 a = a * 2 := by
      unfold nc1
      exact if_neg (by omega)
    show ncN k (nc1 a) = _
    rw [h2, ncN_shift k h]
theorem nc1_zero {c : Nat} (h : nc1 c = 0) : c = 0 := by
  unfold nc1 at h
  split at h
  · have h1 : (c * 2 ^^^ 25578747) ^^^ 25578747 = 25578747 := by rw [h, Nat.zero_xor]
    rw [Nat.xor_assoc, Nat.xor_self, Nat.xor_zero] at h1
    omega
  · omega
theorem ncN_zero : ∀ (k : Nat) {c : Nat}, ncN k c = 0 → c = 0
  | 0, _, h => h
  | k + 1, _, h => nc1_zero (ncN_zero k h)
theorem ncN_of_zero : ∀ k, ncN k 0 = 0
  | 0 => rfl
  | k + 1 => ncN_of_zero k
theorem add_xor {k lo : Nat} (hi : Nat) (h : lo < 2 ^ k) : 2 ^ k * hi + lo = (2 ^ k * hi) ^^^ lo := by
  apply Nat.eq_of_testBit_eq
  intro j
  rw [Nat.testBit_two_pow_mul_add _ h, Nat.testBit_xor, Nat.testBit_two_pow_mul]
  by_cases hj : j < k
  · rw [if_pos hj, decide_eq_false (show ¬ j ≥ k by omega)]
    simp
  · rw [if_neg hj, decide_eq_true (show j ≥ k by omega), Nat.testBit_lt_two_pow (Nat.lt_of_lt_of_le h (Nat.pow_le_pow_right (by decide) (by omega)))]
    simp

/- and on numbers -/
theorem xorZ_nat (a b : Nat) : xorZ (a : Int) (b : Int) = ((a ^^^ b : Nat) : Int) := by
  unfold xorZ
  rw [Int.toNat_natCast, Int.toNat_natCast]
theorem crcB_nat (c b : Nat) : crcB (c : Int) (b : Int) = (ncN 8 (c ^^^ b * 65536) : Int) := by
  have e : ((b : Int) * 65536).toNat = b * 65536 := by omega
  unfold crcB xorZ
  rw [e, Int.toNat_natCast, crcN_nat]
theorem crcB_xor {c b m : Int} (hc : Sum24 c) (hb : 0 ≤ b ∧ b ≤ 255) (hm : 0 ≤ m ∧ m ≤ 255) : crcB c (xorZ b m) = xorZ (crcB c b) (crcN 8 (m * 65536)) := by
  obtain ⟨n, rfl⟩ : ∃ n : Nat, c = (n : Int) := ⟨c.toNat, by unfold Sum24 at hc; omega⟩
  obtain ⟨x, rfl⟩ : ∃ n : Nat, b = (n : Int) := ⟨b.toNat, by omega⟩
  obtain ⟨y, rfl⟩ : ∃ n : Nat, m = (n : Int) := ⟨m.toNat, by omega⟩
  unfold Sum24 at hc
  have e1 : xorZ (x : Int) (y : Int) = ((x ^^^ y : Nat) : Int) := xorZ_nat x y
  have e2 : (y : Int) * 65536 = ((y * 65536 : Nat) : Int) := by omega
  have hxy := xor_under (k := 8) (a := x) (b := y) (by omega) (by omega)
  rw [e1, crcB_nat, crcB_nat, e2, crcN_nat]
  have e3 : (x ^^^ y) * 65536 = x * 65536 ^^^ y * 65536 := by
    have := Nat.shiftLeft_xor_distrib (a := x) (b := y) (i := 16)
    simpa [Nat.shiftLeft_eq] using this
  rw [e3, ← Nat.xor_assoc, ncN_xor 8 (xor_under (k := 24) (by omega) (by omega)) (by omega), xorZ_nat]
theorem crcL_xor : ∀ (l : List Int) {c d : Int}, Sum24 c → Sum24 d → Byts l → crcL (xorZ c d) l = xorZ (crcL c l) (crcN (8 * l.length) d)
  | [], c, d, _, _, _ => by
    show xorZ c d = xorZ c (crcN 0 d)
    rfl
  | b :: l, c, d, hc, hd, hl => by
    have hb := hl b (List.mem_cons_self ..)
    have hl' : Byts l := fun n hn => hl n (List.mem_cons_of_mem _ hn)
    have h1 : crcB (xorZ c d) b = xorZ (crcB c b) (crcN 8 d) := by
      obtain ⟨n, rfl⟩ : ∃ n : Nat, c = (n : Int) := ⟨c.toNat, by unfold Sum24 at hc; omega⟩
      obtain ⟨y, rfl⟩ : ∃ n : Nat, d = (n : Int) := ⟨d.toNat, by unfold Sum24 at hd; omega⟩
      obtain ⟨x, rfl⟩ : ∃ n : Nat, b = (n : Int) := ⟨b.toNat, by omega⟩
      unfold Sum24 at hc hd
      have e1 : xorZ (n : Int) (y : Int) = ((n ^^^ y : Nat) : Int) := xorZ_nat n y
      rw [e1, crcB_nat, crcB_nat, crcN_nat]
      rw [show (n ^^^ y) ^^^ x * 65536 = (n ^^^ x * 65536) ^^^ y by rw [Nat.xor_assoc, Nat.xor_comm y, ← Nat.xor_assoc], ncN_xor 8 (xor_under (k := 24) (by omega) (by omega)) (by omega), xorZ_nat]
    have h2 := crcL_xor l (crcB_bd hc hb) (crcN_bd 8 hd) hl'
    show crcL (crcB (xorZ c d) b) l = xorZ (crcL (crcB c b) l) _
    rw [h1, h2]
    have h3 : crcN (8 * l.length) (crcN 8 d) = crcN (8 * (b :: l).length) d := by
      obtain ⟨y, rfl⟩ : ∃ n : Nat, d = (n : Int) := ⟨d.toNat, by unfold Sum24 at hd; omega⟩
      rw [crcN_nat, crcN_nat, crcN_nat, ← ncN_add]
      congr 2
      simp only [List.length_cons]
      omega
    rw [h3]
/-- the bit k of a list of 64 bytes, turned -/
def flipL (l : List Int) (k : Nat) : List Int := l.set (k / 8) (xorZ (l[k / 8]?.getD 0) (128 / ((2 ^ (k % 8) : Nat) : Int)))
theorem mask_bd (o : Nat) (h : o < 8) : (0 : Int) ≤ 128 / ((2 ^ o : Nat) : Int) ∧ (128 : Int) / ((2 ^ o : Nat) : Int) ≤ 255 := by
  have : ∀ o : Nat, o < 8 → (0 : Int) ≤ 128 / ((2 ^ o : Nat) : Int) ∧ (128 : Int) / ((2 ^ o : Nat) : Int) ≤ 255 := by decide +kernel
  exact this o h
theorem xor_byte {a b : Int} (ha : 0 ≤ a ∧ a ≤ 255) (hb : 0 ≤ b ∧ b ≤ 255) : 0 ≤ xorZ a b ∧ xorZ a b ≤ 255 := by
  have := xorZ_under (a := a) (b := b) 8 (by omega) (by omega)
  omega
theorem getD_byts {l : List Int} (h : Byts l) (i : Nat) : 0 ≤ l[i]?.getD 0 ∧ l[i]?.getD 0 ≤ 255 := by
  cases e : l[i]? with
  | none => simp
  | some v => exact h v (List.mem_of_getElem? e)
theorem byts_set {l : List Int} (h : Byts l) {i : Nat} {v : Int} (hv : 0 ≤ v ∧ v ≤ 255) : Byts (l.set i v) := fun n hn => by
  rcases List.mem_or_eq_of_mem_set hn with h1 | rfl
  · exact h n h1
  · exact hv
theorem byts_flip {l : List Int} (h : Byts l) (k : Nat) : Byts (flipL l k) := byts_set h (xor_byte (getD_byts h _) (mask_bd _ (Nat.mod_lt _ (by decide))))
theorem length_flip (l : List Int) (k : Nat) : (flipL l k).length = l.length := by simp [flipL]
theorem crc_flip {l : List Int} {c : Int} (hc : Sum24 c) (hl : Byts l) (hn : l.length = 64) {k : Nat} (hk : k < 512) : crcL c (flipL l k) = xorZ (crcL c l) ((ncN (535 - k) 1 : Nat) : Int) := by
  have hj : k / 8 < l.length := by omega
  have hsplit : l = l.take (k / 8) ++ l[k / 8] :: l.drop (k / 8 + 1) := by
    rw [← List.drop_eq_getElem_cons hj, List.take_append_drop]
  have hset : flipL l k = l.take (k / 8) ++ xorZ l[k / 8] (128 / ((2 ^ (k % 8) : Nat) : Int)) :: l.drop (k / 8 + 1) := by
    unfold flipL
    rw [List.getElem?_eq_getElem hj, Option.getD_some, List.set_eq_take_append_cons_drop, if_pos hj]
  have hb : 0 ≤ l[k / 8] ∧ l[k / 8] ≤ 255 := hl _ (List.getElem_mem hj)
  have hm := mask_bd (k % 8) (Nat.mod_lt _ (by decide))
  have hA : Byts (l.take (k / 8)) := fun n h => hl n (List.mem_of_mem_take h)
  have hB : Byts (l.drop (k / 8 + 1)) := fun n h => hl n (List.mem_of_mem_drop h)
  have hx := crcL_bd _ hc hA
  have e1 : crcL c l = crcL (crcB (crcL c (l.take (k / 8))) l[k / 8]) (l.drop (k / 8 + 1)) := by
    conv => lhs; rw [hsplit]
    simp only [crcL, List.foldl_append, List.foldl_cons]
  have e2 : crcL c (flipL l k) = crcL (crcB (crcL c (l.take (k / 8))) (xorZ l[k / 8] (128 / ((2 ^ (k % 8) : Nat) : Int)))) (l.drop (k / 8 + 1)) := by
    rw [hset]
    simp only [crcL, List.foldl_append, List.foldl_cons]
  have hd : Sum24 (crcN 8 (128 / ((2 ^ (k % 8) : Nat) : Int) * 65536)) := crcN_bd 8 ⟨by omega, by omega⟩
  rw [e2, e1, crcB_xor hx hb hm, crcL_xor _ (crcB_bd hx hb) hd hB]
  congr 1
  have e3 : (128 : Int) / ((2 ^ (k % 8) : Nat) : Int) * 65536 = ((2 ^ (23 - k % 8) : Nat) : Int) := by
    have : ∀ o : Nat, o < 8 → (128 : Int) / ((2 ^ o : Nat) : Int) * 65536 = ((2 ^ (23 - o) : Nat) : Int) := by decide +kernel
    exact this _ (Nat.mod_lt _ (by decide))
  have e4 : ncN (23 - k % 8) 1 = 2 ^ (23 - k % 8) := by
    rw [ncN_shift _ (by rw [Nat.one_mul]; exact Nat.lt_of_le_of_lt (Nat.pow_le_pow_right (by decide) (show 23 - k % 8 ≤ 23 by omega)) (by decide)), Nat.one_mul]
  rw [e3, ← e4, crcN_nat, crcN_nat, ← ncN_add, ← ncN_add]
  congr 2
  rw [List.length_drop]
  omega

/-- what holds behind i rounds: T: the turned bits as a number -/
structure TurnI (L0 : List Int) (F i : Nat) (L : List Int) (so : Bool) : Prop where
  byts : Byts L
  len : L.length = 64
  sum : ∃ T : Nat, T < 16777216 ∧ 2 ^ (24 - i) ∣ T ∧ (so = true ↔ T ≠ 0) ∧ (T = 0 → L = L0) ∧ crcL 11994318 L = xorZ (crcL 11994318 L0) ((ncN (512 - F) T : Nat) : Int)
  rest : ∀ j, F + i ≤ 8 * j → L[j]? = L0[j]?
  three : F ≤ 1 → L[3]? = L0[3]? ∨ ∃ v, L0[3]? = some v ∧ L[3]? = some (xorZ v 128)
  zero : 1 < F → (L[0]?.getD 0) / 64 % 2 = (L0[0]?.getD 0) / 64 % 2
theorem turn_start {L0 : List Int} (h : Byts L0) (hn : L0.length = 64) (F : Nat) : TurnI L0 F 0 L0 false := by
  refine ⟨h, hn, ⟨0, by decide, Nat.dvd_zero _, by simp, fun _ => rfl, ?_⟩, fun _ _ => rfl, fun _ => .inl rfl, fun _ => rfl⟩
  rw [ncN_of_zero]
  have hb := crcL_bd L0 (c := 11994318) ⟨by decide, by decide⟩ h
  unfold Sum24 at hb
  unfold xorZ
  rw [show ((0 : Nat) : Int).toNat = 0 from rfl, Nat.xor_zero]
  omega
theorem turn_skip {L0 L : List Int} {F i : Nat} {so : Bool} (h : TurnI L0 F i L so) : TurnI L0 F (i + 1) L so := by
  obtain ⟨T, h1, h2, h3⟩ := h.sum
  exact ⟨h.byts, h.len, ⟨T, h1, Nat.dvd_trans (Nat.pow_dvd_pow 2 (by omega)) h2, h3⟩, fun j hj => h.rest j (by omega), h.three, h.zero⟩
theorem turn_flip {L0 L : List Int} {F i : Nat} {so : Bool} (h : TurnI L0 F i L so) (hi : i < 24) (hF : F + i < 512) : TurnI L0 F (i + 1) (flipL L (F + i)) true := by
  obtain ⟨T, h1, h2, h3, h4, h5⟩ := h.sum
  have hp : (2 : Nat) ^ (24 - i) = 2 * 2 ^ (23 - i) := by rw [show 24 - i = (23 - i) + 1 by omega, Nat.pow_succ, Nat.mul_comm]
  obtain ⟨q, rfl⟩ := h2
  have hlt : (2 : Nat) ^ (23 - i) < 2 ^ (24 - i) := Nat.pow_lt_pow_right (by decide) (by omega)
  have hle : (2 : Nat) ^ (23 - i) < 16777216 := Nat.lt_of_le_of_lt (Nat.pow_le_pow_right (by decide) (show 23 - i ≤ 23 by omega)) (by decide)
  have hx : (2 ^ (24 - i) * q) ^^^ 2 ^ (23 - i) = 2 ^ (24 - i) * q + 2 ^ (23 - i) := (add_xor q hlt).symm
  have hxl := xor_under (k := 24) (a := 2 ^ (24 - i) * q) (b := 2 ^ (23 - i)) h1 hle
  refine ⟨byts_flip h.byts _, (length_flip _ _).trans h.len, ⟨(2 ^ (24 - i) * q) ^^^ 2 ^ (23 - i), hxl, ?_, ?_, ?_, ?_⟩, fun j hj => ?_, fun hF1 => ?_, fun hF1 => ?_⟩
  · rw [hx, hp, show 24 - (i + 1) = 23 - i by omega]
    exact ⟨2 * q + 1, by rw [Nat.mul_add, Nat.mul_one, Nat.mul_comm 2 (2 ^ (23 - i)), Nat.mul_assoc]⟩
  · rw [hx]
    have := Nat.pow_pos (n := 23 - i) (show 0 < 2 by decide)
    simp
  · intro e
    rw [hx] at e
    have := Nat.pow_pos (n := 23 - i) (show 0 < 2 by decide)
    omega
  · rw [crc_flip ⟨by decide, by decide⟩ h.byts h.len hF, h5, ncN_xor _ h1 hle]
    have e1 : ncN (535 - (F + i)) 1 = ncN (512 - F) (2 ^ (23 - i)) := by
      have e2 : ncN (23 - i) 1 = 2 ^ (23 - i) := by rw [ncN_shift _ (by rw [Nat.one_mul]; exact hle), Nat.one_mul]
      rw [← e2, ← ncN_add]
      congr 1
      omega
    rw [e1]
    unfold xorZ
    simp only [Int.toNat_natCast]
    rw [Nat.xor_assoc]
  · unfold flipL
    rw [List.getElem?_set_ne (by omega)]
    exact h.rest j (by omega)
  · by_cases hj : (F + i) / 8 = 3
    · right
      have hr := h.rest 3 (by omega)
      have h3l : 3 < L.length := by rw [h.len]; decide
      refine ⟨L[3], by rw [← hr, List.getElem?_eq_getElem h3l], ?_⟩
      unfold flipL
      rw [hj, List.getElem?_set_self h3l, List.getElem?_eq_getElem h3l, Option.getD_some, show (F + i) % 8 = 0 by omega]
      rfl
    · unfold flipL
      rw [List.getElem?_set_ne hj]
      exact h.three hF1
  · by_cases hj : (F + i) / 8 = 0
    · have h0l : 0 < L.length := by rw [h.len]; decide
      have hb := getD_byts h.byts 0
      unfold flipL
      rw [hj, List.getElem?_set_self h0l, Option.getD_some, ← h.zero hF1]
      obtain ⟨x, hx⟩ : ∃ n : Nat, L[0]?.getD 0 = (n : Int) := ⟨(L[0]?.getD 0).toNat, by omega⟩
      rw [hx] at hb ⊢
      have key : ∀ x : Nat, x < 256 → ∀ o : Nat, o < 8 → 2 ≤ o → xorZ (x : Int) (128 / ((2 ^ o : Nat) : Int)) / 64 % 2 = (x : Int) / 64 % 2 := by decide +kernel
      exact key x (by omega) _ (Nat.mod_lt _ (by decide)) (by omega)
    · unfold flipL
      rw [List.getElem?_set_ne hj]
      exact h.zero hF1
theorem turn_more {L0 L : List Int} {F i : Nat} {so : Bool} (h : TurnI L0 F i L so) (n : Nat) : TurnI L0 F (i + n) L so := by
  induction n with
  | zero => exact h
  | succ n ih => exact turn_skip ih
theorem xor_hi {hi lo k : Nat} (h : lo < 2 ^ k) : (2 ^ k * hi + lo) ^^^ hi * 2 ^ k = lo := by
  rw [add_xor hi h, Nat.mul_comm hi, Nat.xor_comm (2 ^ k * hi), Nat.xor_assoc, Nat.xor_self, Nat.xor_zero]
/-- a sum behind its own text -/
theorem crc_tail {c : Int} (hc : Sum24 c) : crcL c (tail3 c) = 0 := by
  obtain ⟨n, rfl⟩ : ∃ n : Nat, c = (n : Int) := ⟨c.toNat, by unfold Sum24 at hc; omega⟩
  unfold Sum24 at hc
  have e1 : (n : Int) / 65536 = ((n / 65536 : Nat) : Int) := by omega
  have e2 : (n : Int) / 256 % 256 = ((n / 256 % 256 : Nat) : Int) := by omega
  have e3 : (n : Int) % 256 = ((n % 256 : Nat) : Int) := by omega
  show crcB (crcB (crcB (n : Int) ((n : Int) / 65536)) ((n : Int) / 256 % 256)) ((n : Int) % 256) = 0
  have a1 : n ^^^ n / 65536 * 65536 = n % 65536 := by
    have := xor_hi (hi := n / 65536) (lo := n % 65536) (k := 16) (by omega)
    rw [show 2 ^ 16 * (n / 65536) + n % 65536 = n by omega] at this
    exact this
  have a2 : ncN 8 (n % 65536) = n % 65536 * 256 := ncN_shift 8 (by omega)
  have a3 : n % 65536 * 256 ^^^ n / 256 % 256 * 65536 = n % 256 * 256 := by
    have := xor_hi (hi := n / 256 % 256) (lo := n % 256 * 256) (k := 16) (by omega)
    rw [show 2 ^ 16 * (n / 256 % 256) + n % 256 * 256 = n % 65536 * 256 by omega] at this
    exact this
  have a4 : ncN 8 (n % 256 * 256) = n % 256 * 65536 := by
    rw [ncN_shift 8 (by omega)]
    omega
  rw [e1, e2, e3, crcB_nat, a1, a2, crcB_nat, a3, a4, crcB_nat, Nat.xor_self, ncN_of_zero]
  rfl
theorem crc_packA {st : Int} {r : RecM} (hs : 0 ≤ st ∧ st ≤ 7) (h : RecOk r) : crcL 11994318 (packA st r) = 0 := by
  have h1 := crcL_bd (packH st r) (c := 11994318) ⟨by decide, by decide⟩ (byts_packH hs h)
  have e : crcL 11994318 (packA st r) = crcL (crcL 11994318 (packH st r)) (tail3 (sumI (packH st r))) := by
    simp only [crcL, packA, List.foldl_append]
  rw [e]
  exact crc_tail h1
theorem zeros_sums : ∀ a : Nat, a < 8 → ∀ f : Nat, f < 4 → ∀ b : Nat, b < 2 → sumI ([83, (a : Int), (f : Int), 128 * (b : Int)] ++ List.replicate 57 0) ≠ 0 := by decide +kernel
theorem intsOf_zeros : intsOf zeros64 = List.replicate 64 0 := intsOf_bytesI (by intro n hn; rw [List.eq_of_mem_replicate hn]; omega)
/-- where a run of bits was turned there are no noughts all through -/
theorem turn_zeros {st : Int} {r : RecM} (hs : 0 ≤ st ∧ st ≤ 7) (h : RecOk r) {F : Nat} {L : List Int} {so : Bool} (hT : TurnI (packA st r) F 24 L so) : L ≠ List.replicate 64 0 := by
  intro e
  subst e
  have hF : F ≤ 1 := by
    rcases Nat.lt_or_ge 1 F with h1 | h1
    · have := hT.zero h1
      have h2 : (0 : Int) / 64 % 2 = (83 : Int) / 64 % 2 := this
      exact absurd h2 (by decide)
    · exact h1
  have hr : ∀ k, 4 ≤ k → k < 64 → (packA st r)[k]? = some 0 := fun k h4 h6 => by
    rw [← hT.rest k (by omega), List.getElem?_replicate, if_pos h6]
  have h3 : ∃ b : Nat, b < 2 ∧ (packA st r)[3]? = some (128 * (b : Int)) := by
    rcases hT.three hF with e | ⟨v, e1, e2⟩
    · exact ⟨0, by decide, by rw [← e]; rfl⟩
    · have hv : 0 ≤ v ∧ v ≤ 255 := byts_packA hs h v (List.mem_of_getElem? e1)
      obtain ⟨x, rfl⟩ : ∃ n : Nat, v = (n : Int) := ⟨v.toNat, by omega⟩
      have e3 : (0 : Int) = xorZ (x : Int) 128 := Option.some.inj e2
      have key : ∀ x : Nat, x < 256 → xorZ (x : Int) 128 = 0 → x = 128 := by decide +kernel
      exact ⟨1, by decide, by rw [e1, key x (by omega) e3.symm]; rfl⟩
  obtain ⟨b, hb, h3⟩ := h3
  have hH : packH st r = [83, st, flagsI r, 128 * (b : Int)] ++ List.replicate 57 0 := by
    apply List.ext_getElem?
    intro k
    have hk : ∀ k, k < 61 → (packH st r)[k]? = (packA st r)[k]? := fun k hk => by
      unfold packA
      rw [List.getElem?_append_left (by rw [length_packH]; exact hk)]
    rcases Nat.lt_or_ge k 4 with h4 | h4
    · match k, h4 with
      | 0, _ => rfl
      | 1, _ => rfl
      | 2, _ => rfl
      | 3, _ => rw [hk 3 (by decide), h3]; rfl
    · rcases Nat.lt_or_ge k 61 with h6 | h6
      · rw [hk k h6, hr k h4 (by omega), List.getElem?_append_right (by simpa using h4), List.getElem?_replicate, if_pos (by simp; omega)]
      · rw [List.getElem?_eq_none (by rw [length_packH]; exact h6), List.getElem?_eq_none (by simp; omega)]
  have hsum : sumI (packH st r) = 0 := by
    have hb := sumI_bd (byts_packH hs h)
    have t1 := hr 61 (by decide) (by decide)
    have t2 := hr 62 (by decide) (by decide)
    have t3 := hr 63 (by decide) (by decide)
    have u : ∀ k, (packA st r)[61 + k]? = (tail3 (sumI (packH st r)))[k]? := fun k => by
      unfold packA
      rw [List.getElem?_append_right (by rw [length_packH]; omega), length_packH, Nat.add_sub_cancel_left]
    have v1 : sumI (packH st r) / 65536 = 0 := Option.some.inj ((u 0).symm.trans t1)
    have v2 : sumI (packH st r) / 256 % 256 = 0 := Option.some.inj ((u 1).symm.trans t2)
    have v3 : sumI (packH st r) % 256 = 0 := Option.some.inj ((u 2).symm.trans t3)
    omega
  have hf := flagsI_bd r
  obtain ⟨a, rfl⟩ : ∃ n : Nat, st = (n : Int) := ⟨st.toNat, by omega⟩
  obtain ⟨f, hfe⟩ : ∃ n : Nat, flagsI r = (n : Int) := ⟨(flagsI r).toNat, by omega⟩
  rw [hH, hfe] at hsum
  exact zeros_sums a (by omega) f (by omega) b hb hsum
/-- the stage's theorem -/
theorem turned_law {st : Int} {r : RecM} (hs : 0 ≤ st ∧ st ≤ 7) (h : RecOk r) {F : Nat} {L : List Int} {so : Bool} (hT : TurnI (packA st r) F 24 L so) : ((unpackE st (bytesI L) == 0) == !so) = true := by
  obtain ⟨T, h1, _, h3, h4, h5⟩ := hT.sum
  rw [crc_packA hs h] at h5
  cases so with
  | false =>
    have hT0 : T = 0 := by
      rcases Nat.eq_zero_or_pos T with e | e
      · exact e
      · exact absurd (h3.2 (by omega)) (by decide)
    rw [h4 hT0]
    have := (unpack_pack hs h).2
    unfold packS at this
    unfold packA
    rw [this]
    rfl
  | true =>
    have hT0 := h3.1 rfl
    have hz : bytesI L ≠ zeros64 := by
      intro e
      have h6 := congrArg intsOf e
      rw [intsOf_bytesI hT.byts, intsOf_zeros] at h6
      exact turn_zeros hs h hT h6
    have hn : ∀ q, RecOk q → packS st q ≠ bytesI L := by
      intro q hq e
      have h6 := congrArg intsOf e
      rw [intsOf_bytesI hT.byts, intsOf_packS hs hq] at h6
      have h7 := crc_packA hs hq
      rw [h6, h5] at h7
      have h8 : ncN (512 - F) T = 0 := by
        unfold xorZ at h7
        simp only [Int.toNat_natCast, Int.toNat_zero, Nat.zero_xor] at h7
        omega
      exact hT0 (ncN_zero _ h8)
    rw [(unpack_none hs hz hn).2]
    rfl
end Go.Proofs.Ytpcdccljioiiaaa
