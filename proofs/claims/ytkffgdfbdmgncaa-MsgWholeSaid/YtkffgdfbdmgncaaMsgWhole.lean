import Derived.Test.YtkffgdfbdmgncaaAwake12
import Derived.Test.YtkffgdfbdmgncaaEngZ
import Derived.Test.YtkffgdfbdmgncaaTlvM
namespace Go.Proofs.Ytkffgdfbdmgncaa
section
open Go.RowKit
def nc1 (c : Nat) : Nat:=if 16777216 ≤ c * 2 then (c * 2) ^^^ 25578747 else c * 2
def ncN : Nat → Nat → Nat
 | 0,c=>c
 | k + 1,c=>ncN k (nc1 c)
theorem crc1_nat (n : Nat) : crc1 (n : Int) = (nc1 n : Int):=by
 unfold crc1 nc1
 by_cases h : 16777216 ≤ n * 2
 ·rw [if_pos h,if_pos (by omega)]
  unfold xorZ
  have e : ((n : Int) * 2).toNat = n * 2:=by omega
  rw [e]
  rfl
 ·rw [if_neg h,if_neg (by omega)]
  omega
theorem crcN_nat : ∀ (k n : Nat),crcN k (n : Int) = (ncN k n : Int)
 | 0,_=>rfl
 | k + 1,n=>by
  show crcN k (crc1 (n : Int)) = _
  rw [crc1_nat,crcN_nat k]
  rfl
theorem nc1_lt {c : Nat} (h : c < 16777216) : nc1 c < 16777216:=by
 unfold nc1
 split
 ·exact xor_top (k:=24) (by omega) (by decide) (by omega) (by decide)
 ·omega
theorem ncN_add : ∀ (j k c : Nat),ncN (j + k) c = ncN k (ncN j c)
 | 0,k,c=>by rw [Nat.zero_add]; rfl
 | j + 1,k,c=>by
  rw [Nat.add_right_comm]
  exact ncN_add j k (nc1 c)
theorem xor_mix {a b : Nat} (ha : 8388608 ≤ a) (hb : b < 8388608) : 8388608 ≤ a ^^^ b:=by
 rcases Nat.lt_or_ge (a ^^^ b) 8388608 with h | h
 ·have h2:=xor_under (k:=23) (a:=a ^^^ b) (b:=b) h hb
  rw [Nat.xor_assoc,Nat.xor_self,Nat.xor_zero] at h2
  omega
 ·exact h
theorem nc1_xor {a b : Nat} (ha : a < 16777216) (hb : b < 16777216) : nc1 (a ^^^ b) = nc1 a ^^^ nc1 b:=by
 have e : (a ^^^ b) * 2 = a * 2 ^^^ b * 2:=by
  have:=Nat.shiftLeft_xor_distrib (a:=a) (b:=b) (i:=1)
  simpa [Nat.shiftLeft_eq] using this
 unfold nc1
 rcases Nat.lt_or_ge a 8388608 with ha' | ha' <;> rcases Nat.lt_or_ge b 8388608 with hb' | hb'
 ·have:=xor_under (k:=23) ha' hb'
  rw [if_neg (by omega),if_neg (by omega),if_neg (by omega),e]
 ·have:=xor_mix hb' ha'
  rw [Nat.xor_comm] at this
  rw [if_pos (by omega),if_neg (by omega),if_pos (by omega),e,Nat.xor_assoc]
 ·have:=xor_mix ha' hb'
  rw [if_pos (by omega),if_pos (by omega),if_neg (by omega),e,Nat.xor_assoc,Nat.xor_assoc,Nat.xor_comm (b * 2)]
 ·have:=xor_top (k:=23) ha hb ha' hb'
  rw [if_neg (by omega),if_pos (by omega),if_pos (by omega),e,Nat.xor_assoc,Nat.xor_comm (b * 2),← Nat.xor_assoc 25578747,Nat.xor_self,Nat.zero_xor]
theorem ncN_xor : ∀ (k : Nat) {a b : Nat},a < 16777216 → b < 16777216 → ncN k (a ^^^ b) = ncN k a ^^^ ncN k b
 | 0,_,_,_,_=>rfl
 | k + 1,_,_,ha,hb=>by
  show ncN k (nc1 _) = ncN k (nc1 _) ^^^ ncN k (nc1 _)
  rw [nc1_xor ha hb,ncN_xor k (nc1_lt ha) (nc1_lt hb)]
theorem ncN_shift : ∀ (k : Nat) {a : Nat},a * 2 ^ k < 16777216 → ncN k a = a * 2 ^ k
 | 0,a,_=>(Nat.mul_one a).symm
 | k + 1,a,h=>by
  have e : a * 2 ^ (k + 1) = a * 2 * 2 ^ k:=by rw [Nat.pow_succ,Nat.mul_comm (2 ^ k),← Nat.mul_assoc]
  rw [e] at h ⊢
  have h1 : a * 2 ≤ a * 2 * 2 ^ k:=Nat.le_mul_of_pos_right _ (Nat.pow_pos (by decide))
  have h2 : nc1 a = a * 2:=by
   unfold nc1
   exact if_neg (by omega)
  show ncN k (nc1 a) = _
  rw [h2,ncN_shift k h]
theorem nc1_zero {c : Nat} (h : nc1 c = 0) : c = 0:=by
 unfold nc1 at h
 split at h
 ·have h1 : (c * 2 ^^^ 25578747) ^^^ 25578747 = 25578747:=by rw [h,Nat.zero_xor]
  rw [Nat.xor_assoc,Nat.xor_self,Nat.xor_zero] at h1
  omega
 ·omega
theorem ncN_zero : ∀ (k : Nat) {c : Nat},ncN k c = 0 → c = 0
 | 0,_,h=>h
 | k + 1,_,h=>nc1_zero (ncN_zero k h)
theorem ncN_of_zero : ∀ k,ncN k 0 = 0
 | 0=>rfl
 | k + 1=>ncN_of_zero k
theorem add_xor {k lo : Nat} (hi : Nat) (h : lo < 2 ^ k) : 2 ^ k * hi + lo = (2 ^ k * hi) ^^^ lo:=by
 apply Nat.eq_of_testBit_eq
 intro j
 rw [Nat.testBit_two_pow_mul_add _ h,Nat.testBit_xor,Nat.testBit_two_pow_mul]
 by_cases hj : j < k
 ·rw [if_pos hj,decide_eq_false (show ¬ j ≥ k by omega)]
  simp
 ·rw [if_neg hj,decide_eq_true (show j ≥ k by omega),Nat.testBit_lt_two_pow (Nat.lt_of_lt_of_le h (Nat.pow_le_pow_right (by decide) (by omega)))]
  simp
theorem xorZ_nat (a b : Nat) : xorZ (a : Int) (b : Int) = ((a ^^^ b : Nat) : Int):=by
 unfold xorZ
 rw [Int.toNat_natCast,Int.toNat_natCast]
theorem crcB_nat (c b : Nat) : crcB (c : Int) (b : Int) = (ncN 8 (c ^^^ b * 65536) : Int):=by
 have e : ((b : Int) * 65536).toNat = b * 65536:=by omega
 unfold crcB xorZ
 rw [e,Int.toNat_natCast,crcN_nat]
theorem crcB_xor {c b m : Int} (hc : Sum24 c) (hb : 0 ≤ b ∧ b ≤ 255) (hm : 0 ≤ m ∧ m ≤ 255) : crcB c (xorZ b m) = xorZ (crcB c b) (crcN 8 (m * 65536)):=by
 obtain ⟨n,rfl⟩ : ∃ n : Nat,c = (n : Int):=⟨c.toNat,by unfold Sum24 at hc; omega⟩
 obtain ⟨x,rfl⟩ : ∃ n : Nat,b = (n : Int):=⟨b.toNat,by omega⟩
 obtain ⟨y,rfl⟩ : ∃ n : Nat,m = (n : Int):=⟨m.toNat,by omega⟩
 unfold Sum24 at hc
 have e1 : xorZ (x : Int) (y : Int) = ((x ^^^ y : Nat) : Int):=xorZ_nat x y
 have e2 : (y : Int) * 65536 = ((y * 65536 : Nat) : Int):=by omega
 have hxy:=xor_under (k:=8) (a:=x) (b:=y) (by omega) (by omega)
 rw [e1,crcB_nat,crcB_nat,e2,crcN_nat]
 have e3 : (x ^^^ y) * 65536 = x * 65536 ^^^ y * 65536:=by
  have:=Nat.shiftLeft_xor_distrib (a:=x) (b:=y) (i:=16)
  simpa [Nat.shiftLeft_eq] using this
 rw [e3,← Nat.xor_assoc,ncN_xor 8 (xor_under (k:=24) (by omega) (by omega)) (by omega),xorZ_nat]
theorem crcL_xor : ∀ (l : List Int) {c d : Int},Sum24 c → Sum24 d → Byts l → crcL (xorZ c d) l = xorZ (crcL c l) (crcN (8 * l.length) d)
 | [],c,d,_,_,_=>by
  show xorZ c d = xorZ c (crcN 0 d)
  rfl
 | b :: l,c,d,hc,hd,hl=>by
  have hb:=hl b (List.mem_cons_self ..)
  have hl' : Byts l:=fun n hn=>hl n (List.mem_cons_of_mem _ hn)
  have h1 : crcB (xorZ c d) b = xorZ (crcB c b) (crcN 8 d):=by
   obtain ⟨n,rfl⟩ : ∃ n : Nat,c = (n : Int):=⟨c.toNat,by unfold Sum24 at hc; omega⟩
   obtain ⟨y,rfl⟩ : ∃ n : Nat,d = (n : Int):=⟨d.toNat,by unfold Sum24 at hd; omega⟩
   obtain ⟨x,rfl⟩ : ∃ n : Nat,b = (n : Int):=⟨b.toNat,by omega⟩
   unfold Sum24 at hc hd
   have e1 : xorZ (n : Int) (y : Int) = ((n ^^^ y : Nat) : Int):=xorZ_nat n y
   rw [e1,crcB_nat,crcB_nat,crcN_nat]
   rw [show (n ^^^ y) ^^^ x * 65536 = (n ^^^ x * 65536) ^^^ y by rw [Nat.xor_assoc,Nat.xor_comm y,← Nat.xor_assoc],ncN_xor 8 (xor_under (k:=24) (by omega) (by omega)) (by omega),xorZ_nat]
  have h2:=crcL_xor l (crcB_bd hc hb) (crcN_bd 8 hd) hl'
  show crcL (crcB (xorZ c d) b) l = xorZ (crcL (crcB c b) l) _
  rw [h1,h2]
  have h3 : crcN (8 * l.length) (crcN 8 d) = crcN (8 * (b :: l).length) d:=by
   obtain ⟨y,rfl⟩ : ∃ n : Nat,d = (n : Int):=⟨d.toNat,by unfold Sum24 at hd; omega⟩
   rw [crcN_nat,crcN_nat,crcN_nat,← ncN_add]
   congr 2
   simp only [List.length_cons]
   omega
  rw [h3]
def flipL (l : List Int) (k : Nat) : List Int:=l.set (k / 8) (xorZ (l[k / 8]?.getD 0) (128 / ((2 ^ (k % 8) : Nat) : Int)))
theorem mask_bd (o : Nat) (h : o < 8) : (0 : Int) ≤ 128 / ((2 ^ o : Nat) : Int) ∧ (128 : Int) / ((2 ^ o : Nat) : Int) ≤ 255:=by
 have : ∀ o : Nat,o < 8 → (0 : Int) ≤ 128 / ((2 ^ o : Nat) : Int) ∧ (128 : Int) / ((2 ^ o : Nat) : Int) ≤ 255:=by decide +kernel
 exact this o h
theorem xor_byte {a b : Int} (ha : 0 ≤ a ∧ a ≤ 255) (hb : 0 ≤ b ∧ b ≤ 255) : 0 ≤ xorZ a b ∧ xorZ a b ≤ 255:=by
 have:=xorZ_under (a:=a) (b:=b) 8 (by omega) (by omega)
 omega
theorem getD_byts {l : List Int} (h : Byts l) (i : Nat) : 0 ≤ l[i]?.getD 0 ∧ l[i]?.getD 0 ≤ 255:=by
 cases e : l[i]? with
 | none=>simp
 | some v=>exact h v (List.mem_of_getElem? e)
theorem byts_set {l : List Int} (h : Byts l) {i : Nat} {v : Int} (hv : 0 ≤ v ∧ v ≤ 255) : Byts (l.set i v):=fun n hn=>by
 rcases List.mem_or_eq_of_mem_set hn with h1 | rfl
 ·exact h n h1
 ·exact hv
theorem byts_flip {l : List Int} (h : Byts l) (k : Nat) : Byts (flipL l k):=byts_set h (xor_byte (getD_byts h _) (mask_bd _ (Nat.mod_lt _ (by decide))))
theorem length_flip (l : List Int) (k : Nat) : (flipL l k).length = l.length:=by simp [flipL]
theorem crc_flip {l : List Int} {c : Int} (hc : Sum24 c) (hl : Byts l) {n : Nat} (hn : l.length = n) {k : Nat} (hk : k < 8 * n) : crcL c (flipL l k) = xorZ (crcL c l) ((ncN (8 * n + 23 - k) 1 : Nat) : Int):=by
 have hj : k / 8 < l.length:=by omega
 have hsplit : l = l.take (k / 8) ++ l[k / 8] :: l.drop (k / 8 + 1):=by
  rw [← List.drop_eq_getElem_cons hj,List.take_append_drop]
 have hset : flipL l k = l.take (k / 8) ++ xorZ l[k / 8] (128 / ((2 ^ (k % 8) : Nat) : Int)) :: l.drop (k / 8 + 1):=by
  unfold flipL
  rw [List.getElem?_eq_getElem hj,Option.getD_some,List.set_eq_take_append_cons_drop,if_pos hj]
 have hb : 0 ≤ l[k / 8] ∧ l[k / 8] ≤ 255:=hl _ (List.getElem_mem hj)
 have hm:=mask_bd (k % 8) (Nat.mod_lt _ (by decide))
 have hA : Byts (l.take (k / 8)):=fun n h=>hl n (List.mem_of_mem_take h)
 have hB : Byts (l.drop (k / 8 + 1)):=fun n h=>hl n (List.mem_of_mem_drop h)
 have hx:=crcL_bd _ hc hA
 have e1 : crcL c l = crcL (crcB (crcL c (l.take (k / 8))) l[k / 8]) (l.drop (k / 8 + 1)):=by
  conv=>lhs; rw [hsplit]
  simp only [crcL,List.foldl_append,List.foldl_cons]
 have e2 : crcL c (flipL l k) = crcL (crcB (crcL c (l.take (k / 8))) (xorZ l[k / 8] (128 / ((2 ^ (k % 8) : Nat) : Int)))) (l.drop (k / 8 + 1)):=by
  rw [hset]
  simp only [crcL,List.foldl_append,List.foldl_cons]
 have hd : Sum24 (crcN 8 (128 / ((2 ^ (k % 8) : Nat) : Int) * 65536)):=crcN_bd 8 ⟨by omega,by omega⟩
 rw [e2,e1,crcB_xor hx hb hm,crcL_xor _ (crcB_bd hx hb) hd hB]
 congr 1
 have e3 : (128 : Int) / ((2 ^ (k % 8) : Nat) : Int) * 65536 = ((2 ^ (23 - k % 8) : Nat) : Int):=by
  have : ∀ o : Nat,o < 8 → (128 : Int) / ((2 ^ o : Nat) : Int) * 65536 = ((2 ^ (23 - o) : Nat) : Int):=by decide +kernel
  exact this _ (Nat.mod_lt _ (by decide))
 have e4 : ncN (23 - k % 8) 1 = 2 ^ (23 - k % 8):=by
  rw [ncN_shift _ (by rw [Nat.one_mul]; exact Nat.lt_of_le_of_lt (Nat.pow_le_pow_right (by decide) (show 23 - k % 8 ≤ 23 by omega)) (by decide)),Nat.one_mul]
 rw [e3,← e4,crcN_nat,crcN_nat,← ncN_add,← ncN_add]
 congr 2
 rw [List.length_drop]
 omega
structure TurnI (L0 : List Int) (n F : Nat) (t : Int) (i : Nat) (L : List Int) : Prop where
 byts : Byts L
 len : L.length = n
 sum : crcL 11994318 L = xorZ (crcL 11994318 L0) ((ncN (8 * n - F) (t.toNat / 2 ^ (24 - i) * 2 ^ (24 - i)) : Nat) : Int)
theorem turn_start {L0 : List Int} {n : Nat} (h : Byts L0) (hn : L0.length = n) (F : Nat) {t : Int} (ht : t < 16777216) : TurnI L0 n F t 0 L0:=by
 refine ⟨h,hn,?_⟩
 rw [Nat.sub_zero,Nat.div_eq_of_lt (show t.toNat < 2 ^ 24 by omega),Nat.zero_mul,ncN_of_zero]
 have hb:=crcL_bd L0 (c:=11994318) ⟨by decide,by decide⟩ h
 unfold Sum24 at hb
 unfold xorZ
 rw [show ((0 : Nat) : Int).toNat = 0 from rfl,Nat.xor_zero]
 omega
theorem bits_step (T i : Nat) (hi : i < 24) : T / 2 ^ (24 - i) * 2 ^ (24 - i) + T / 2 ^ (23 - i) % 2 * 2 ^ (23 - i) = T / 2 ^ (23 - i) * 2 ^ (23 - i):=by
 have hp : (2 : Nat) ^ (24 - i) = 2 ^ (23 - i) * 2:=by rw [show 24 - i = (23 - i) + 1 by omega,Nat.pow_succ]
 rw [hp,← Nat.div_div_eq_div_mul,Nat.mul_comm (2 ^ (23 - i)) 2,← Nat.mul_assoc,← Nat.add_mul]
 congr 1
 omega
theorem bit_nat {t : Int} (h : 0 ≤ t) (k : Nat) : t / ((2 ^ k : Nat) : Int) % 2 = ((t.toNat / 2 ^ k % 2 : Nat) : Int):=by
 obtain ⟨n,rfl⟩ : ∃ n : Nat,t = (n : Int):=⟨t.toNat,by omega⟩
 rw [Int.toNat_natCast,← Int.natCast_ediv]
 omega
theorem turn_skip {L0 L : List Int} {n F i : Nat} {t : Int} (h : TurnI L0 n F t i L) (ht : 0 ≤ t) (hi : i < 24) (h0 : t / ((2 ^ (23 - i) : Nat) : Int) % 2 ≠ 1) : TurnI L0 n F t (i + 1) L:=by
 rw [bit_nat ht] at h0
 refine ⟨h.byts,h.len,?_⟩
 have:=bits_step t.toNat i hi
 rw [show t.toNat / 2 ^ (23 - i) % 2 = 0 by omega,Nat.zero_mul,Nat.add_zero] at this
 rw [h.sum,this,show 24 - (i + 1) = 23 - i by omega]
theorem turn_flip {L0 L : List Int} {n F i : Nat} {t : Int} (h : TurnI L0 n F t i L) (ht : 0 ≤ t ∧ t < 16777216) (hi : i < 24) (hF : F + 24 ≤ 8 * n) (h0 : t / ((2 ^ (23 - i) : Nat) : Int) % 2 = 1) : TurnI L0 n F t (i + 1) (flipL L (F + i)):=by
 rw [bit_nat ht.1] at h0
 have hs:=bits_step t.toNat i hi
 rw [show t.toNat / 2 ^ (23 - i) % 2 = 1 by omega,Nat.one_mul] at hs
 have hlt : (2 : Nat) ^ (23 - i) < 2 ^ (24 - i):=Nat.pow_lt_pow_right (by decide) (by omega)
 have hle : (2 : Nat) ^ (23 - i) < 16777216:=Nat.lt_of_le_of_lt (Nat.pow_le_pow_right (by decide) (show 23 - i ≤ 23 by omega)) (by decide)
 have h1 : t.toNat / 2 ^ (24 - i) * 2 ^ (24 - i) < 16777216:=Nat.lt_of_le_of_lt (Nat.div_mul_le_self _ _) (by omega)
 refine ⟨byts_flip h.byts _,(length_flip _ _).trans h.len,?_⟩
 rw [crc_flip ⟨by decide,by decide⟩ h.byts h.len (by omega),h.sum,show 24 - (i + 1) = 23 - i by omega,← hs,Nat.mul_comm (t.toNat / 2 ^ (24 - i)),add_xor _ hlt,ncN_xor _ (by rw [Nat.mul_comm]; exact h1) hle]
 have e1 : ncN (8 * n + 23 - (F + i)) 1 = ncN (8 * n - F) (2 ^ (23 - i)):=by
  have e2 : ncN (23 - i) 1 = 2 ^ (23 - i):=by rw [ncN_shift _ (by rw [Nat.one_mul]; exact hle),Nat.one_mul]
  rw [← e2,← ncN_add]
  congr 1
  omega
 rw [e1]
 unfold xorZ
 simp only [Int.toNat_natCast]
 rw [Nat.xor_assoc]
theorem xor_hi {hi lo k : Nat} (h : lo < 2 ^ k) : (2 ^ k * hi + lo) ^^^ hi * 2 ^ k = lo:=by
 rw [add_xor hi h,Nat.mul_comm hi,Nat.xor_comm (2 ^ k * hi),Nat.xor_assoc,Nat.xor_self,Nat.xor_zero]
theorem crc_tail {c : Int} (hc : Sum24 c) : crcL c (tail3 c) = 0:=by
 obtain ⟨n,rfl⟩ : ∃ n : Nat,c = (n : Int):=⟨c.toNat,by unfold Sum24 at hc; omega⟩
 unfold Sum24 at hc
 have e1 : (n : Int) / 65536 = ((n / 65536 : Nat) : Int):=by omega
 have e2 : (n : Int) / 256 % 256 = ((n / 256 % 256 : Nat) : Int):=by omega
 have e3 : (n : Int) % 256 = ((n % 256 : Nat) : Int):=by omega
 show crcB (crcB (crcB (n : Int) ((n : Int) / 65536)) ((n : Int) / 256 % 256)) ((n : Int) % 256) = 0
 have a1 : n ^^^ n / 65536 * 65536 = n % 65536:=by
  have:=xor_hi (hi:=n / 65536) (lo:=n % 65536) (k:=16) (by omega)
  rw [show 2 ^ 16 * (n / 65536) + n % 65536 = n by omega] at this
  exact this
 have a2 : ncN 8 (n % 65536) = n % 65536 * 256:=ncN_shift 8 (by omega)
 have a3 : n % 65536 * 256 ^^^ n / 256 % 256 * 65536 = n % 256 * 256:=by
  have:=xor_hi (hi:=n / 256 % 256) (lo:=n % 256 * 256) (k:=16) (by omega)
  rw [show 2 ^ 16 * (n / 256 % 256) + n % 256 * 256 = n % 65536 * 256 by omega] at this
  exact this
 have a4 : ncN 8 (n % 256 * 256) = n % 256 * 65536:=by
  rw [ncN_shift 8 (by omega)]
  omega
 rw [e1,e2,e3,crcB_nat,a1,a2,crcB_nat,a3,a4,crcB_nat,Nat.xor_self,ncN_of_zero]
 rfl
theorem sum_frame {s : ByteArray} (h : openOk s = true) : crcL 11994318 (intsOf s) = 0:=by
 unfold openOk at h
 simp only [Bool.and_eq_true,decide_eq_true_eq] at h
 have e : intsOf s = bodyI s ++ tail3 (sumI (bodyI s)):=by rw [h.2]; exact (List.take_append_drop _ _).symm
 have hb : Byts (bodyI s):=fun n hn=>byts_intsOf s n (List.mem_of_mem_take hn)
 rw [e]
 have e2 : crcL 11994318 (bodyI s ++ tail3 (sumI (bodyI s))) = crcL (crcL 11994318 (bodyI s)) (tail3 (sumI (bodyI s))):=by simp only [crcL,List.foldl_append]
 rw [e2]
 exact crc_tail (crcL_bd _ ⟨by decide,by decide⟩ hb)
theorem turn_bad {s : ByteArray} (ho : openOk s = true) {n F : Nat} {t : Int} (ht : 1 ≤ t ∧ t < 16777216) {L : List Int} (h : TurnI (intsOf s) n F t 24 L) : openOk (bytesI L) = false:=by
 rcases Bool.eq_false_or_eq_true (openOk (bytesI L)) with hb | hb
 ·have h1:=sum_frame hb
  rw [intsOf_bytesI h.byts,h.sum,sum_frame ho] at h1
  have h8 : ncN (8 * n - F) (t.toNat / 2 ^ (24 - 24) * 2 ^ (24 - 24)) = 0:=by
   unfold xorZ at h1
   simp only [Int.toNat_natCast,Int.toNat_zero,Nat.zero_xor] at h1
   omega
  have h9:=ncN_zero _ h8
  rw [Nat.sub_self,Nat.pow_zero,Nat.div_one,Nat.mul_one] at h9
  omega
 ·exact hb
theorem hd4_inj {a b : Nat} (ha : a ≤ 800) (hb : b ≤ 800) (h : headI (a : Int) = headI (b : Int)) : a = b:=by
 unfold headI at h
 simp only [List.cons.injEq,and_true,true_and] at h
 omega
theorem open_hd4 {s : ByteArray} (h : openOk s = true) : (intsOf s).take 4 = headI ((s.size - 7 : Nat) : Int) ∧ 7 ≤ s.size ∧ s.size ≤ 807:=by
 unfold openOk at h
 simp only [Bool.and_eq_true,decide_eq_true_eq] at h
 refine ⟨?_,h.1.1.1,h.1.1.2⟩
 rw [h.1.2]
 congr 1
 omega
theorem take4_extract (s : ByteArray) {c : Nat} (h : 4 ≤ c) : (intsOf (s.extract 0 c)).take 4 = (intsOf s).take 4:=by
 rw [intsOf_extract,List.drop_zero,List.take_take]
 congr 1
 omega
theorem cut_bad {s : ByteArray} (ho : openOk s = true) {c : Nat} (hc : c < s.size) : openOk (s.extract 0 c) = false:=by
 rcases Bool.eq_false_or_eq_true (openOk (s.extract 0 c)) with hb | hb
 ·obtain ⟨h1,h2,h3⟩:=open_hd4 ho
  obtain ⟨g1,g2,g3⟩:=open_hd4 hb
  have hz : (s.extract 0 c).size = c:=by rw [ByteArray.size_extract]; omega
  rw [take4_extract s (by omega),h1] at g1
  have:=hd4_inj (by omega) (by omega) g1
  omega
 ·exact hb
theorem more_bad {s m : ByteArray} (ho : openOk s = true) (hm : 0 < m.size) : openOk (s ++ m) = false:=by
 rcases Bool.eq_false_or_eq_true (openOk (s ++ m)) with hb | hb
 ·obtain ⟨h1,h2,h3⟩:=open_hd4 ho
  obtain ⟨g1,g2,g3⟩:=open_hd4 hb
  have hz : (s ++ m).size = s.size + m.size:=ByteArray.size_append
  have e : intsOf (s ++ m) = intsOf s ++ intsOf m:=by simp [intsOf]
  rw [e,List.take_append_of_le_length (by rw [length_intsOf]; omega),h1] at g1
  have:=hd4_inj (by omega) (by omega) g1
  omega
 ·exact hb
end
open Go.RowKit
theorem putT_size {l : LetM} (h : rightL l = true) : 28 ≤ (putT l).size ∧ (putT l).size ≤ 128:=by
 have h3:=(fldsM_ok h).2.2
 rw [putT_right h,size_frameT,len_layT]
 omega
theorem more_assoc {s m : ByteArray} (ho : openOk s = true) : openOk (s ++ m ++ (⟨#[0]⟩ : ByteArray)) = false:=by
 rw [ByteArray.append_assoc]
 exact more_bad ho (by rw [ByteArray.size_append]; exact Nat.succ_pos _)
def whl_v1 (x : Raw12) : List Value:=[.int .i64 x.fr,.int .i64 x.dst,.int .i64 x.id,.int .i64 x.st,.int .i64 x.ep,.int .i64 x.ou,.bool x.ans,.int .i64 x.ask.kind,.int .i64 x.ask.stripe,.int .i64 x.ask.epoch,.int .i64 x.ask.seq,.int .i64 x.ask.mask,.int .i64 x.ask.node,.int .i64 x.ask.oe,.int .i64 x.ask.os,.string x.ask.block,.int .i64 x.rc.flags,.int .i64 x.rc.fence,.int .i64 x.rc.epoch,.int .i64 x.rc.seq,.int .i64 x.rc.ie,.int .i64 x.rc.is,.int .i64 x.rc.mask,.string x.rc.block,.string x.rc.staged]
def whl_v2 : List Value:=[.int .i64 0,.int .i64 0,.int .i64 0,.bool false,.int .i64 0,.int .i64 0,.int .i64 0,.int .i64 0,.int .i64 0,.int .i64 0,.int .i64 0,.int .i64 0,.string ⟨#[]⟩,.int .i64 0,.int .i64 0,.int .i64 0,.bool false,.int .i64 0,.int .i64 0,.int .i64 0,.string ⟨#[]⟩,.bool false,.int .i64 0,.int .i64 0,.int .i64 0,.string ⟨#[]⟩]
def whl_v3 (y : LetM) : List Value:=[.int .i64 y.fr,.int .i64 y.dst,.int .i64 y.id,.bool y.ans,.int .i64 y.ask.kind,.int .i64 y.ask.stripe,.int .i64 y.ask.epoch,.int .i64 y.ask.seq,.int .i64 y.ask.mask,.int .i64 y.ask.node,.int .i64 y.ask.oe,.int .i64 y.ask.os,.string y.ask.block,.int .i64 y.say.st,.int .i64 y.say.ep,.int .i64 y.say.ou,.bool y.say.rc.used,.int .i64 y.say.rc.fence,.int .i64 y.say.rc.de,.int .i64 y.say.rc.ds,.string y.say.rc.block,.bool y.say.rc.op,.int .i64 y.say.rc.ie,.int .i64 y.say.rc.is,.int .i64 y.say.rc.mask,.string y.say.rc.staged]
def whl_n1 : List Nat:=[1,1,1,1,1,1,1,1,1,0,1,0,0,1,0,0,1,0,1]
def whl_n2 : List Nat:=[1,1,1,1,1,1,1,1,1,1]
@[simp] def whl_b1 (x : Raw12) (w : World) (z10 : Nat) (z12 : Nat) : List Bk:=[⟨w.heap.size,45,true,(whl_v1 x)⟩,⟨z10,31,true,(whl_v2)⟩,⟨z12,31,true,(whl_v2)⟩]
def TurnedI (x : Raw12) (w : World) (c : Nat) (z10 : Nat) (z12 : Nat) (z14 : Nat) (s : ByteArray) (n : Nat) (F : Nat) (TN : Int)  (m : Nat) (st : St) (W1 : World) : Prop:=
 ∃ (i : Nat) (L : List Int) (z : Nat),m + i = 24 ∧ TurnI (intsOf s) n F (1 + TN) i L ∧ FB W1 z14 5 L ∧ st = ⟨[(10,.bool false),(15,.int .i64 120),(17,.int .i64 120),(18,.int .i64 (1 + TN)),(19,.slice (some ⟨z14,0,none⟩) n c),(20,.int .i64 (F : Int)),(21,.int .i64 (i : Int))],(whl_b1 x w z10 z12),[],z⟩
theorem whl_q28 (TN : Int) (F : Nat) (n : Nat) (x : Raw12) (w : World) (W1 : World) (c : Nat) (i : Nat) (L : List Int) (z10 : Nat) (z12 : Nat) (z14 : Nat) : Out.prune [10,15,17,18,19,20,21,96,97] (qList Try.prog 114 W1 (Turned (whl_b1 x w z10 z12)) ((opsOf (getCode (bodyOf Try.f6) whl_n1)).toList.take 13) ⟨[(10,.bool false),(15,.int .i64 120),(17,.int .i64 120),(18,.int .i64 (1 + TN)),(19,.slice (some ⟨z14,0,none⟩) n c),(20,.int .i64 (F : Int)),(21,.int .i64 (i : Int)),(22,.int .i64 ((F : Int) + (i : Int)))],(whl_b1 x w z10 z12),[⟨z14,0 + (Int.toNat (((F : Int) + (i : Int)) / 8)) * 1,[.int .u8 (L[(F + i) / 8]?.getD 0)]⟩],W1.heap.size⟩ [.op oh0,.op oh0,.op oh2,.op oh0,.op oh0,.op oh2,.op oh2,.op ⟨false,0,[⟨true,0,0,1⟩]⟩,.op oh0,.op oh2,.op oh2,.op oh2,.op oh2]) = some ⟨[(0 : Int) ≤ ((F : Int) + (i : Int)) ∧ (0 : Int) < 8 ∧ ((F : Int) + (i : Int)) ≤ IntKind.max .i64,(0 : Int) ≤ ((F : Int) + (i : Int)) ∧ (0 : Int) < 8 ∧ ((F : Int) + (i : Int)) ≤ IntKind.max .i64,(0 : Int) ≤ (((F : Int) + (i : Int)) / 8) ∧ (((F : Int) + (i : Int)) / 8) < ((n : Nat) : Int),(0 : Int) ≤ ((F : Int) + (i : Int)) ∧ (0 : Int) < 8,(0 : Int) ≤ (((F : Int) + (i : Int)) % 8) ∧ (((F : Int) + (i : Int)) % 8) ≤ ((IntKind.bits .u8 : Nat) : Int),(0 : Int) ≤ (L[(F + i) / 8]?.getD 0) ∧ (0 : Int) ≤ (128 / ((2 ^ Int.toNat (((F : Int) + (i : Int)) % 8) : Nat) : Int)) ∧ (L[(F + i) / 8]?.getD 0) ≤ IntKind.max .u8 ∧ (128 / ((2 ^ Int.toNat (((F : Int) + (i : Int)) % 8) : Nat) : Int)) ≤ IntKind.max .u8,(0 : Int) ≤ (((F : Int) + (i : Int)) / 8) ∧ (((F : Int) + (i : Int)) / 8) < ((n : Nat) : Int)],dupR [(z14,0 + (Int.toNat (((F : Int) + (i : Int)) / 8)) * 1,1)],⟨[(10,.bool false),(15,.int .i64 120),(17,.int .i64 120),(18,.int .i64 (1 + TN)),(19,.slice (some ⟨z14,0,none⟩) n c),(20,.int .i64 (F : Int)),(21,.int .i64 (i : Int)),(96,.int .u8 (xorZ (L[(F + i) / 8]?.getD 0) (128 / ((2 ^ Int.toNat (((F : Int) + (i : Int)) % 8) : Nat) : Int)))),(97,.pointer (some ⟨z14,0 + (Int.toNat (((F : Int) + (i : Int)) / 8)) * 1,none⟩))],(whl_b1 x w z10 z12),[⟨z14,0 + (Int.toNat (((F : Int) + (i : Int)) / 8)) * 1,[.int .u8 (L[(F + i) / 8]?.getD 0)]⟩],W1.heap.size⟩⟩:=by kernel_rfl
set_option maxRecDepth 100000 in
set_option maxHeartbeats 4000000 in
theorem whole_any0 (x : Raw12) (ct : Int) (mo : ByteArray) (at_ tn C TN : Int) (F n : Nat) (s : ByteArray) (y : LetM) (hx : Raw12Ok x) (hy : fitL x = y) (hry : rightL y = true) (hs : putT y = s) (hso : openOk s = true) (hn : s.size = n) (hnb : 28 ≤ n ∧ n ≤ 128) (hC : pickZ ct (s.size : Int) = C) (hTN : pickZ tn 16777215 = TN) (hF : pickZ at_ (8 * (n : Int) - 23) = (F : Int)) (hCb : 0 ≤ C ∧ C < n) (hFb : F + 24 ≤ 8 * n) (hTb : 0 ≤ TN ∧ TN < 16777215) (hmo : mo.size ≤ 9223372036854775000) (hct : I64 ct) (hat : I64 at_) (htn : I64 tn) (w : World) :
  Calls Try.prog 6 #[.agg #[.int .i64 x.fr,.int .i64 x.dst,.int .i64 x.id,.int .i64 x.st,.int .i64 x.ep,.int .i64 x.ou,.bool x.ans,.int .i64 x.ask.kind,.int .i64 x.ask.stripe,.int .i64 x.ask.epoch,.int .i64 x.ask.seq,.int .i64 x.ask.mask,.int .i64 x.ask.node,.int .i64 x.ask.oe,.int .i64 x.ask.os,.string x.ask.block,.int .i64 x.rc.flags,.int .i64 x.rc.fence,.int .i64 x.rc.epoch,.int .i64 x.rc.seq,.int .i64 x.rc.ie,.int .i64 x.rc.is,.int .i64 x.rc.mask,.string x.rc.block,.string x.rc.staged],.int .i64 ct,.string mo,.int .i64 at_,.int .i64 tn] w (RetK (.bool true) w):=by
 refine calls_of_holds (S:=(fun _=>False)) (l:=[.agg (List.toArray (whl_v1 x)),.int .i64 ct,.string mo,.int .i64 at_,.int .i64 tn]) (n:=114) Try.func6 (body_of (by kernel_rfl)) rfl (by simp) (MemOk.none w _) ?_
 refine hgo 10 [oh0,oh0] [1,2,3,4,5,10] [] [] [.ops [1,0] [0,1],.code [1,1]] ⟨[(1,.int .i64 ct),(2,.string mo),(3,.int .i64 at_),(4,.int .i64 tn),(5,(pt w.heap.size 0)),(10,.bool false)],[⟨w.heap.size,45,true,(whl_v1 x)⟩],[],w.heap.size + 1⟩ trivial ?_
 refine hcp (.bool true) 9 [] (some 25) [] trivial rfl (fun wx hm=>awake12P wx) fun z2 hz2=>?_
 replace hz2 : w.heap.size + 1 ≤ z2:=hz2
 refine hgo 8 [oh0,⟨false,0,[⟨false,0,0,25⟩]⟩] [1,2,3,4,10,11,27] [] [(w.heap.size,0,25)] [.ops [1,1,0] [1,2,3,4,5,6,7],.code [1,1,1]] ⟨[(1,.int .i64 ct),(2,.string mo),(3,.int .i64 at_),(4,.int .i64 tn),(10,.bool false),(11,.bool true),(27,.agg (List.toArray (whl_v1 x)))],[⟨w.heap.size,45,true,(whl_v1 x)⟩],[],z2⟩ trivial ?_
 refine hcp (.agg (List.toArray (whl_v3 y))) 16 [.agg (List.toArray (whl_v1 x))] (some 28) [] trivial rfl (fun wx hm=>by have h:=fitL_any x hx wx; rw [hy] at h; exact h) fun z4 hz4=>?_
 replace hz4 : z2 ≤ z4:=hz4
 refine hgo 3 [] [1,2,3,4,10,11,28] [] [] [.ops [1,1,0] [2,3,4,5,6,7],.code [1,1,1]] ⟨[(1,.int .i64 ct),(2,.string mo),(3,.int .i64 at_),(4,.int .i64 tn),(10,.bool false),(11,.bool true),(28,.agg (List.toArray (whl_v3 y)))],[⟨w.heap.size,45,true,(whl_v1 x)⟩],[],z4⟩ trivial ?_
 refine hcp (.tuple #[.string s,.int .i64 0]) 10 [.agg (List.toArray (whl_v3 y))] (some 29) [] trivial rfl (fun wx hm=>by have h:=put_any y wx; unfold putE at h; rw [hry,hs] at h; exact h) fun z6 hz6=>?_
 replace hz6 : z4 ≤ z6:=hz6
 refine hgo 32 [oh0,oh0,oh0,oh0,oh0,oh0,oh0,oh0,oh0,oh0,⟨false,3,[]⟩,oh0,oh0,oh0,oh0,⟨false,3,[]⟩,oh0,oh0,oh0,oh0,oh0] [2,3,4,10,12,44,45,47] [false = false,false = false,false = false,false = false,false = false,false = false,false = false,(decide (((s.size : Int) : Int) < 7)) = false] [] [.ops [1,1,1,1,0] [4,5,6,7,8,9,10,11,12],.code [1,1,1,1,1]] ⟨[(2,.string mo),(3,.int .i64 at_),(4,.int .i64 tn),(10,.bool false),(12,.string s),(44,.string s),(45,.int .i64 ct),(47,.int .i64 (s.size : Int))],[⟨w.heap.size,45,true,(whl_v1 x)⟩],[],z6⟩ ⟨rfl,rfl,rfl,rfl,rfl,rfl,rfl,decide_eq_false (by omega),trivial⟩ ?_
 refine hcp (.int .i64 C) 17 [.int .i64 ct,.int .i64 (s.size : Int)] (some 48) [] trivial rfl (fun wx hm=>pick12 _ _ _ hC wx (by omega) (by omega) hct) fun z8 hz8=>?_
 replace hz8 : z6 ≤ z8:=hz8
 refine hgo 4 [oh2] [2,3,4,10,12,49] [(0 : Int) ≤ C ∧ C ≤ ((s).size : Int)] [] [.ops [1,1,1,1,0] [6,7,8,9,10,11,12],.code [1,1,1,1,1]] ⟨[(2,.string mo),(3,.int .i64 at_),(4,.int .i64 tn),(10,.bool false),(12,.string s),(49,.string (ByteArray.extract s 0 (Int.toNat C)))],[⟨w.heap.size,45,true,(whl_v1 x)⟩],[],z8⟩ ⟨⟨by omega,by omega⟩,trivial⟩ ?_
 refine hcp (.tuple #[.agg (List.toArray (whl_v2)),.int .i64 120]) 12 [.string (ByteArray.extract s 0 (Int.toNat C))] (some 50) [] trivial rfl (fun wx hm=>by have h:=getLet_any (ByteArray.extract s 0 (Int.toNat C)) (by rw [ByteArray.size_extract]; omega) wx; rw [← getV_none (getL_open (cut_bad hso (by omega)))] at h; exact h) fun z10 hz10=>?_
 replace hz10 : z8 ≤ z10:=hz10
 refine hgo 16 [oh0,oh0,oh0,oh0,⟨false,0,[⟨false,1,0,26⟩]⟩,oh0,oh0,oh0,oh2,oh2] [3,4,10,12,15,57] [(((s).size + (mo).size : Nat) : Int) ≤ 9223372036854775807,((((s ++ mo)).size + ((⟨#[0]⟩ : ByteArray)).size : Nat) : Int) ≤ 9223372036854775807] [(z10,0,26)] [.ops [1,1,1,1,1,0] [4,5,6,7,8,9,10],.code [1,1,1,1,1,1]] ⟨[(3,.int .i64 at_),(4,.int .i64 tn),(10,.bool false),(12,.string s),(15,.int .i64 120),(57,.string ((s ++ mo) ++ (⟨#[0]⟩ : ByteArray)))],[⟨w.heap.size,45,true,(whl_v1 x)⟩,⟨z10,31,true,(whl_v2)⟩],[],z10 + 1⟩ ⟨(by omega),(by rw [ByteArray.size_append,show (⟨#[0]⟩ : ByteArray).size = 1 from rfl]; omega),trivial⟩ ?_
 refine hcp (.tuple #[.agg (List.toArray (whl_v2)),.int .i64 120]) 12 [.string ((s ++ mo) ++ (⟨#[0]⟩ : ByteArray))] (some 58) [] trivial rfl (fun wx hm=>by have h:=getLet_any ((s ++ mo) ++ (⟨#[0]⟩ : ByteArray)) (by rw [ByteArray.size_append,ByteArray.size_append,show (⟨#[0]⟩ : ByteArray).size = 1 from rfl]; omega) wx; rw [← getV_none (getL_open (more_assoc hso))] at h; exact h) fun z12 hz12=>?_
 replace hz12 : z10 + 1 ≤ z12:=hz12
 refine hgo 13 [oh0,oh0,oh0,oh0,⟨false,0,[⟨false,2,0,26⟩]⟩,oh0,oh0] [3,10,12,15,17,61] [] [(z12,0,26)] [.ops [1,1,1,1,1,1,0] [1,2,3],.code [1,1,1,1,1,1,1]] ⟨[(3,.int .i64 at_),(10,.bool false),(12,.string s),(15,.int .i64 120),(17,.int .i64 120),(61,.int .i64 tn)],(whl_b1 x w z10 z12),[],z12 + 1⟩ trivial ?_
 refine hcp (.int .i64 TN) 17 [.int .i64 tn,.int .i64 16777215] (some 62) [] trivial rfl (fun wx hm=>pick12 _ _ _ hTN wx (by omega) (by omega) htn) fun z14 hz14=>?_
 replace hz14 : z12 + 1 ≤ z14:=hz14
 refine hgo 9 [oh2,oh0,oh0] [3,10,15,17,18,64] [inR .i64 ((1 + TN))] [] [.ops [1,1,1,1,1,1,1,0] [1,2],.code [1,1,1,1,1,1,1,1]] ⟨[(3,.int .i64 at_),(10,.bool false),(15,.int .i64 120),(17,.int .i64 120),(18,.int .i64 (1 + TN)),(64,.string s)],(whl_b1 x w z10 z12),[],z14⟩ ⟨in64 (by omega),trivial⟩ ?_
 refine holds_opW (w:=w) (S':=fun _=>False) (dst:=(some 65)) (x:=convert 9 50 (.string s)) (fun c=>.slice (some ⟨z14,0,none⟩) n c) (fun _ W=>FB W z14 5 (intsOf s)) (fun c=>[(65,.slice (some ⟨z14,0,none⟩) n c),(3,.int .i64 at_),(10,.bool false),(15,.int .i64 120),(17,.int .i64 120),(18,.int .i64 (1 + TN)),(64,.string s)]) (by kernel_rfl) (by kernel_rfl) (fun _=>rfl) (fun wx hm=>?_) (fun c W hFB hmW=>?_)
 ·obtain ⟨c,w',h1,h2,h3⟩:=run_newBytes (P:=Try.prog) wx 9 50 5 s (by kernel_rfl) (by kernel_rfl) (by kernel_rfl)
  rw [hm.size,hn] at h1
  rw [hm.size] at h2
  exact ⟨c,w',h1,h2,(hm.same h3).2⟩
 have hgW:=hFB.lt
 have hnT : ¬ Turned (whl_b1 x w z10 z12) z14:=by
  rintro ⟨b,hb,hr,he⟩
  simp at hb
  rcases hb with rfl | rfl | rfl <;> simp at he hr <;> omega
 refine hgo 12 [oh0,oh0,oh0,oh0,oh2,oh2] [10,15,17,18,19,66,70] [inR .i64 ((8 * (n : Int))),inR .i64 (((8 * (n : Int)) - 23))] [] [.ops [1,1,1,1,1,1,1,1,0] [5,6],.code [1,1,1,1,1,1,1,1,1]] ⟨[(10,.bool false),(15,.int .i64 120),(17,.int .i64 120),(18,.int .i64 (1 + TN)),(19,.slice (some ⟨z14,0,none⟩) n c),(66,.int .i64 at_),(70,.int .i64 ((8 * (n : Int)) - 23))],(whl_b1 x w z10 z12),[],W.heap.size⟩ ⟨in64 (by omega),in64 (by omega),trivial⟩ ?_
 refine hcp (.int .i64 (F : Int)) 17 [.int .i64 at_,.int .i64 ((8 * (n : Int)) - 23)] (some 71) [] trivial rfl (fun wx hm=>pick12 _ _ _ hF wx (by omega) (by omega) hat) fun z18 hz18=>?_
 replace hz18 : W.heap.size ≤ z18:=hz18
 refine hgo 11 [oh0,oh0] [10,15,17,18,19,20,21] [] [] [.code [1,1,1,1,1,1,1,1,1,0,1,0],.blk 0,.code whl_n2] ⟨[(10,.bool false),(15,.int .i64 120),(17,.int .i64 120),(18,.int .i64 (1 + TN)),(19,.slice (some ⟨z14,0,none⟩) n c),(20,.int .i64 (F : Int)),(21,.int .i64 0)],(whl_b1 x w z10 z12),[],z18⟩ trivial ?_
 refine holds_loopW (w:=w) (S':=fun _=>False) (TurnedI x w c z10 z12 z14 s n F TN) 24 (by kernel_rfl) (fun W1 hm=>⟨⟨0,intsOf s,_,rfl,turn_start (byts_intsOf s) (by rw [length_intsOf,hn]) F (by omega),hFB.kept hm.kept hnT,rfl⟩,hmW.back hm⟩) ?_
 rintro m _ W1 ⟨i,L,z,hmi,hT,hFB1,rfl⟩ hm1 J hJ
 have hgW1:=hFB1.lt
 by_cases h1 : i < 24
 rotate_left
 ·skip
  have hi24 : i = 24:=by omega
  have hT24:=hT
  rw [hi24] at hT24
  refine hgo 14 [oh0,oh0,oh0,oh0] [10,15,17,99] [(decide (((i : Int) : Int) < 24)) = false] [] [.ops [1,1,1,1,1,1,1,1,1,1,0] [1,2,3,4,5,6,7,8],.code [1,1,1,1,1,1,1,1,1,1,1]] ⟨[(10,.bool false),(15,.int .i64 120),(17,.int .i64 120),(99,.slice (some ⟨z14,0,none⟩) n c)],(whl_b1 x w z10 z12),[],W1.heap.size⟩ ⟨decide_eq_false (by omega),trivial⟩ ?_
  refine holds_opR (dst:=(some 100)) (x:=convert 50 9 (.slice (some ⟨z14,0,none⟩) n c)) (.string (bytesI L)) (by kernel_rfl) (by kernel_rfl) rfl (fun wx hm=>?_) ?_
  ·exact run_bytesFB (P:=Try.prog) wx 50 9 5 _ _ _ 5 L (by kernel_rfl) (by kernel_rfl) (by kernel_rfl) (hFB1.kept hm.kept hnT) hT24.len hT24.byts
  refine hgo 3 [] [10,15,17,100] [] [] [.ops [1,1,1,1,1,1,1,1,1,1,0] [2,3,4,5,6,7,8],.code [1,1,1,1,1,1,1,1,1,1,1]] ⟨[(10,.bool false),(15,.int .i64 120),(17,.int .i64 120),(100,.string (bytesI L))],(whl_b1 x w z10 z12),[],W1.heap.size⟩ trivial ?_
  refine hcp (.tuple #[.agg (List.toArray (whl_v2)),.int .i64 120]) 12 [.string (bytesI L)] (some 101) [] trivial rfl (fun wx hm=>by have h:=getLet_any (bytesI L) (by rw [size_bytesI,hT24.len]; omega) wx; rw [← getV_none (getL_open (turn_bad hso (by omega) hT24))] at h; exact h) fun z23 hz23=>?_
  replace hz23 : W1.heap.size ≤ z23:=hz23
  refine hgo 24 [oh0,oh0,oh0,oh0,⟨false,0,[⟨false,3,0,26⟩]⟩,oh0,oh0,oh0,oh0,oh1,oh1,oh3,oh0,oh1,oh1,oh3,oh0] [10] [true = true,true = true,true = true,true = true,true = true,true = true] [(z23,0,26)] [.code [1,1,1,1,1,1,1,1,1,1,1,1]] ⟨[(10,.bool true)],[⟨w.heap.size,45,true,(whl_v1 x)⟩,⟨z10,31,true,(whl_v2)⟩,⟨z12,31,true,(whl_v2)⟩,⟨z23,31,true,(whl_v2)⟩],[],z23 + 1⟩ ⟨rfl,rfl,rfl,rfl,rfl,rfl,trivial⟩ ?_
  refine hrt [] [.bool true] [] ?_
  intro wx hm
  exact ⟨rfl,kept_back hm1 hm.kept⟩
 have hq0 : 0 ≤ (1 + TN) / ((2 ^ Int.toNat (23 - (i : Int)) : Nat) : Int):=Int.ediv_nonneg (by omega) (Int.natCast_nonneg _)
 refine hgo 22 [oh0,oh0,oh1,oh0,oh0,oh2,oh2,oh2,oh0] [10,15,17,18,19,20,21,81] [(decide (((i : Int) : Int) < 24)) = true,inR .i64 ((23 - (i : Int))),(0 : Int) ≤ (23 - (i : Int)) ∧ (23 - (i : Int)) ≤ ((IntKind.bits .i64 : Nat) : Int),(0 : Int) ≤ ((1 + TN) / ((2 ^ Int.toNat (23 - (i : Int)) : Nat) : Int)) ∧ (0 : Int) < 2] [] [.code [1,1,1,1,1,1,1,1,1,0,1,0,0,1,0,0,1],.blk 1,.code [1,1,1,1,1,1,1,1,1,0,1,0,0,1,1],.inv J,.blk 0,.code whl_n2] ⟨[(10,.bool false),(15,.int .i64 120),(17,.int .i64 120),(18,.int .i64 (1 + TN)),(19,.slice (some ⟨z14,0,none⟩) n c),(20,.int .i64 (F : Int)),(21,.int .i64 (i : Int)),(81,.bool ((((1 + TN) / ((2 ^ Int.toNat (23 - (i : Int)) : Nat) : Int)) % 2) == 1))],(whl_b1 x w z10 z12),[],W1.heap.size⟩ ⟨decide_eq_true (by omega),in64 (by omega),⟨by omega,by show _ ≤ ((64 : Nat) : Int); omega⟩,⟨by omega,by omega⟩,trivial⟩ ?_
 rcases Bool.eq_false_or_eq_true ((((1 + TN) / ((2 ^ Int.toNat (23 - (i : Int)) : Nat) : Int)) % 2) == 1) with d1 | d1
 ·skip
  have hbit : (1 + TN) / ((2 ^ (23 - i) : Nat) : Int) % 2 = 1:=by
   have h:=eq_of_beq d1
   rwa [show Int.toNat (23 - (i : Int)) = 23 - i by omega] at h
  refine hgo 11 [oh1,oh0,oh0,oh2,oh0] [10,15,17,18,19,20,21,22] [((((1 + TN) / ((2 ^ Int.toNat (23 - (i : Int)) : Nat) : Int)) % 2) == 1) = true,inR .i64 (((F : Int) + (i : Int)))] [] [.code whl_n1,.blk 1,.code [1,1,1,1,1,1,1,1,1,0,1,0,0,1,1],.inv J,.blk 0,.code whl_n2] ⟨[(10,.bool false),(15,.int .i64 120),(17,.int .i64 120),(18,.int .i64 (1 + TN)),(19,.slice (some ⟨z14,0,none⟩) n c),(20,.int .i64 (F : Int)),(21,.int .i64 (i : Int)),(22,.int .i64 ((F : Int) + (i : Int)))],(whl_b1 x w z10 z12),[],W1.heap.size⟩ ⟨d1,in64 (by omega),trivial⟩ ?_
  have hk8 : Int.toNat (((F : Int) + (i : Int)) / 8) = (F + i) / 8:=by omega
  have hlt8 : (F + i) / 8 < L.length:=by rw [hT.len]; omega
  have hbd:=getD_byts hT.byts ((F + i) / 8)
  have hmb:=mask_bd ((F + i) % 8) (Nat.mod_lt _ (by decide))
  have hk9 : Int.toNat (((F : Int) + (i : Int)) % 8) = (F + i) % 8:=by omega
  rw [← hk9] at hmb
  refine holds_wins [⟨z14,0 + (Int.toNat (((F : Int) + (i : Int)) / 8)) * 1,[.int .u8 (L[(F + i) / 8]?.getD 0)]⟩] (fun _ x hx=>?_) ?_
  ·simp only [List.mem_singleton] at hx
   subst hx
   refine ⟨hnT,hgW1,fun j v hj=>?_⟩
   match j,hj with
   | 0,hj=>
    simp only [List.getElem?_cons_zero,Option.some.injEq] at hj
    subst hj
    show W1.cell? ⟨z14,0 + Int.toNat (((F : Int) + (i : Int)) / 8) * 1 + 0,none⟩ = _
    rw [hk8,Nat.zero_add,Nat.mul_one,Nat.add_zero]
    exact hFB1.cell (by rw [List.getElem?_eq_getElem hlt8,Option.getD_some])
   | j + 1,hj=>simp at hj
  refine holds_draw (f:=1) (ls:=#[true,true,true,true,true,true,true,true,true,true,true,true,true,false]) 13 _ _ (by kernel_rfl) (by kernel_rfl) (by kernel_rfl) (by kernel_rfl) (whl_q28 TN F n x w W1 c i L z10 z12 z14) ⟨⟨by omega,by omega,le_max64 (by omega)⟩,⟨by omega,by omega,le_max64 (by omega)⟩,⟨by omega,by omega⟩,⟨by omega,by omega⟩,⟨by omega,by show _ ≤ ((8 : Nat) : Int); omega⟩,(bits_ob8 (by omega) (by omega)),⟨by omega,by omega⟩,trivial⟩ fun z28 hz28=>?_
  replace hz28 : W1.heap.size ≤ z28:=hz28
  refine holds_wins [] (fun _ _ h=>by cases h) ?_
  refine holds_anyW (i:=13) (w:=w) (S':=fun _=>False) (ls':=#[true,true,true,true,true,true,true,true,true,true,true,true,true,true]) (x:=Instr.storeAt 5 (.pointer (some ⟨z14,0 + (Int.toNat (((F : Int) + (i : Int)) / 8)) * 1,none⟩)) (.int .u8 (xorZ (L[(F + i) / 8]?.getD 0) (128 / ((2 ^ Int.toNat (((F : Int) + (i : Int)) % 8) : Nat) : Int))))) (fun W2=>FB W2 z14 5 (flipL L (F + i))) (by kernel_rfl) (by kernel_rfl) (by kernel_rfl) (by kernel_rfl) (fun wx hm=>?_) (fun W2 hFB2 hm2=>?_)
  ·obtain ⟨w',r1,r2,r3,r4⟩:=run_store1 (P:=Try.prog) wx 5 z14 (0 + (Int.toNat (((F : Int) + (i : Int)) / 8)) * 1) 5 L (xorZ (L[(F + i) / 8]?.getD 0) (128 / ((2 ^ Int.toNat (((F : Int) + (i : Int)) % 8) : Nat) : Int))) (by kernel_rfl) (hFB1.kept hm.kept hnT) (by rw [hk8,Nat.zero_add,Nat.mul_one]; exact hlt8)
   have e5 : L.set (0 + (Int.toNat (((F : Int) + (i : Int)) / 8)) * 1) (xorZ (L[(F + i) / 8]?.getD 0) (128 / ((2 ^ Int.toNat (((F : Int) + (i : Int)) % 8) : Nat) : Int))) = flipL L (F + i):=by
    unfold flipL
    rw [hk9,hk8,Nat.zero_add,Nat.mul_one]
   rw [e5] at r2
   have h6:=(hm1.back hm).far r3 (fun b hb he=>by simp at hb; rcases hb with rfl | rfl | rfl <;> simp at he <;> omega) (by omega) r4
   have h7:=h6.size
   rw [← h7] at h6
   exact ⟨w',r1,r2,h6⟩
  refine holds_done (by kernel_rfl) ?_
  refine hgo 9 [oh0,oh2,oh0] [10,15,17,18,19,20,21] [inR .i64 (((i : Int) + 1))] [] [.inv J,.blk 0,.code whl_n2] ⟨[(10,.bool false),(15,.int .i64 120),(17,.int .i64 120),(18,.int .i64 (1 + TN)),(19,.slice (some ⟨z14,0,none⟩) n c),(20,.int .i64 (F : Int)),(21,.int .i64 ((i : Int) + 1))],(whl_b1 x w z10 z12),[],W2.heap.size⟩ ⟨in64 (by omega),trivial⟩ ?_
  rw [← cast_succ i]
  intro a w3 hf hm
  exact hJ (m - 1) _ a w3 (by omega) ⟨i + 1,flipL L (F + i),_,by omega,turn_flip hT (by omega) h1 (by omega) hbit,hFB2.kept hm.kept hnT,rfl⟩ hf (hm2.back hm)
 ·skip
  have hbit : (1 + TN) / ((2 ^ (23 - i) : Nat) : Int) % 2 ≠ 1:=by
   intro h
   rw [← show Int.toNat (23 - (i : Int)) = 23 - i by omega] at h
   rw [h] at d1
   cases d1
  refine hgo 11 [oh0,oh0,oh2,oh0] [10,15,17,18,19,20,21] [((((1 + TN) / ((2 ^ Int.toNat (23 - (i : Int)) : Nat) : Int)) % 2) == 1) = false,inR .i64 (((i : Int) + 1))] [] [.inv J,.blk 0,.code whl_n2] ⟨[(10,.bool false),(15,.int .i64 120),(17,.int .i64 120),(18,.int .i64 (1 + TN)),(19,.slice (some ⟨z14,0,none⟩) n c),(20,.int .i64 (F : Int)),(21,.int .i64 ((i : Int) + 1))],(whl_b1 x w z10 z12),[],W1.heap.size⟩ ⟨d1,in64 (by omega),trivial⟩ ?_
  rw [← cast_succ i]
  intro a w3 hf hm
  exact hJ (m - 1) _ a w3 (by omega) ⟨i + 1,L,_,by omega,turn_skip hT (by omega) h1 hbit,hFB1.kept hm.kept hnT,rfl⟩ hf (hm1.back hm)
theorem whole_any (x : Raw12) (ct : Int) (mo : ByteArray) (at_ tn : Int) (hx : Raw12Ok x) (hmo : mo.size ≤ 9223372036854775000) (hct : I64 ct) (hat : I64 at_) (htn : I64 tn) (w : World) : Calls Try.prog 6 #[.agg #[.int .i64 x.fr,.int .i64 x.dst,.int .i64 x.id,.int .i64 x.st,.int .i64 x.ep,.int .i64 x.ou,.bool x.ans,.int .i64 x.ask.kind,.int .i64 x.ask.stripe,.int .i64 x.ask.epoch,.int .i64 x.ask.seq,.int .i64 x.ask.mask,.int .i64 x.ask.node,.int .i64 x.ask.oe,.int .i64 x.ask.os,.string x.ask.block,.int .i64 x.rc.flags,.int .i64 x.rc.fence,.int .i64 x.rc.epoch,.int .i64 x.rc.seq,.int .i64 x.rc.ie,.int .i64 x.rc.is,.int .i64 x.rc.mask,.string x.rc.block,.string x.rc.staged],.int .i64 ct,.string mo,.int .i64 at_,.int .i64 tn] w (RetK (.bool true) w):=by
 have hb:=putT_size (fitL_ok x)
 have h1:=pickZ_bd ct ((putT (fitL x)).size : Int) (by omega)
 have h2:=pickZ_bd tn 16777215 (by omega)
 have h3:=pickZ_bd at_ (8 * ((putT (fitL x)).size : Int) - 23) (by omega)
 have ho : openOk (putT (fitL x)) = true:=by
  rw [putT_right (fitL_ok x)]
  have h4:=(fldsM_ok (fitL_ok x)).2.2
  exact (open_frame (by rw [len_layT]; omega)).1
 exact whole_any0 x ct mo at_ tn _ _ (pickZ at_ (8 * ((putT (fitL x)).size : Int) - 23)).toNat _ _ _ hx rfl (fitL_ok x) rfl ho rfl hb rfl rfl (by omega) h1 (by omega) h2 hmo hct hat htn w
end Go.Proofs.Ytkffgdfbdmgncaa
