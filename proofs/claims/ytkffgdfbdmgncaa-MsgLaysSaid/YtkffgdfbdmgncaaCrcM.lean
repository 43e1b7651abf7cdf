import Derived.Test.YtkffgdfbdmgncaaEngS
import Derived.Test.YtkffgdfbdmgncaaEngV
namespace Go.Proofs.Ytkffgdfbdmgncaa
open Go.RowKit
structure RecM where
 used:Bool
 (fence de ds:Int)
 block:ByteArray
 op:Bool
 (ie is mask:Int)
 staged:ByteArray
structure AskM where
 (kind stripe epoch seq mask node oe os:Int)
 block:ByteArray
structure SayR where
 (st ep ou:Int)
 rc:RecM
def RecM.cells (r:RecM):List Value:=[.bool r.used,.int .i64 r.fence,.int .i64 r.de,.int .i64 r.ds,.string r.block,.bool r.op,.int .i64 r.ie,.int .i64 r.is,.int .i64 r.mask,.string r.staged]
def AskM.cells (q:AskM):List Value:=[.int .i64 q.kind,.int .i64 q.stripe,.int .i64 q.epoch,.int .i64 q.seq,.int .i64 q.mask,.int .i64 q.node,.int .i64 q.oe,.int .i64 q.os,.string q.block]
def SayR.cells (s:SayR):List Value:=[.int .i64 s.st,.int .i64 s.ep,.int .i64 s.ou] ++ s.rc.cells
def noText:ByteArray:=⟨#[]⟩
def blankR (f:Int):RecM:=⟨false,f,0,0,noText,false,0,0,0,noText⟩
structure RecOk (r:RecM):Prop where
 fence:0 ≤ r.fence ∧ r.fence ≤ 16777215
 de:0 ≤ r.de ∧ r.de ≤ 16777215
 ds:0 ≤ r.ds ∧ r.ds ≤ 16777215
 ie:0 ≤ r.ie ∧ r.ie ≤ 16777215
 is:0 ≤ r.is ∧ r.is ≤ 16777215
 mask:0 ≤ r.mask ∧ r.mask ≤ 63
 block:r.used = true → r.block.size = 16
 none:r.used = false → r.block = noText ∧ r.op = false ∧ r.de = 0 ∧ r.ds = 0
 staged:r.op = true → r.staged.size = 16
 shut:r.op = false → r.staged = noText ∧ r.ie = 0 ∧ r.is = 0 ∧ r.mask = 0
structure AskOk (q:AskM):Prop where
 kind:1 ≤ q.kind ∧ q.kind ≤ 10
 stripe:0 ≤ q.stripe ∧ q.stripe ≤ 7
 epoch:q.kind ≠ 8 → 1 ≤ q.epoch ∧ q.epoch ≤ 100
 epoch8:q.kind = 8 → q.epoch = 0
 seq:q.kind = 4 ∨ q.kind = 5 ∨ q.kind = 7 → 1 ≤ q.seq ∧ q.seq ≤ 6
 seq0:¬ (q.kind = 4 ∨ q.kind = 5 ∨ q.kind = 7) → q.seq = 0
 mask4:q.kind = 4 → 1 ≤ q.mask ∧ q.mask ≤ 63
 mask6:q.kind = 6 → 0 ≤ q.mask ∧ q.mask ≤ 1
 mask0:¬ (q.kind = 4 ∨ q.kind = 6) → q.mask = 0
 block:q.kind = 4 ∨ q.kind = 7 → q.block.size = 16
 block0:¬ (q.kind = 4 ∨ q.kind = 7) → q.block = noText
 old:q.kind = 6 → 0 ≤ q.oe ∧ q.oe < q.epoch ∧ 0 ≤ q.os ∧ q.os ≤ 6
 old0:q.kind ≠ 6 → q.oe = 0 ∧ q.os = 0
 node:q.kind = 9 → 0 ≤ q.node ∧ q.node ≤ 5
 node0:q.kind ≠ 9 → q.node = 0
end Go.Proofs.Ytkffgdfbdmgncaa
namespace Go.Proofs.Ytkffgdfbdmgncaa
open Go.RowKit
def crc1 (c:Int):Int:=if 16777216 ≤ c * 2 then xorZ (c * 2) 25578747 else c * 2
def crcN:Nat → Int → Int
 | 0,c=>c
 | k + 1,c=>crcN k (crc1 c)
def crcB (c b:Int):Int:=crcN 8 (xorZ c (b * 65536))
def crcL (c:Int) (l:List Int):Int:=l.foldl crcB c
def crcS (s:ByteArray):Int:=crcL 11994318 (intsOf s)
def Sum24 (c:Int):Prop:=0 ≤ c ∧ c < 16777216
theorem xor_under {a b k:Nat} (ha:a < 2 ^ k) (hb:b < 2 ^ k):a ^^^ b < 2 ^ k:=Nat.xor_lt_two_pow ha hb
theorem xor_top {a b k:Nat} (ha:a < 2 ^ (k + 1)) (hb:b < 2 ^ (k + 1)) (ha':2 ^ k ≤ a) (hb':2 ^ k ≤ b):a ^^^ b < 2 ^ k:=by
 have ta:a.testBit k = true:=by
  rw [Nat.testBit_eq_decide_div_mod_eq]
  have h1:a / 2 ^ k = 1:=by
   rw [Nat.pow_succ] at ha
   exact Nat.div_eq_of_lt_le (by omega) (by omega)
  simp [h1]
 have tb:b.testBit k = true:=by
  rw [Nat.testBit_eq_decide_div_mod_eq]
  have h1:b / 2 ^ k = 1:=by
   rw [Nat.pow_succ] at hb
   exact Nat.div_eq_of_lt_le (by omega) (by omega)
  simp [h1]
 refine Nat.lt_pow_two_of_testBit _ fun i hi=>?_
 rw [Nat.testBit_xor]
 rcases Nat.lt_or_eq_of_le hi with h | h
 ·rw [Nat.testBit_lt_two_pow (Nat.lt_of_lt_of_le ha (Nat.pow_le_pow_right (by decide) h)),Nat.testBit_lt_two_pow (Nat.lt_of_lt_of_le hb (Nat.pow_le_pow_right (by decide) h))]
  rfl
 ·subst h
  rw [ta,tb]
  rfl
theorem xorZ_under {a b:Int} (k:Nat) (ha:0 ≤ a ∧ a < ((2 ^ k:Nat):Int)) (hb:0 ≤ b ∧ b < ((2 ^ k:Nat):Int)):0 ≤ xorZ a b ∧ xorZ a b < ((2 ^ k:Nat):Int):=by
 have:=xor_under (a:=a.toNat) (b:=b.toNat) (k:=k) (by omega) (by omega)
 unfold xorZ
 omega
theorem crc1_bd {c:Int} (h:Sum24 c):Sum24 (crc1 c):=by
 unfold Sum24 at *
 unfold crc1
 split
 ·have:=xor_top (a:=(c * 2).toNat) (b:=(25578747:Int).toNat) (k:=24) (by omega) (by decide) (by omega) (by decide)
  unfold xorZ
  omega
 ·omega
theorem crcN_bd:∀ (k:Nat) {c:Int},Sum24 c → Sum24 (crcN k c)
 | 0,_,h=>h
 | k + 1,_,h=>crcN_bd k (crc1_bd h)
theorem xor24 {c b:Int} (h:Sum24 c) (hb:0 ≤ b ∧ b ≤ 255):Sum24 (xorZ c (b * 65536)):=by
 unfold Sum24 at *
 have:=xorZ_under (a:=c) (b:=b * 65536) 24 (by omega) (by omega)
 omega
theorem crcB_bd {c b:Int} (h:Sum24 c) (hb:0 ≤ b ∧ b ≤ 255):Sum24 (crcB c b):=crcN_bd 8 (xor24 h hb)
theorem crcL_bd:∀ (l:List Int) {c:Int},Sum24 c → Byts l → Sum24 (crcL c l)
 | [],_,h,_=>h
 | x :: l,_,h,hl=>crcL_bd l (crcB_bd h (hl x (List.mem_cons_self ..))) (fun n hn=>hl n (List.mem_cons_of_mem _ hn))
theorem crcS_bd (s:ByteArray):0 ≤ crcS s ∧ crcS s ≤ 16777215:=by
 have:=crcL_bd (intsOf s) (c:=11994318) ⟨by decide,by decide⟩ (byts_intsOf s)
 unfold Sum24 at this
 unfold crcS
 omega
theorem crcL_take (c:Int) (s:ByteArray) {i:Nat} (h:i < s.size):crcL c ((intsOf s).take (i + 1)) = crcB (crcL c ((intsOf s).take i)) (byteAt s i):=by
 have hl:i < (intsOf s).length:=by rw [length_intsOf]; exact h
 rw [List.take_add_one,List.getElem?_eq_getElem hl,byteAt_eq,List.getElem?_eq_getElem hl]
 simp only [Option.toList_some,Option.getD_some,crcL,List.foldl_append,List.foldl_cons,List.foldl_nil]
theorem take_all (s:ByteArray):(intsOf s).take s.size = intsOf s:=List.take_of_length_le (by rw [length_intsOf]; exact Nat.le_refl _)
theorem xor_half (a b:Nat):a ^^^ b = 2 * ((a / 2) ^^^ (b / 2)) + (if a % 2 ≠ b % 2 then 1 else 0):=by
 have h1:(a ^^^ b) / 2 = a / 2 ^^^ b / 2:=by
  have:=Nat.shiftRight_xor_distrib (a:=a) (b:=b) (i:=1)
  simpa [Nat.shiftRight_eq_div_pow] using this
 have h2:(a ^^^ b) % 2 = if a % 2 ≠ b % 2 then 1 else 0:=by
  have h3:(a ^^^ b).testBit 0 = (a.testBit 0 ^^ b.testBit 0):=Nat.testBit_xor a b 0
  simp only [Nat.testBit_zero] at h3
  have h4:∀ x:Nat,decide (x % 2 = 1) = true ↔ x % 2 = 1:=fun x=>by simp
  rcases Nat.mod_two_eq_zero_or_one a with ha | ha <;> rcases Nat.mod_two_eq_zero_or_one b with hb | hb <;> rw [ha,hb] at h3 ⊢
  ·have:=(decide_eq_false_iff_not (p:=(a ^^^ b) % 2 = 1)).1 h3
   rw [if_neg (by decide)]
   omega
  ·have:=(decide_eq_true_iff (p:=(a ^^^ b) % 2 = 1)).1 h3
   rw [if_pos (by decide)]
   exact this
  ·have:=(decide_eq_true_iff (p:=(a ^^^ b) % 2 = 1)).1 h3
   rw [if_pos (by decide)]
   exact this
  ·have:=(decide_eq_false_iff_not (p:=(a ^^^ b) % 2 = 1)).1 h3
   rw [if_neg (by decide)]
   omega
 omega
theorem xorZ_half (a b:Int) (ha:0 ≤ a) (hb:0 ≤ b):xorZ a b = 2 * xorZ (a / 2) (b / 2) + (if a % 2 ≠ b % 2 then 1 else 0):=by
 have h:=xor_half a.toNat b.toNat
 unfold xorZ
 have e1:(a / 2).toNat = a.toNat / 2:=by omega
 have e2:(b / 2).toNat = b.toNat / 2:=by omega
 rw [e1,e2]
 rw [h]
 split <;> split <;> omega
end Go.Proofs.Ytkffgdfbdmgncaa
