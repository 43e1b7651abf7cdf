import Derived.Shelf.Strings.Repeat
import Derived.Test.YtpilmccjjbgmiaaEngV
import Derived.Test.YtpilmccjjbgmiaaProg
namespace Go.Proofs.Ytpilmccjjbgmiaa
open Go.Shelf Go.RowKit
def Try.lays105_ren:Go.Shelf.Ren:=⟨fun | 105=>51 | 212=>71 | 99=>72 | 165=>73 | 166=>74 | 170=>75 | 169=>76 | 263=>80 | 264=>81 | 206=>82 | 240=>83 | 241=>84 | 276=>87 | 277=>88 | n=>n,fun | 9=>9 | 3=>3 | 4=>4 | 20=>20 | 0=>0 | 46=>81 | 109=>105 | 5=>5 | 72=>110 | 76=>114 | 51=>118 | 146=>119 | 53=>121 | 148=>122 | 70=>108 | 37=>40 | 75=>113 | 127=>124 | 164=>127 | 80=>100 | n=>n,fun | n=>n⟩
theorem Try.lays105:Go.Proofs.Lays.n105 Try.prog Try.lays105_ren:={
 mixed:=by kernel_rfl
 f99:=Try.func72.trans (congrArg some (by kernel_rfl))
 f105:=Try.func51.trans (congrArg some (by kernel_rfl))
 f165:=Try.func73.trans (congrArg some (by kernel_rfl))
 f166:=Try.func74.trans (congrArg some (by kernel_rfl))
 f169:=Try.func76.trans (congrArg some (by kernel_rfl))
 f170:=Try.func75.trans (congrArg some (by kernel_rfl))
 f206:=Try.func82.trans (congrArg some (by kernel_rfl))
 f212:=Try.func71.trans (congrArg some (by kernel_rfl))
 f240:=Try.func83.trans (congrArg some (by kernel_rfl))
 f241:=Try.func84.trans (congrArg some (by kernel_rfl))
 f263:=Try.func80.trans (congrArg some (by kernel_rfl))
 f264:=Try.func81.trans (congrArg some (by kernel_rfl))
 f276:=Try.func87.trans (congrArg some (by kernel_rfl))
 f277:=Try.func88.trans (congrArg some (by kernel_rfl))
 t0:=Try.underlying0
 a0:=Try.isAgg0
 z0:=Try.sizeOf0
 v0:=Try.zeroValue0
 t3:=Try.underlying3
 a3:=Try.isAgg3
 z3:=Try.sizeOf3
 v3:=Try.zeroValue3
 t4:=Try.underlying4
 a4:=Try.isAgg4
 z4:=Try.sizeOf4
 v4:=Try.zeroValue4
 t5:=Try.underlying5
 a5:=Try.isAgg5
 z5:=Try.sizeOf5
 v5:=Try.zeroValue5
 t9:=Try.underlying9
 a9:=Try.isAgg9
 z9:=Try.sizeOf9
 v9:=Try.zeroValue9
 t20:=Try.underlying20
 a20:=Try.isAgg20
 z20:=Try.sizeOf20
 v20:=Try.zeroValue20
 t37:=Try.underlying40
 a37:=Try.isAgg40
 z37:=Try.sizeOf40
 v37:=Try.zeroValue40
 t46:=Try.underlying81
 a46:=Try.isAgg81
 z46:=Try.sizeOf81
 v46:=Try.zeroValue81
 t51:=Try.underlying118
 a51:=Try.isAgg118
 z51:=Try.sizeOf118
 v51:=Try.zeroValue118
 t53:=Try.underlying121
 a53:=Try.isAgg121
 z53:=Try.sizeOf121
 v53:=Try.zeroValue121
 t70:=Try.underlying108
 a70:=Try.isAgg108
 z70:=Try.sizeOf108
 v70:=Try.zeroValue108
 t72:=Try.underlying110
 a72:=Try.isAgg110
 z72:=Try.sizeOf110
 v72:=Try.zeroValue110
 t75:=Try.underlying113
 a75:=Try.isAgg113
 z75:=Try.sizeOf113
 v75:=Try.zeroValue113
 t76:=Try.underlying114
 a76:=Try.isAgg114
 z76:=Try.sizeOf114
 v76:=Try.zeroValue114
 t109:=Try.underlying105
 a109:=Try.isAgg105
 z109:=Try.sizeOf105
 v109:=Try.zeroValue105
 t127:=Try.underlying124
 a127:=Try.isAgg124
 z127:=Try.sizeOf124
 v127:=Try.zeroValue124
 t146:=Try.underlying119
 a146:=Try.isAgg119
 z146:=Try.sizeOf119
 v146:=Try.zeroValue119
 t148:=Try.underlying122
 a148:=Try.isAgg122
 z148:=Try.sizeOf122
 v148:=Try.zeroValue122
 t164:=Try.underlying127
 a164:=Try.isAgg127
 z164:=Try.sizeOf127
 v164:=Try.zeroValue127 }
theorem Try.Builder_Extra_105:Builder.Extra Try.prog Try.lays105_ren:={
 sizeBuilder:=by kernel_rfl
 liesBuilder:=by kernel_rfl
 t5:=Try.underlying5
 a5:=Try.isAgg5
 z5:=Try.sizeOf5
 v5:=Try.zeroValue5
 infoByte:=by kernel_rfl
 cellsByte:=by kernel_rfl
 sizeByte:=by kernel_rfl
 neB5:=by decide }
theorem Try.strings_Repeat (s:ByteArray) (c:Nat) (w:World) (hc:c ≤ 9223372036854775807) (hlen:s.size * c ≤ 140737488355328) :
  Calls Try.prog 51 #[.string s,.int .i64 c] w fun e w'=>e = .returned (.string ⟨(Lib.repeatL s.data.toList c).toArray⟩) ∧ Below w.heap.size w w':=Any.strings_Repeat Try.lays105 Try.Builder_Extra_105 s c w hc hlen
theorem zeros_any (w:World):Calls Try.prog 51 #[.string ⟨#[0]⟩,.int .i64 64] w (RetK (.string (bytesI (List.replicate 64 0))) w):=by
 refine (Try.strings_Repeat ⟨#[0]⟩ 64 w (by decide) (by decide)).mono fun e w' h=>?_
 refine ⟨h.1.trans ?_,Kept.of_below h.2 (fun k h1 h2=>absurd h1 (Nat.not_lt.2 h2))⟩
 rw [show (Lib.repeatL (⟨#[0]⟩:ByteArray).data.toList 64) = List.replicate 64 0 from by kernel_rfl,show bytesI (List.replicate 64 0) = ⟨(List.replicate 64 (0:UInt8)).toArray⟩ from by kernel_rfl]
theorem zeros16_any (w:World):Calls Try.prog 51 #[.string ⟨#[0]⟩,.int .i64 16] w (RetK (.string (bytesI (List.replicate 16 0))) w):=by
 refine (Try.strings_Repeat ⟨#[0]⟩ 16 w (by decide) (by decide)).mono fun e w' h=>?_
 refine ⟨h.1.trans ?_,Kept.of_below h.2 (fun k h1 h2=>absurd h1 (Nat.not_lt.2 h2))⟩
 rw [show (Lib.repeatL (⟨#[0]⟩:ByteArray).data.toList 16) = List.replicate 16 0 from by kernel_rfl,show bytesI (List.replicate 16 0) = ⟨(List.replicate 16 (0:UInt8)).toArray⟩ from by kernel_rfl]
end Go.Proofs.Ytpilmccjjbgmiaa
namespace Go.Proofs.Ytpilmccjjbgmiaa
open Go.RowKit
def crc1 (c:Int):Int:=if 16777216 ≤ c * 2 then xorZ (c * 2) 25578747 else c * 2
def crcN:Nat → Int → Int
 | 0,c=>c
 | k + 1,c=>crcN k (crc1 c)
def crcB (c b:Int):Int:=crcN 8 (xorZ c (b * 65536))
def crcL (c:Int) (l:List Int):Int:=l.foldl crcB c
def crcS (s:ByteArray):Int:=crcL 11994318 (intsOf s)
def Sum24 (c:Int):Prop:=0 ≤ c ∧ c < 16777216
theorem xor_under {a b k:Nat} (ha:a < 2 ^ k) (hb:b < 2 ^ k):a ^^^ b < 2 ^ k:=Nat.xor_lt_two_pow ha hb
theorem xor_top {a b k:Nat} (ha:a < 2 ^ (k + 1)) (hb:b < 2 ^ (k + 1)) (ha':2 ^ k ≤ a) (hb':2 ^ k ≤ b):a ^^^ b < 2 ^ k:=by
 have ta:a.testBit k = true:=by
  rw [Nat.testBit_eq_decide_div_mod_eq]
  have h1:a / 2 ^ k = 1:=by
   rw [Nat.pow_succ] at ha
   exact Nat.div_eq_of_lt_le (by omega) (by omega)
  simp [h1]
 have tb:b.testBit k = true:=by
  rw [Nat.testBit_eq_decide_div_mod_eq]
  have h1:b / 2 ^ k = 1:=by
   rw [Nat.pow_succ] at hb
   exact Nat.div_eq_of_lt_le (by omega) (by omega)
  simp [h1]
 refine Nat.lt_pow_two_of_testBit _ fun i hi=>?_
 rw [Nat.testBit_xor]
 rcases Nat.lt_or_eq_of_le hi with h | h
 ·rw [Nat.testBit_lt_two_pow (Nat.lt_of_lt_of_le ha (Nat.pow_le_pow_right (by decide) h)),Nat.testBit_lt_two_pow (Nat.lt_of_lt_of_le hb (Nat.pow_le_pow_right (by decide) h))]
  rfl
 ·subst h
  rw [ta,tb]
  rfl
theorem xorZ_under {a b:Int} (k:Nat) (ha:0 ≤ a ∧ a < ((2 ^ k:Nat):Int)) (hb:0 ≤ b ∧ b < ((2 ^ k:Nat):Int)):0 ≤ xorZ a b ∧ xorZ a b < ((2 ^ k:Nat):Int):=by
 have:=xor_under (a:=a.toNat) (b:=b.toNat) (k:=k) (by omega) (by omega)
 unfold xorZ
 omega
theorem crc1_bd {c:Int} (h:Sum24 c):Sum24 (crc1 c):=by
 unfold Sum24 at *
 unfold crc1
 split
 ·have:=xor_top (a:=(c * 2).toNat) (b:=(25578747:Int).toNat) (k:=24) (by omega) (by decide) (by omega) (by decide)
  unfold xorZ
  omega
 ·omega
theorem crcN_bd:∀ (k:Nat) {c:Int},Sum24 c → Sum24 (crcN k c)
 | 0,_,h=>h
 | k + 1,_,h=>crcN_bd k (crc1_bd h)
theorem xor24 {c b:Int} (h:Sum24 c) (hb:0 ≤ b ∧ b ≤ 255):Sum24 (xorZ c (b * 65536)):=by
 unfold Sum24 at *
 have:=xorZ_under (a:=c) (b:=b * 65536) 24 (by omega) (by omega)
 omega
theorem crcB_bd {c b:Int} (h:Sum24 c) (hb:0 ≤ b ∧ b ≤ 255):Sum24 (crcB c b):=crcN_bd 8 (xor24 h hb)
theorem crcL_bd:∀ (l:List Int) {c:Int},Sum24 c → Byts l → Sum24 (crcL c l)
 | [],_,h,_=>h
 | x :: l,_,h,hl=>crcL_bd l (crcB_bd h (hl x (List.mem_cons_self ..))) (fun n hn=>hl n (List.mem_cons_of_mem _ hn))
theorem crcL_take (c:Int) (s:ByteArray) {i:Nat} (h:i < s.size):crcL c ((intsOf s).take (i + 1)) = crcB (crcL c ((intsOf s).take i)) (byteAt s i):=by
 have hl:i < (intsOf s).length:=by rw [length_intsOf]; exact h
 rw [List.take_add_one,List.getElem?_eq_getElem hl,byteAt_eq,List.getElem?_eq_getElem hl]
 simp only [Option.toList_some,Option.getD_some,crcL,List.foldl_append,List.foldl_cons,List.foldl_nil]
theorem take_all (s:ByteArray):(intsOf s).take s.size = intsOf s:=List.take_of_length_le (by rw [length_intsOf]; exact Nat.le_refl _)
theorem xor_half (a b:Nat):a ^^^ b = 2 * ((a / 2) ^^^ (b / 2)) + (if a % 2 ≠ b % 2 then 1 else 0):=by
 have h1:(a ^^^ b) / 2 = a / 2 ^^^ b / 2:=by
  have:=Nat.shiftRight_xor_distrib (a:=a) (b:=b) (i:=1)
  simpa [Nat.shiftRight_eq_div_pow] using this
 have h2:(a ^^^ b) % 2 = if a % 2 ≠ b % 2 then 1 else 0:=by
  have h3:(a ^^^ b).testBit 0 = (a.testBit 0 ^^ b.testBit 0):=Nat.testBit_xor a b 0
  simp only [Nat.testBit_zero] at h3
  have h4:∀ x:Nat,decide (x % 2 = 1) = true ↔ x % 2 = 1:=fun x=>by simp
  rcases Nat.mod_two_eq_zero_or_one a with ha | ha <;> rcases Nat.mod_two_eq_zero_or_one b with hb | hb <;> rw [ha,hb] at h3 ⊢
  ·have:=(decide_eq_false_iff_not (p:=(a ^^^ b) % 2 = 1)).1 h3
   rw [if_neg (by decide)]
   omega
  ·have:=(decide_eq_true_iff (p:=(a ^^^ b) % 2 = 1)).1 h3
   rw [if_pos (by decide)]
   exact this
  ·have:=(decide_eq_true_iff (p:=(a ^^^ b) % 2 = 1)).1 h3
   rw [if_pos (by decide)]
   exact this
  ·have:=(decide_eq_false_iff_not (p:=(a ^^^ b) % 2 = 1)).1 h3
   rw [if_neg (by decide)]
   omega
 omega
theorem xorZ_half (a b:Int) (ha:0 ≤ a) (hb:0 ≤ b):xorZ a b = 2 * xorZ (a / 2) (b / 2) + (if a % 2 ≠ b % 2 then 1 else 0):=by
 have h:=xor_half a.toNat b.toNat
 unfold xorZ
 have e1:(a / 2).toNat = a.toNat / 2:=by omega
 have e2:(b / 2).toNat = b.toNat / 2:=by omega
 rw [e1,e2]
 rw [h]
 split <;> split <;> omega
end Go.Proofs.Ytpilmccjjbgmiaa
