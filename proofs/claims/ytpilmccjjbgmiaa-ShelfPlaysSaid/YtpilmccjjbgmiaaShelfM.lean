import Derived.Test.YtpilmccjjbgmiaaLawM
import Derived.Test.YtpilmccjjbgmiaaCrcM
namespace Go.Proofs.Ytpilmccjjbgmiaa
open Go.RowKit
def n24 (n:Int):Bool:=decide (0 ≤ n) && decide (n ≤ 16777215)
def fitB (s:ByteArray) (u:Bool):Bool:=bif u then (s.size:Int) == 16 else (s.size:Int) == 0
def tagB (a b:Int):Bool:=((a:Int) == 0) && (((b:Int) == 0) && true)
def okB (r:RecM):Bool:=
 (n24 r.fence && n24 r.de && n24 r.ds && n24 r.ie && n24 r.is) && (!decide (r.mask < 0) && !decide (r.mask > 63)) && (fitB r.block r.used && fitB r.staged r.op)
  && (r.op || (tagB r.ie r.is && r.mask == 0)) && (r.used || (!r.op && tagB r.de r.ds))
theorem n24_iff (n:Int):n24 n = true ↔ 0 ≤ n ∧ n ≤ 16777215:=by simp [n24]
theorem size_zero {s:ByteArray}:s.size = 0 ↔ s = noText:=by
 constructor
 ·intro h
  apply ByteArray.ext
  exact Array.size_eq_zero_iff.1 h
 ·rintro rfl
  rfl
theorem okB_iff (r:RecM):okB r = true ↔ RecOk r:=by
 obtain ⟨u,f,de,ds,b,o,ie,is,m,s⟩:=r
 have hz:∀ s:ByteArray,((s.size:Int) == 0) = true ↔ s = noText:=fun s=>by
  rw [← size_zero,beq_iff_eq]
  omega
 have hs:∀ s:ByteArray,((s.size:Int) == 16) = true ↔ s.size = 16:=fun s=>by
  rw [beq_iff_eq]
  omega
 constructor
 ·intro h
  cases u <;> cases o <;> simp only [okB,fitB,tagB,Bool.and_eq_true,n24_iff,Bool.not_eq_true',decide_eq_false_iff_not,cond_true,cond_false,hz,hs,beq_iff_eq,Bool.or_eq_true,Bool.false_eq_true,false_or,true_or,Bool.not_false,Bool.not_true,true_and,and_true,false_and,and_false] at h
  ·exact ⟨h.1.1.1.1.1.1.1.1,h.1.1.1.1.1.1.1.2,h.1.1.1.1.1.1.2,h.1.1.1.1.1.2,h.1.1.1.1.2,by have:=h.1.1.1.2; dsimp only; omega,fun h=>(by cases h),fun _=>⟨h.1.1.2.1,rfl,h.2.1,h.2.2⟩,fun h=>(by cases h),fun _=>⟨h.1.1.2.2,h.1.2.1.1,h.1.2.1.2,h.1.2.2⟩⟩
  ·exact ⟨h.1.1.1.1.1.1.1,h.1.1.1.1.1.1.2,h.1.1.1.1.1.2,h.1.1.1.1.2,h.1.1.1.2,by have:=h.1.1.2; dsimp only; omega,fun _=>h.1.2.1,fun h=>(by cases h),fun h=>(by cases h),fun _=>⟨h.1.2.2,h.2.1.1,h.2.1.2,h.2.2⟩⟩
  ·exact ⟨h.1.1.1.1.1.1,h.1.1.1.1.1.2,h.1.1.1.1.2,h.1.1.1.2,h.1.1.2,by have:=h.1.2; dsimp only; omega,fun _=>h.2.1,fun h=>(by cases h),fun _=>h.2.2,fun h=>(by cases h)⟩
 ·intro h
  have h1:=h.mask
  have h2:=h.fence
  have h3:=h.de
  have h4:=h.ds
  have h5:=h.ie
  have h6:=h.is
  dsimp only at h1 h2 h3 h4 h5 h6
  have e1:decide (m < 0) = false:=decide_eq_false (by omega)
  have e2:decide (m > 63) = false:=decide_eq_false (by omega)
  cases u <;> cases o
  ·obtain ⟨k1,k2,k3,k4⟩:=h.none rfl
   obtain ⟨k5,k6,k7,k8⟩:=h.shut rfl
   dsimp only at k1 k2 k3 k4 k5 k6 k7 k8
   subst k1 k3 k4 k5 k6 k7 k8
   simp [okB,fitB,tagB,n24,h2.1,h2.2,noText,ByteArray.size]
  ·exact absurd (h.none rfl).2.1 (by simp)
  ·obtain ⟨k5,k6,k7,k8⟩:=h.shut rfl
   have kb:=h.block rfl
   dsimp only at kb k5 k6 k7 k8
   subst k5 k6 k7 k8
   simp only [okB,fitB,tagB,n24,h2.1,h2.2,h3.1,h3.2,h4.1,h4.2,kb,noText]
   rfl
  ·have kb:=h.block rfl
   have ks:=h.staged rfl
   dsimp only at kb ks
   simp only [okB,fitB,tagB,n24,h2.1,h2.2,h3.1,h3.2,h4.1,h4.2,h5.1,h5.2,h6.1,h6.2,e1,e2,kb,ks]
   rfl
theorem okB_false {r:RecM} (h:¬ RecOk r):okB r = false:=by
 cases e:okB r with
 | false=>rfl
 | true=>exact absurd ((okB_iff r).1 e) h
def flagsI (r:RecM):Int:=(if r.used then 1 else 0) + (if r.op then 2 else 0)
def packH (st:Int) (r:RecM):List Int:=[83,st,flagsI r,r.fence % 256,r.fence / 256 % 256,r.fence / 65536,r.de % 256,r.de / 256 % 256,r.de / 65536,r.ds % 256,r.ds / 256 % 256,r.ds / 65536,r.ie % 256,r.ie / 256 % 256,r.ie / 65536,r.is % 256,r.is / 256 % 256,r.is / 65536,r.mask,byteAt r.block 0,byteAt r.block 1,byteAt r.block 2,byteAt r.block 3,byteAt r.block 4,byteAt r.block 5,byteAt r.block 6,byteAt r.block 7,byteAt r.block 8,byteAt r.block 9,byteAt r.block 10,byteAt r.block 11,byteAt r.block 12,byteAt r.block 13,byteAt r.block 14,byteAt r.block 15,byteAt r.staged 0,byteAt r.staged 1,byteAt r.staged 2,byteAt r.staged 3,byteAt r.staged 4,byteAt r.staged 5,byteAt r.staged 6,byteAt r.staged 7,byteAt r.staged 8,byteAt r.staged 9,byteAt r.staged 10,byteAt r.staged 11,byteAt r.staged 12,byteAt r.staged 13,byteAt r.staged 14,byteAt r.staged 15,0,0,0,0,0,0,0,0,0,0]
def tail3 (c:Int):List Int:=[c / 65536,c / 256 % 256,c % 256]
def sumI (l:List Int):Int:=crcL 11994318 l
def packS (st:Int) (r:RecM):ByteArray:=bytesI (packH st r ++ tail3 (sumI (packH st r)))
def packGood (st:Int) (r:RecM):Bool:=decide (0 ≤ st) && decide (st < 8) && okB r
def packT (st:Int) (r:RecM):ByteArray:=bif packGood st r then packS st r else noText
def packE (st:Int) (r:RecM):Int:=bif packGood st r then 0 else 80
theorem flagsI_bd (r:RecM):0 ≤ flagsI r ∧ flagsI r ≤ 3:=by
 unfold flagsI
 cases r.used <;> cases r.op <;> decide
theorem byts_packH {st:Int} {r:RecM} (hs:0 ≤ st ∧ st ≤ 7) (h:RecOk r):Byts (packH st r):=by
 have h1:=h.mask
 have h2:=h.fence
 have h3:=h.de
 have h4:=h.ds
 have h5:=h.ie
 have h6:=h.is
 have h7:=flagsI_bd r
 intro n hn
 simp only [packH,List.mem_cons,List.not_mem_nil,or_false] at hn
 rcases hn with rfl | rfl | rfl | rfl | rfl | rfl | rfl | rfl | rfl | rfl | rfl | rfl | rfl | rfl | rfl | rfl | rfl | rfl | rfl | rfl | rfl | rfl | rfl | rfl | rfl | rfl | rfl | rfl | rfl | rfl | rfl | rfl | rfl | rfl | rfl | rfl | rfl | rfl | rfl | rfl | rfl | rfl | rfl | rfl | rfl | rfl | rfl | rfl | rfl | rfl | rfl | rfl | rfl | rfl | rfl | rfl | rfl | rfl | rfl | rfl | rfl <;> first | exact byteAt_bd _ _ | omega
theorem sumI_bd {l:List Int} (h:Byts l):0 ≤ sumI l ∧ sumI l ≤ 16777215:=by
 have:=crcL_bd l (c:=11994318) ⟨by decide,by decide⟩ h
 unfold Sum24 at this
 unfold sumI
 omega
theorem crcS_bytesI {l:List Int} (h:Byts l):crcS (bytesI l) = sumI l:=by rw [crcS,intsOf_bytesI h,sumI]
theorem byts_tail3 {c:Int} (h:0 ≤ c ∧ c ≤ 16777215):Byts (tail3 c):=by
 intro n hn
 simp only [tail3,List.mem_cons,List.not_mem_nil,or_false] at hn
 rcases hn with rfl | rfl | rfl <;> omega
theorem length_packH (st:Int) (r:RecM):(packH st r).length = 61:=rfl
def numAt (s:ByteArray) (k:Nat):Int:=byteAt s k + 256 * byteAt s (k + 1) + 65536 * byteAt s (k + 2)
def usedS (s:ByteArray):Bool:=byteAt s 2 % 2 == 1
def openS (s:ByteArray):Bool:=byteAt s 2 / 2 % 2 == 1
def takeR (s:ByteArray):RecM:=⟨usedS s,numAt s 3,numAt s 6,numAt s 9,bif usedS s then s.extract 19 35 else noText,openS s,numAt s 12,numAt s 15,byteAt s 18,bif openS s then s.extract 35 51 else noText⟩
def zeros64:ByteArray:=bytesI (List.replicate 64 0)
def takeGood (st:Int) (s:ByteArray):Bool:=decide (0 ≤ st) && decide (st < 8) && ((s.size:Int) == 64) && !(s.toList == zeros64.toList) && (packE st (takeR s) == 0) && ((packT st (takeR s)).toList == s.toList)
def takeNone (st:Int) (s:ByteArray):Bool:=decide (0 ≤ st) && decide (st < 8) && ((s.size:Int) == 64) && (s.toList == zeros64.toList)
def unpackR (st:Int) (s:ByteArray):RecM:=bif takeGood st s then takeR s else blankR 0
def unpackE (st:Int) (s:ByteArray):Int:=bif takeGood st s || takeNone st s then 0 else 80
theorem and_one {b:Int} (h:0 ≤ b ∧ b ≤ 255):andZ b 1 = b % 2:=by
 have h1:b.toNat &&& 1 = b.toNat % 2:=Nat.and_one_is_mod _
 unfold andZ
 show ((b.toNat &&& 1:Nat):Int) = _
 rw [h1]
 omega
theorem and_two {b:Int} (h:0 ≤ b ∧ b ≤ 255):andZ b 2 = 2 * (b / 2 % 2):=by
 obtain ⟨n,rfl⟩:∃ n:Nat,b = (n:Int):=⟨b.toNat,by omega⟩
 have key:∀ n:Nat,n < 256 → n &&& 2 = 2 * (n / 2 % 2):=by decide +kernel
 have:=key n (by omega)
 unfold andZ
 show ((((n:Int).toNat &&& 2:Nat)):Int) = _
 rw [Int.toNat_natCast,this]
 omega
theorem or_shift {a b k:Nat} (h:a < 2 ^ k):a ||| (b * 2 ^ k) = a + b * 2 ^ k:=by
 have:=Nat.two_pow_add_eq_or_of_lt h b
 rw [Nat.or_comm,Nat.mul_comm b,← this,Nat.add_comm]
theorem or_three {a b c:Int} (ha:0 ≤ a ∧ a ≤ 255) (hb:0 ≤ b ∧ b ≤ 255) (hc:0 ≤ c ∧ c ≤ 255):orZ (orZ a (b * 256)) (c * 65536) = a + 256 * b + 65536 * c:=by
 obtain ⟨x,rfl⟩:∃ n:Nat,a = (n:Int):=⟨a.toNat,by omega⟩
 obtain ⟨y,rfl⟩:∃ n:Nat,b = (n:Int):=⟨b.toNat,by omega⟩
 obtain ⟨z,rfl⟩:∃ n:Nat,c = (n:Int):=⟨c.toNat,by omega⟩
 have h1:=or_shift (a:=x) (b:=y) (k:=8) (by omega)
 have h2:=or_shift (a:=x + y * 256) (b:=z) (k:=16) (by omega)
 have e1:((y:Int) * 256).toNat = y * 2 ^ 8:=by omega
 have e2:((z:Int) * 65536).toNat = z * 2 ^ 16:=by omega
 unfold orZ
 rw [e1,e2,Int.toNat_natCast,Int.toNat_natCast,h1]
 show (((x + y * 256 ||| z * 2 ^ 16:Nat)):Int) = _
 rw [h2]
 omega
end Go.Proofs.Ytpilmccjjbgmiaa
