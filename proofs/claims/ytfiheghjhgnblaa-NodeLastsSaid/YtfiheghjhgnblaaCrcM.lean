import Derived.Test.YtfiheghjhgnblaaPlat2
import Derived.Test.YtfiheghjhgnblaaEngV
namespace Go.Proofs.Ytfiheghjhgnblaa
open Go.RowKit
theorem flush_pl (M:Pl) (pb:Nat) (ha:M.acts < 4611686018427387904) (w:World) (hP:PlatAt 64 80 w pb M) :
  Calls Try.prog 46 #[.pointer (some ⟨pb,0,none⟩)] w (fun e w'=>e = .returned (.int .i64 (goesE M)) ∧ PlatAt 64 80 w' pb (flushPl M) ∧ Kept (minePl pb M) w w'):=by
 have hok:=hP.ok.flush
 have ha2:=hP.ok.a0
 have hc2:=hP.ok.c0
 obtain ⟨h1,h2,h3,h4⟩:=hP
 obtain ⟨lb,mb,n,last,cs,ck,off,a,c⟩:=M
 cases off with
 | true=>exact (flush_off n lb mb pb a c w h1).mono fun e w' ⟨he,hk⟩=>⟨he,⟨h1.kept hk id,h2.kept hk id,h3.kept hk id,h4⟩,hk.mono (fun _ _ h=>h.elim)⟩
 | false=>
  cases hc1:decide (c = 1) with
  | true=>
   have e1:goesE ⟨lb,mb,n,last,cs,ck,false,a,c⟩ = 70:=by simp [goesE,Pl.goes,hc1]
   have e2:flushPl ⟨lb,mb,n,last,cs,ck,false,a,c⟩ = ⟨lb,mb,n,last,cs,ck,decide (c = 1),a + 1,dn c⟩:=by simp [flushPl,actPl,Pl.goes,hc1]
   rw [e1,e2]
   rw [e2] at hok
   refine (flush_cut n lb mb pb a c ⟨ha2,ha⟩ hc2 hc1 w h1).mono fun e w' ⟨he,hB,hk⟩=>⟨he,⟨hB,h2.kept hk (fun e=>h4.ne2 e.symm),h3.kept hk (fun e=>h4.ne1 e.symm),hok⟩,hk.mono (fun _ _ h=>.inl h)⟩
  | false=>
   have e1:goesE ⟨lb,mb,n,last,cs,ck,false,a,c⟩ = 0:=by simp [goesE,Pl.goes,hc1]
   have e2:flushPl ⟨lb,mb,n,last,cs,ck,false,a,c⟩ = ⟨lb,mb,n,ovl last cs,[],ck,decide (c = 1),a + 1,dn c⟩:=by simp [flushPl,actPl,Pl.goes,hc1]
   rw [e1,e2]
   rw [e2] at hok
   refine (flush_live n lb mb pb a c ⟨ha2,ha⟩ hc2 hc1 cs ck last h4.ne2 h4.ne1 h4.ne3 h4.len h4.sec (fun c hc=>(h4.csk c hc).2.2.1) (fun c hc=>⟨(h4.csk c hc).1,(h4.csk c hc).2.1⟩) (fun c hc=>(h4.csk c hc).2.2.2) h4.nk h4.nb w h1 h2 h3).mono fun e w' ⟨he,hB,hl,hmw,hk⟩=>⟨he,⟨hB,hl,hmw,hok⟩,hk⟩
def newPl (lb mb n:Nat):Pl:=⟨lb,mb,n,EMPTY n,[],0,false,0,0⟩
theorem secs_empty (n:Nat):secs n = secsV (EMPTY n):=by
 have hz:intsV zeroSec = List.replicate 64 (.int .u8 0):=by simp [intsV,zeroSec]
 have h1:secsV (EMPTY n) = List.replicate (n * 64) (.int .u8 0):=by
  unfold secsV EMPTY
  rw [show zeroSec = List.replicate 64 (0:Int) from rfl,List.flatten_replicate_replicate]
  simp [intsV]
 have h2:secs n = List.replicate (n * 64) (.int .u8 0):=by
  unfold secs
  rw [hz,List.eq_replicate_iff]
  refine ⟨by simp [madeCells],fun b hb=>?_⟩
  simp only [madeCells,Array.toList_map,List.mem_map] at hb
  obtain ⟨i,_,rfl⟩:=hb
  have hrep:∀ m j,j < m → (List.replicate m (Value.int .u8 0)).toArray[j]! = .int .u8 0:=fun m j h=>by simp [h]
  have hsz:(List.replicate 64 (Value.int .u8 0)).toArray.size = 64:=by simp
  rw [hsz]
  exact hrep 64 _ (Nat.mod_lt _ (by decide))
 rw [h1,h2]
theorem empty_ok {lb mb pb n:Nat} (h1:lb < mb) (h2:mb < pb) (hn:1 ≤ n ∧ n ≤ 64):PlOk pb (newPl lb mb n):=
 ⟨by show pb ≠ mb; omega,by show pb ≠ lb; omega,by show lb ≠ mb; omega,hn,by simp [newPl,EMPTY],fun L hL=>by simp [newPl,EMPTY] at hL; rw [hL.2]; exact secOk_zero,fun c hc=>(by cases hc),List.nodup_nil,List.nodup_nil,by show (0:Int) ≤ 0; omega,by show (0:Int) ≤ 0 ∧ (0:Int) < _; omega⟩
theorem new_pl (n:Nat) (hn:1 ≤ n ∧ n ≤ 64) (w:World) :
  Calls Try.prog 8 #[.int .i64 (n:Int)] w (fun e w'=>∃ lb mb pb,e = .returned (.tuple #[.pointer (some ⟨pb,0,none⟩),.int .i64 0]) ∧ w.heap.size ≤ lb ∧ lb < mb ∧ mb < pb ∧ PlatAt 64 80 w' pb (newPl lb mb n) ∧ Kept (fun _=>False) w w'):=by
 refine (new_any n hn w).mono fun e w' ⟨lb,mb,pb,he,h1,h2,h3,h4,h5,h6,h7⟩=>?_
 rw [secs_empty] at h5
 exact ⟨lb,mb,pb,he,h1,h2,h3,⟨h4,h5,h6,empty_ok h2 h3 hn⟩,h7⟩
theorem MemOk.off {w wx w':World} {S S' T:Nat → Prop} {bk:List Bk} {sz:Nat} (hm:MemOk w S bk [] sz wx) (hS:∀ x,S x → S' x) (hk:Kept T wx w') (hT:∀ x,T x → S' x ∨ w.heap.size ≤ x) (hb:∀ b ∈ bk,¬ T b.g):MemOk w S' bk [] w'.heap.size w':=
 ⟨rfl,fun b h=>(hm.blk b h).kept hk (hb b h),fun b h hr=>(hm.own b h hr).imp_left (hS _),hm.nd,(hm.kept.mono (fun k _ h=>hS k h)).trans hk (fun k hk' h=>(hT k h).resolve_right (by omega)),fun x hx=>by cases hx⟩
theorem mine_write (M:Pl) (pb:Nat) (k:Int) (L:List Int):minePl pb (writePl M k L) = minePl pb M:=by
 obtain ⟨_,_,_,_,h5,h6⟩:=actPl_with M
 unfold minePl writePl
 split <;> simp [h5,h6]
theorem mine_flush (M:Pl) (pb:Nat):minePl pb (flushPl M) = minePl pb M:=by
 obtain ⟨_,_,_,_,h5,h6⟩:=actPl_with M
 unfold minePl flushPl
 split <;> simp [h5,h6]
theorem acts_write (M:Pl) (k:Int) (L:List Int):(writePl M k L).acts ≤ M.acts + 1:=by
 unfold writePl actPl
 cases M.goes <;> cases M.off <;> simp <;> omega
end Go.Proofs.Ytfiheghjhgnblaa
namespace Go.Proofs.Ytfiheghjhgnblaa
open Go.RowKit
def crc1 (c:Int):Int:=if 16777216 ≤ c * 2 then xorZ (c * 2) 25578747 else c * 2
def crcN:Nat → Int → Int
 | 0,c=>c
 | k + 1,c=>crcN k (crc1 c)
def crcB (c b:Int):Int:=crcN 8 (xorZ c (b * 65536))
def crcL (c:Int) (l:List Int):Int:=l.foldl crcB c
def crcS (s:ByteArray):Int:=crcL 11994318 (intsOf s)
def Sum24 (c:Int):Prop:=0 ≤ c ∧ c < 16777216
theorem xor_under {a b k:Nat} (ha:a < 2 ^ k) (hb:b < 2 ^ k):a ^^^ b < 2 ^ k:=Nat.xor_lt_two_pow ha hb
theorem xor_top {a b k:Nat} (ha:a < 2 ^ (k + 1)) (hb:b < 2 ^ (k + 1)) (ha':2 ^ k ≤ a) (hb':2 ^ k ≤ b):a ^^^ b < 2 ^ k:=by
 have ta:a.testBit k = true:=by
  rw [Nat.testBit_eq_decide_div_mod_eq]
  have h1:a / 2 ^ k = 1:=by
   rw [Nat.pow_succ] at ha
   exact Nat.div_eq_of_lt_le (by omega) (by omega)
  simp [h1]
 have tb:b.testBit k = true:=by
  rw [Nat.testBit_eq_decide_div_mod_eq]
  have h1:b / 2 ^ k = 1:=by
   rw [Nat.pow_succ] at hb
   exact Nat.div_eq_of_lt_le (by omega) (by omega)
  simp [h1]
 refine Nat.lt_pow_two_of_testBit _ fun i hi=>?_
 rw [Nat.testBit_xor]
 rcases Nat.lt_or_eq_of_le hi with h | h
 ·rw [Nat.testBit_lt_two_pow (Nat.lt_of_lt_of_le ha (Nat.pow_le_pow_right (by decide) h)),Nat.testBit_lt_two_pow (Nat.lt_of_lt_of_le hb (Nat.pow_le_pow_right (by decide) h))]
  rfl
 ·subst h
  rw [ta,tb]
  rfl
theorem xorZ_under {a b:Int} (k:Nat) (ha:0 ≤ a ∧ a < ((2 ^ k:Nat):Int)) (hb:0 ≤ b ∧ b < ((2 ^ k:Nat):Int)):0 ≤ xorZ a b ∧ xorZ a b < ((2 ^ k:Nat):Int):=by
 have:=xor_under (a:=a.toNat) (b:=b.toNat) (k:=k) (by omega) (by omega)
 unfold xorZ
 omega
theorem crc1_bd {c:Int} (h:Sum24 c):Sum24 (crc1 c):=by
 unfold Sum24 at *
 unfold crc1
 split
 ·have:=xor_top (a:=(c * 2).toNat) (b:=(25578747:Int).toNat) (k:=24) (by omega) (by decide) (by omega) (by decide)
  unfold xorZ
  omega
 ·omega
theorem crcN_bd:∀ (k:Nat) {c:Int},Sum24 c → Sum24 (crcN k c)
 | 0,_,h=>h
 | k + 1,_,h=>crcN_bd k (crc1_bd h)
theorem xor24 {c b:Int} (h:Sum24 c) (hb:0 ≤ b ∧ b ≤ 255):Sum24 (xorZ c (b * 65536)):=by
 unfold Sum24 at *
 have:=xorZ_under (a:=c) (b:=b * 65536) 24 (by omega) (by omega)
 omega
theorem crcB_bd {c b:Int} (h:Sum24 c) (hb:0 ≤ b ∧ b ≤ 255):Sum24 (crcB c b):=crcN_bd 8 (xor24 h hb)
theorem crcL_bd:∀ (l:List Int) {c:Int},Sum24 c → Byts l → Sum24 (crcL c l)
 | [],_,h,_=>h
 | x :: l,_,h,hl=>crcL_bd l (crcB_bd h (hl x (List.mem_cons_self ..))) (fun n hn=>hl n (List.mem_cons_of_mem _ hn))
theorem crcL_take (c:Int) (s:ByteArray) {i:Nat} (h:i < s.size):crcL c ((intsOf s).take (i + 1)) = crcB (crcL c ((intsOf s).take i)) (byteAt s i):=by
 have hl:i < (intsOf s).length:=by rw [length_intsOf]; exact h
 rw [List.take_add_one,List.getElem?_eq_getElem hl,byteAt_eq,List.getElem?_eq_getElem hl]
 simp only [Option.toList_some,Option.getD_some,crcL,List.foldl_append,List.foldl_cons,List.foldl_nil]
theorem take_all (s:ByteArray):(intsOf s).take s.size = intsOf s:=List.take_of_length_le (by rw [length_intsOf]; exact Nat.le_refl _)
end Go.Proofs.Ytfiheghjhgnblaa
