import Derived.Test.YtkffgdfbdmgncaaShelfL
namespace Go.Proofs.Ytkffgdfbdmgncaa
open Go.RowKit
def digF:Nat → Nat → List Int
 | 0,_=>[]
 | f + 1,m=>if m = 0 then [] else ((m % 256:Nat):Int) :: digF f (m / 256)
def valL:List Int → Int
 | []=>0
 | b :: l=>b + 256 * valL l
def digN (m:Nat):List Int:=digF 8 m
theorem byts_digF:∀ f m,Byts (digF f m)
 | 0,_=>fun _ h=>(by cases h)
 | f + 1,m=>by
  unfold digF
  split
  ·exact fun _ h=>(by cases h)
  ·intro n hn
   rcases List.mem_cons.1 hn with rfl | hn
   ·omega
   ·exact byts_digF f _ n hn
theorem val_digF:∀ f m,m < 256 ^ f → valL (digF f m) = m
 | 0,m,h=>by simp at h; subst h; rfl
 | f + 1,m,h=>by
  unfold digF
  split
  ·rename_i e; subst e; rfl
  ·have h1:m / 256 < 256 ^ f:=by rw [Nat.pow_succ] at h; omega
   simp only [valL]
   rw [val_digF f _ h1]
   omega
theorem len_digF:∀ f k m,m < 256 ^ k → (digF f m).length ≤ k
 | 0,k,m,_=>by simp [digF]
 | f + 1,0,m,h=>by simp at h; subst h; simp [digF]
 | f + 1,k + 1,m,h=>by
  unfold digF
  split
  ·simp
  ·have h1:m / 256 < 256 ^ k:=by rw [Nat.pow_succ] at h; omega
   have:=len_digF f k _ h1
   simp only [List.length_cons]
   omega
theorem digF_zero (f:Nat):digF f 0 = []:=by cases f <;> simp [digF]
theorem last_digF:∀ f m,m < 256 ^ f → (digF f m).getLast? ≠ some 0
 | 0,m,h=>by simp [digF]
 | f + 1,m,h=>by
  unfold digF
  split
  ·simp
  ·rename_i hm
   have h1:m / 256 < 256 ^ f:=by rw [Nat.pow_succ] at h; omega
   by_cases h2:m / 256 = 0
   ·rw [h2,digF_zero]
    simp
    omega
   ·rw [List.getLast?_cons]
    have h3:=last_digF f _ h1
    cases h4:(digF f (m / 256)).getLast? with
    | none=>
     rw [List.getLast?_eq_none_iff] at h4
     have h5:=val_digF f _ h1
     rw [h4] at h5
     simp only [valL] at h5
     omega
    | some x=>
     rw [h4] at h3
     simpa using h3
theorem val_nn:∀ (l:List Int),Byts l → 0 ≤ valL l
 | [],_=>Int.le_refl _
 | b :: l,h=>by
  have h1:=h b (by simp)
  have h2:=val_nn l (fun n hn=>h n (by simp [hn]))
  simp only [valL]
  omega
theorem val_bd:∀ (l:List Int),Byts l → valL l < ((256 ^ l.length:Nat):Int)
 | [],_=>by simp [valL]
 | b :: l,h=>by
  have h1:=h b (by simp)
  have h2:=val_bd l (fun n hn=>h n (by simp [hn]))
  simp only [valL,List.length_cons,Nat.pow_succ]
  omega
theorem val_pos:∀ (l:List Int),Byts l → l.getLast? ≠ some 0 → l ≠ [] → 0 < valL l
 | [],_,_,h=>absurd rfl h
 | b :: l,h,hl,_=>by
  have h1:=h b (by simp)
  have h2:=val_nn l (fun n hn=>h n (by simp [hn]))
  simp only [valL]
  by_cases e:l = []
  ·subst e
   simp at hl
   simp only [valL]
   omega
  ·have h3:=val_pos l (fun n hn=>h n (by simp [hn])) (by rw [List.getLast?_cons] at hl; cases h4:l.getLast? with | none=>simp | some x=>rw [h4] at hl; simpa using hl) e
   omega
theorem dig_val:∀ f (l:List Int),Byts l → l.getLast? ≠ some 0 → l.length ≤ f → digF f (valL l).toNat = l
 | f,[],_,_,_=>by simp [valL,digF_zero]
 | 0,b :: l,_,_,h=>by simp at h
 | f + 1,b :: l,h,hl,hf=>by
  have h1:=h b (by simp)
  have hb:Byts l:=fun n hn=>h n (by simp [hn])
  have h2:=val_nn l hb
  have h3:=val_pos (b :: l) h hl (by simp)
  have h4:l.getLast? ≠ some 0:=by
   rw [List.getLast?_cons] at hl
   cases h4:l.getLast? with
   | none=>simp
   | some x=>rw [h4] at hl; simpa using hl
  have h5:=dig_val f l hb h4 (by simpa using hf)
  simp only [valL] at h3 ⊢
  unfold digF
  rw [if_neg (by omega)]
  rw [show (b + 256 * valL l).toNat / 256 = (valL l).toNat by omega,h5]
  congr 1
  omega
def numOk (n:Int):Bool:=decide (-1 ≤ n) && decide (n ≤ 1099511627776)
def numI (n:Int):List Int:=digN (n + 1).toNat
def numT (n:Int):ByteArray:=bytesI (numI n)
theorem numOk_iff (n:Int):numOk n = true ↔ -1 ≤ n ∧ n ≤ 1099511627776:=by simp [numOk]
theorem byts_num (n:Int):Byts (numI n):=byts_digF _ _
theorem len_num {n:Int} (h:n ≤ 1099511627776):(numI n).length ≤ 6:=len_digF _ _ _ (by have:(256:Nat) ^ 6 = 281474976710656:=(by decide); omega)
theorem size_num {n:Int} (h:n ≤ 1099511627776):(numT n).size ≤ 6:=by
 unfold numT
 rw [size_bytesI]
 exact len_num h
def getV (s:ByteArray):Int:=valL (intsOf s) - 1
def getOk (s:ByteArray):Bool:=decide (s.size ≤ 6) && ((intsOf s).getLast? != some 0) && decide (getV s ≤ 1099511627776)
def getI (s:ByteArray):Int:=bif getOk s then getV s else 0
def getE (s:ByteArray):Int:=bif getOk s then 0 else 30
theorem get_num {n:Int} (h:-1 ≤ n ∧ n ≤ 1099511627776):getOk (numT n) = true ∧ getV (numT n) = n:=by
 have h8:(n + 1).toNat < 256 ^ 8:=by
  have:(256:Nat) ^ 8 = 18446744073709551616:=by decide
  omega
 have hv:getV (numT n) = n:=by
  unfold getV numT
  rw [intsOf_bytesI (byts_num n)]
  unfold numI digN
  rw [val_digF 8 _ h8]
  omega
 refine ⟨?_,hv⟩
 unfold getOk
 rw [hv]
 have h1:=size_num h.2
 have h2:(intsOf (numT n)).getLast? ≠ some 0:=by
  unfold numT
  rw [intsOf_bytesI (byts_num n)]
  exact last_digF 8 _ h8
 simp [h1,h2,h.2]
theorem num_get {s:ByteArray} (h:getOk s = true):numT (getV s) = s ∧ numOk (getV s) = true:=by
 simp only [getOk,Bool.and_eq_true,decide_eq_true_eq,bne_iff_ne] at h
 obtain ⟨⟨h1,h2⟩,h3⟩:=h
 have h4:=val_nn _ (byts_intsOf s)
 refine ⟨?_,(numOk_iff _).2 ⟨by unfold getV; omega,h3⟩⟩
 unfold numT numI digN getV
 rw [show (valL (intsOf s) - 1 + 1).toNat = (valL (intsOf s)).toNat by omega,dig_val 8 _ (byts_intsOf s) h2 (by rw [length_intsOf]; omega),bytesI_intsOf]
theorem val_snoc:∀ (l:List Int) (b:Int),valL (l ++ [b]) = valL l + b * ((256 ^ l.length:Nat):Int)
 | [],b=>by simp [valL]
 | a :: l,b=>by
  simp only [List.cons_append,valL,val_snoc l b,List.length_cons,Nat.pow_succ]
  rw [Int.mul_add,← Int.add_assoc]
  congr 1
  rw [Int.natCast_mul,Int.mul_left_comm,Int.mul_comm (256:Int)]
  rfl
theorem take_snoc (s:ByteArray) {i:Nat} (h:i < s.size):(intsOf s).take (i + 1) = (intsOf s).take i ++ [byteAt s i]:=by
 have h1:i < (intsOf s).length:=by rw [length_intsOf]; exact h
 rw [List.take_add_one,List.getElem?_eq_getElem h1,Option.toList_some,byteAt_eq,List.getElem?_eq_getElem h1,Option.getD_some]
theorem val_take_lt (s:ByteArray) (i:Nat):0 ≤ valL ((intsOf s).take i) ∧ valL ((intsOf s).take i) < ((256 ^ i:Nat):Int):=by
 have hb:Byts ((intsOf s).take i):=fun n hn=>byts_intsOf s n (List.mem_of_mem_take hn)
 refine ⟨val_nn _ hb,Int.lt_of_lt_of_le (val_bd _ hb) ?_⟩
 have:(256:Nat) ^ ((intsOf s).take i).length ≤ 256 ^ i:=Nat.pow_le_pow_right (by omega) (by simp; omega)
 omega
theorem or_byte (s:ByteArray) {i:Nat} (h:i < s.size):orZ (valL ((intsOf s).take i)) (byteAt s i * ((2 ^ (8 * i):Nat):Int)) = valL ((intsOf s).take (i + 1)):=by
 have h1:=val_take_lt s i
 have h2:=byteAt_bd s i
 rw [take_snoc s h,val_snoc,List.length_take,length_intsOf,Nat.min_eq_left (by omega)]
 unfold orZ
 have e:(256:Nat) ^ i = 2 ^ (8 * i):=by rw [show (256:Nat) = 2 ^ 8 by rfl,← Nat.pow_mul]
 rw [e] at h1 ⊢
 have e2:(byteAt s i * ((2 ^ (8 * i):Nat):Int)).toNat = (byteAt s i).toNat * 2 ^ (8 * i):=by
  rw [show byteAt s i = (((byteAt s i).toNat:Nat):Int) by omega]
  norm_cast
 rw [e2,or_shift (by omega)]
 push_cast
 have e3:(((byteAt s i).toNat:Nat):Int) = byteAt s i:=by omega
 have e4:(((valL ((intsOf s).take i)).toNat:Nat):Int) = valL ((intsOf s).take i):=by omega
 rw [e3,e4]
structure FldM where
 tag:Int
 text:ByteArray
instance:Inhabited FldM:=⟨⟨0,noText⟩⟩
def FldM.cells (f:FldM):List Value:=[.int .i64 f.tag,.string f.text]
def fldV (l:List FldM):List Value:=l.flatMap FldM.cells
def fldB (f:FldM):Bool:=decide (1 ≤ f.tag) && decide (f.tag ≤ 255) && decide (f.text.size ≤ 400)
theorem fldB_iff (f:FldM):fldB f = true ↔ 1 ≤ f.tag ∧ f.tag ≤ 255 ∧ f.text.size ≤ 400:=by simp [fldB,and_assoc]
def layF (f:FldM):List Int:=[f.tag % 256,(f.text.size:Int) % 256,(f.text.size:Int) / 256 % 256] ++ intsOf f.text
def layI (l:List FldM):List Int:=l.flatMap layF
def layOk (l:List FldM):Bool:=decide (l.length ≤ 64) && l.all fldB
def takeF:Nat → List Int → Option (List FldM)
 | 0,_=>none
 | c + 1,s=>match s with
  | []=>some []
  | [_]=>none
  | [_,_]=>none
  | t :: a :: b :: r=>if c = 0 ∨ t = 0 ∨ a + 256 * b > 400 ∨ a + 256 * b > (r.length:Int) then none else (takeF c (r.drop (a + 256 * b).toNat)).map (⟨t,bytesI (r.take (a + 256 * b).toNat)⟩ :: ·)
def takeM (s:List Int):Option (List FldM):=takeF 65 s
theorem len_fldV (l:List FldM):(fldV l).length = l.length * 2:=by
 induction l with
 | nil=>rfl
 | cons f l ih=>simp only [fldV,List.flatMap_cons,List.length_append,List.length_cons] at ih ⊢; rw [ih]; simp [FldM.cells]; omega
theorem fldV_snoc (l:List FldM) (f:FldM):fldV (l ++ [f]) = fldV l ++ f.cells:=by simp [fldV]
theorem fldV_get:∀ (l:List FldM) (k j:Nat) (f:FldM),l[k]? = some f → j < 2 → (fldV l)[k * 2 + j]? = f.cells[j]?
 | [],k,j,f,h,_=>by simp at h
 | a :: l,0,j,f,h,hj=>by
  simp only [List.getElem?_cons_zero,Option.some.injEq] at h
  subst h
  simp only [fldV,List.flatMap_cons]
  rw [List.getElem?_append_left (by simp [FldM.cells]; omega),Nat.zero_mul,Nat.zero_add]
 | a :: l,k + 1,j,f,h,hj=>by
  simp only [List.getElem?_cons_succ] at h
  simp only [fldV,List.flatMap_cons]
  rw [List.getElem?_append_right (by simp [FldM.cells]; omega),show (k + 1) * 2 + j - (FldM.cells a).length = k * 2 + j by simp [FldM.cells]; omega]
  exact fldV_get l k j f h hj
theorem byts_layF (f:FldM):Byts (layF f):=by
 intro n hn
 simp only [layF,List.cons_append,List.nil_append,List.mem_cons] at hn
 rcases hn with rfl | rfl | rfl | hn
 ·omega
 ·omega
 ·omega
 ·exact byts_intsOf _ n hn
theorem byts_layI (l:List FldM):Byts (layI l):=by
 intro n hn
 simp only [layI,List.mem_flatMap] at hn
 obtain ⟨f,_,hf⟩:=hn
 exact byts_layF f n hf
theorem layI_snoc (l:List FldM) (f:FldM):layI (l ++ [f]) = layI l ++ layF f:=by simp [layI]
theorem len_layF (f:FldM):(layF f).length = 3 + f.text.size:=by simp [layF,length_intsOf]; omega
theorem take_lay:∀ (c:Nat) (l:List FldM),l.length < c → l.all fldB = true → takeF c (layI l) = some l
 | 0,l,h,_=>by omega
 | c + 1,[],_,_=>rfl
 | c + 1,f :: l,h,ha=>by
  simp only [List.all_cons,Bool.and_eq_true] at ha
  obtain ⟨h1,h2,h3⟩:=(fldB_iff f).1 ha.1
  have ih:=take_lay c l (by simpa using h) ha.2
  simp only [List.length_cons] at h
  have e1:f.tag % 256 = f.tag:=by omega
  have e2:(f.text.size:Int) % 256 + 256 * ((f.text.size:Int) / 256 % 256) = f.text.size:=by omega
  have e3:layI (f :: l) = f.tag :: ((f.text.size:Int) % 256) :: ((f.text.size:Int) / 256 % 256) :: (intsOf f.text ++ layI l):=by simp [layI,layF,e1]
  rw [e3]
  unfold takeF
  dsimp only
  rw [e2,if_neg (by simp only [List.length_append,length_intsOf]; omega),Int.toNat_natCast,← length_intsOf,List.drop_left,List.take_left,ih,bytesI_intsOf]
  rfl
theorem ints_three {s:ByteArray} (h:3 ≤ s.size):∃ r,intsOf s = byteAt s 0 :: byteAt s 1 :: byteAt s 2 :: r ∧ r = (intsOf s).drop 3 ∧ r.length = s.size - 3:=by
 have hl:=length_intsOf s
 match hs:intsOf s with
 | []=>rw [hs] at hl; simp at hl; omega
 | [_]=>rw [hs] at hl; simp at hl; omega
 | [_,_]=>rw [hs] at hl; simp at hl; omega
 | a :: b :: c :: r=>
  rw [hs] at hl
  simp only [List.length_cons] at hl
  refine ⟨r,?_,rfl,by omega⟩
  rw [byteAt_eq,byteAt_eq,byteAt_eq,hs]
  rfl
def takeL (s:ByteArray):Int:=byteAt s 1 + 256 * byteAt s 2
theorem take_bad {s:ByteArray} {c:Nat} (h:s.size ≠ 0) (hb:c = 0 ∨ s.size < 3 ∨ byteAt s 0 = 0 ∨ takeL s > 400 ∨ takeL s + 3 > (s.size:Int)):takeF (c + 1) (intsOf s) = none:=by
 by_cases h3:s.size < 3
 ·have hl:=length_intsOf s
  match hs:intsOf s with
  | []=>rw [hs] at hl; simp at hl; omega
  | [_]=>rfl
  | [_,_]=>rfl
  | _ :: _ :: _ :: _=>rw [hs] at hl; simp at hl; omega
 ·obtain ⟨r,h1,_,h2⟩:=ints_three (s:=s) (by omega)
  rw [h1]
  unfold takeF
  dsimp only
  rw [if_pos]
  unfold takeL at hb
  omega
theorem take_good {s:ByteArray} {c:Nat} (h:3 ≤ s.size) (hc:c ≠ 0) (h0:byteAt s 0 ≠ 0) (h4:takeL s ≤ 400) (hl:takeL s + 3 ≤ (s.size:Int)) :
  takeF (c + 1) (intsOf s) = (takeF c (intsOf (s.extract (takeL s + 3).toNat s.size))).map (⟨byteAt s 0,s.extract 3 (takeL s + 3).toNat⟩ :: ·):=by
 obtain ⟨r,h1,hr,h2⟩:=ints_three (s:=s) h
 have b1:=byteAt_bd s 1
 have b2:=byteAt_bd s 2
 have e1:r.drop (takeL s).toNat = intsOf (s.extract (takeL s + 3).toNat s.size):=by
  rw [intsOf_extract,take_all,hr,List.drop_drop]
  congr 1
  unfold takeL
  omega
 have e2:bytesI (r.take (takeL s).toNat) = s.extract 3 (takeL s + 3).toNat:=by
  refine intsOf_inj ?_
  rw [intsOf_bytesI (fun n hn=>byts_intsOf s n (by rw [hr] at hn; exact List.mem_of_mem_drop (List.mem_of_mem_take hn))),intsOf_extract,hr,List.drop_take]
  congr 1
 rw [← e1,← e2,h1]
 have hn:¬ (c = 0 ∨ byteAt s 0 = 0 ∨ takeL s > 400 ∨ takeL s > (r.length:Int)):=by omega
 unfold takeL at hn ⊢
 conv=>lhs; unfold takeF
 dsimp only
 rw [if_neg hn]
def headI (n:Int):List Int:=[87,76,n % 256,n / 256 % 256]
theorem byts_headI (n:Int):Byts (headI n):=by
 intro x hx
 simp only [headI,List.mem_cons,List.not_mem_nil,or_false] at hx
 rcases hx with rfl | rfl | rfl | rfl <;> omega
def frameI (p:List Int):List Int:=headI p.length ++ p ++ tail3 (sumI (headI p.length ++ p))
def frameT (s:ByteArray):ByteArray:=bytesI (frameI (intsOf s))
def bodyI (s:ByteArray):List Int:=(intsOf s).take (s.size - 3)
def openOk (s:ByteArray):Bool:=decide (7 ≤ s.size) && decide (s.size ≤ 807) && decide ((intsOf s).take 4 = headI ((s.size:Int) - 7)) && decide (tail3 (sumI (bodyI s)) = (intsOf s).drop (s.size - 3))
def openT (s:ByteArray):ByteArray:=s.extract 4 (s.size - 3)
theorem byts_frameI {p:List Int} (h:Byts p):Byts (frameI p):=((byts_headI _).append h).append (byts_tail3 (sumI_bd ((byts_headI _).append h)))
theorem len_frameI (p:List Int):(frameI p).length = p.length + 7:=by simp [frameI,headI,tail3]
theorem size_frameT (s:ByteArray):(frameT s).size = s.size + 7:=by unfold frameT; rw [size_bytesI,len_frameI,length_intsOf]
theorem intsOf_frameT (s:ByteArray):intsOf (frameT s) = frameI (intsOf s):=intsOf_bytesI (byts_frameI (byts_intsOf s))
theorem open_frame {s:ByteArray} (h:s.size ≤ 800):openOk (frameT s) = true ∧ openT (frameT s) = s:=by
 have hl:=size_frameT s
 have hL:(headI ((intsOf s).length:Nat) ++ intsOf s).length = s.size + 4:=by simp [headI,length_intsOf]
 have h1:(intsOf (frameT s)).take 4 = headI (((frameT s).size:Int) - 7):=by
  rw [intsOf_frameT,hl]
  unfold frameI
  rw [List.append_assoc,List.take_append_of_le_length (by simp [headI]),length_intsOf,show ((s.size + 7:Nat):Int) - 7 = s.size by omega]
  rfl
 have h2:bodyI (frameT s) = headI ((intsOf s).length:Nat) ++ intsOf s:=by
  unfold bodyI
  rw [intsOf_frameT,hl]
  unfold frameI
  rw [List.take_append_of_le_length (by rw [hL]; omega),List.take_of_length_le (by rw [hL]; omega)]
 refine ⟨?_,?_⟩
 ·unfold openOk
  rw [h1,h2,intsOf_frameT,hl]
  have h3:(frameI (intsOf s)).drop (s.size + 7 - 3) = tail3 (sumI (headI ((intsOf s).length:Nat) ++ intsOf s)):=by
   unfold frameI
   rw [List.drop_append,List.drop_of_length_le (by rw [hL]; omega),hL,show s.size + 7 - 3 - (s.size + 4) = 0 by omega]
   rfl
  rw [h3]
  simp
  omega
 ·refine intsOf_inj ?_
  unfold openT
  rw [intsOf_extract,hl,intsOf_frameT]
  unfold frameI
  rw [List.take_append_of_le_length (by rw [hL]; omega),List.take_of_length_le (by rw [hL]; omega)]
  rfl
theorem openT_size {s:ByteArray} (h:openOk s = true):(openT s).size = s.size - 7 ∧ s.size ≤ 807 ∧ 7 ≤ s.size:=by
 simp only [openOk,Bool.and_eq_true,decide_eq_true_eq] at h
 refine ⟨?_,h.1.1.2,h.1.1.1⟩
 rw [← length_intsOf]
 unfold openT
 rw [intsOf_extract]
 simp [length_intsOf]
 omega
end Go.Proofs.Ytkffgdfbdmgncaa
