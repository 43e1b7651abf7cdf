import Derived.Laws.Closers25b
import Derived.Test.YtpilmccjjbgmiaaShelfM
namespace Go.Proofs.Ytpilmccjjbgmiaa
open Go.RowKit
theorem toList_beq (a b:ByteArray):(a.toList == b.toList) = decide (a = b):=by
 have h:a.toList = b.toList ↔ a = b:=by
  rw [ByteArray.toList_eq,ByteArray.toList_eq]
  constructor
  ·intro h
   exact ByteArray.ext (Array.toList_inj.1 h)
  ·rintro rfl
   rfl
 by_cases e:a = b
 ·rw [decide_eq_true e,beq_iff_eq.2 (h.2 e)]
 ·rw [decide_eq_false e,beq_eq_false_iff_ne.2 (fun h'=>e (h.1 h'))]
theorem intsOf_extract (s:ByteArray) (a e:Nat):intsOf (s.extract a e) = ((intsOf s).take e).drop a:=by
 simp only [intsOf,ByteArray.data_extract,Array.toList_extract,List.extract_eq_take_drop,List.map_take,List.map_drop]
 rw [List.drop_take]
theorem intsOf_inj {s t:ByteArray} (h:intsOf s = intsOf t):s = t:=by
 have:=congrArg bytesI h
 rwa [bytesI_intsOf,bytesI_intsOf] at this
def packA (st:Int) (r:RecM):List Int:=packH st r ++ tail3 (sumI (packH st r))
theorem byts_packA {st:Int} {r:RecM} (hs:0 ≤ st ∧ st ≤ 7) (h:RecOk r):Byts (packA st r):=(byts_packH hs h).append (byts_tail3 (sumI_bd (byts_packH hs h)))
theorem intsOf_packS {st:Int} {r:RecM} (hs:0 ≤ st ∧ st ≤ 7) (h:RecOk r):intsOf (packS st r) = packA st r:=intsOf_bytesI (byts_packA hs h)
theorem byteAt_packS {st:Int} {r:RecM} (hs:0 ≤ st ∧ st ≤ 7) (h:RecOk r) (k:Nat):byteAt (packS st r) k = (packA st r)[k]?.getD 0:=by rw [byteAt_eq,intsOf_packS hs h]
theorem size_packS (st:Int) (r:RecM):(packS st r).size = 64:=by
 unfold packS
 rw [size_bytesI]
 rfl
theorem three_num {n:Int} (_:0 ≤ n ∧ n ≤ 16777215):n % 256 + 256 * (n / 256 % 256) + 65536 * (n / 65536) = n:=by omega
theorem text_of {s t:ByteArray} (h:s.size = 16) (ht:intsOf t = (List.range 16).map (byteAt s)):t = s:=intsOf_inj (ht.trans (intsOf_size h).symm)
theorem takeR_packS {st:Int} {r:RecM} (hs:0 ≤ st ∧ st ≤ 7) (h:RecOk r):takeR (packS st r) = r:=by
 have hb:=byteAt_packS hs h
 have hi:=intsOf_packS hs h
 have h1:numAt (packS st r) 3 = r.fence:=by
  unfold numAt
  rw [hb,hb,hb]
  exact three_num h.fence
 have h2:numAt (packS st r) 6 = r.de:=by
  unfold numAt
  rw [hb,hb,hb]
  exact three_num h.de
 have h3:numAt (packS st r) 9 = r.ds:=by
  unfold numAt
  rw [hb,hb,hb]
  exact three_num h.ds
 have h4:numAt (packS st r) 12 = r.ie:=by
  unfold numAt
  rw [hb,hb,hb]
  exact three_num h.ie
 have h5:numAt (packS st r) 15 = r.is:=by
  unfold numAt
  rw [hb,hb,hb]
  exact three_num h.is
 have h6:byteAt (packS st r) 18 = r.mask:=hb 18
 have hf:byteAt (packS st r) 2 = flagsI r:=hb 2
 have h7:usedS (packS st r) = r.used:=by
  unfold usedS
  rw [hf]
  unfold flagsI
  cases r.used <;> cases r.op <;> rfl
 have h8:openS (packS st r) = r.op:=by
  unfold openS
  rw [hf]
  unfold flagsI
  cases r.used <;> cases r.op <;> rfl
 have h9:(bif r.used then (packS st r).extract 19 35 else noText) = r.block:=by
  cases e:r.used with
  | false=>exact (h.none e).1.symm
  | true=>
   refine text_of (h.block e) ?_
   rw [cond_true,intsOf_extract,hi]
   rfl
 have h10:(bif r.op then (packS st r).extract 35 51 else noText) = r.staged:=by
  cases e:r.op with
  | false=>exact (h.shut e).1.symm
  | true=>
   refine text_of (h.staged e) ?_
   rw [cond_true,intsOf_extract,hi]
   rfl
 unfold takeR
 rw [h1,h2,h3,h4,h5,h6,h7,h8,h9,h10]
theorem packS_zeros {st:Int} {r:RecM} (hs:0 ≤ st ∧ st ≤ 7) (h:RecOk r):packS st r ≠ zeros64:=by
 intro e
 have h1:byteAt (packS st r) 0 = 83:=byteAt_packS hs h 0
 rw [e] at h1
 exact absurd h1 (by decide +kernel)
theorem packS_inj {a b:Int} {r q:RecM} (ha:0 ≤ a ∧ a ≤ 7) (hb:0 ≤ b ∧ b ≤ 7) (hr:RecOk r) (hq:RecOk q) (e:packS a r = packS b q):a = b ∧ r = q:=by
 have h1:=takeR_packS ha hr
 have h2:=takeR_packS hb hq
 have h3:byteAt (packS a r) 1 = a:=byteAt_packS ha hr 1
 have h4:byteAt (packS b q) 1 = b:=byteAt_packS hb hq 1
 rw [e] at h1 h3
 exact ⟨h3.symm.trans h4,h1.symm.trans h2⟩
theorem packGood_ok {st:Int} {r:RecM} (hs:0 ≤ st ∧ st ≤ 7) (h:RecOk r):packGood st r = true:=by
 unfold packGood
 rw [decide_eq_true hs.1,decide_eq_true (show st < 8 by omega),(okB_iff r).2 h]
 rfl
theorem packT_ok {st:Int} {r:RecM} (hs:0 ≤ st ∧ st ≤ 7) (h:RecOk r):packT st r = packS st r:=by
 unfold packT
 rw [packGood_ok hs h,cond_true]
theorem packE_ok {st:Int} {r:RecM} (hs:0 ≤ st ∧ st ≤ 7) (h:RecOk r):packE st r = 0:=by
 unfold packE
 rw [packGood_ok hs h,cond_true]
theorem takeGood_iff {st:Int} {s:ByteArray} (hs:0 ≤ st ∧ st ≤ 7):takeGood st s = true ↔ s.size = 64 ∧ s ≠ zeros64 ∧ RecOk (takeR s) ∧ packS st (takeR s) = s:=by
 unfold takeGood packT packE packGood
 rw [decide_eq_true hs.1,decide_eq_true (show st < 8 by omega),toList_beq,toList_beq]
 by_cases hk:RecOk (takeR s)
 ·rw [(okB_iff _).2 hk]
  have e64:((s.size:Int) = 64) ↔ s.size = 64:=by omega
  simp [hk,e64,and_assoc]
 ·rw [okB_false hk]
  simp [hk]
theorem unpack_pack {st:Int} {r:RecM} (hs:0 ≤ st ∧ st ≤ 7) (h:RecOk r):unpackR st (packS st r) = r ∧ unpackE st (packS st r) = 0:=by
 have e:=takeR_packS hs h
 have hg:takeGood st (packS st r) = true:=(takeGood_iff hs).2 ⟨size_packS _ _,packS_zeros hs h,by rw [e]; exact h,by rw [e]⟩
 unfold unpackR unpackE
 rw [hg]
 exact ⟨e,rfl⟩
theorem unpack_zeros {st:Int} (hs:0 ≤ st ∧ st ≤ 7):unpackR st zeros64 = blankR 0 ∧ unpackE st zeros64 = 0:=by
 have hg:takeGood st zeros64 = false:=by
  cases e:takeGood st zeros64 with
  | false=>rfl
  | true=>exact absurd rfl ((takeGood_iff hs).1 e).2.1
 have hn:takeNone st zeros64 = true:=by
  unfold takeNone
  rw [decide_eq_true hs.1,decide_eq_true (show st < 8 by omega),toList_beq,decide_eq_true rfl]
  rfl
 unfold unpackR unpackE
 rw [hg,hn]
 exact ⟨rfl,rfl⟩
theorem unpack_none {st:Int} {s:ByteArray} (hs:0 ≤ st ∧ st ≤ 7) (hz:s ≠ zeros64) (h:∀ r,RecOk r → packS st r ≠ s):unpackR st s = blankR 0 ∧ unpackE st s = 80:=by
 have hg:takeGood st s = false:=by
  cases e:takeGood st s with
  | false=>rfl
  | true=>
   obtain ⟨_,_,h3,h4⟩:=(takeGood_iff hs).1 e
   exact absurd h4 (h _ h3)
 have hn:takeNone st s = false:=by
  unfold takeNone
  rw [toList_beq,decide_eq_false hz,Bool.and_false]
 unfold unpackR unpackE
 rw [hg,hn]
 exact ⟨rfl,rfl⟩
theorem unpack_other {a b:Int} {r:RecM} (ha:0 ≤ a ∧ a ≤ 7) (hb:0 ≤ b ∧ b ≤ 7) (h:RecOk r) (hne:a ≠ b):unpackR a (packS b r) = blankR 0 ∧ unpackE a (packS b r) = 80:=
 unpack_none ha (packS_zeros hb h) (fun _ hq e=>hne (packS_inj ha hb hq h e).1)
end Go.Proofs.Ytpilmccjjbgmiaa
