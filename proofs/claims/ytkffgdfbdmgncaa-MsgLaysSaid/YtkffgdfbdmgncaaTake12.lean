import Derived.Test.YtkffgdfbdmgncaaMsg12
import Derived.Test.YtkffgdfbdmgncaaEngJ
namespace Go.Proofs.Ytkffgdfbdmgncaa
open Go.RowKit
def putN:List Value → List Nat → List ByteArray → List Value
 | cs,o :: os,t :: ts=>putN (cs.set o (.int .i64 (getV t))) os ts
 | cs,_,_=>cs
theorem putN_snoc:∀ (os:List Nat) (ts:List ByteArray) (cs:List Value) (o:Nat) (t:ByteArray),os.length = ts.length → putN cs (os ++ [o]) (ts ++ [t]) = (putN cs os ts).set o (.int .i64 (getV t))
 | [],[],cs,o,t,_=>rfl
 | o' :: os,t' :: ts,cs,o,t,h=>by
  simp only [List.cons_append,putN]
  exact putN_snoc os ts _ o t (by simpa using h)
 | [],_ :: _,_,_,_,h=>by cases h
 | _ :: _,[],_,_,_,h=>by cases h
theorem len_putN:∀ (os:List Nat) (ts:List ByteArray) (cs:List Value),(putN cs os ts).length = cs.length
 | [],_,_=>by simp [putN]
 | _ :: _,[],_=>by simp [putN]
 | o :: os,t :: ts,cs=>by simp only [putN]; rw [len_putN os ts]; simp
theorem putN_short:∀ (os:List Nat) (ts:List ByteArray) (cs:List Value),putN cs os ts = putN cs (os.take ts.length) ts
 | [],_,_=>by simp
 | o :: os,[],cs=>by simp [putN]
 | o :: os,t :: ts,cs=>by
  simp only [putN,List.length_cons,List.take_succ_cons]
  exact putN_short os ts _
theorem tw_all:∀ (ts:List ByteArray),ts.all getOk = true → ts.takeWhile getOk = ts
 | [],_=>rfl
 | t :: ts,h=>by
  simp only [List.all_cons,Bool.and_eq_true] at h
  rw [List.takeWhile_cons,if_pos h.1,tw_all ts h.2]
theorem tw_at:∀ (ts:List ByteArray) (i:Nat) (t:ByteArray),(ts.take i).all getOk = true → ts[i]? = some t → getOk t = false → ts.takeWhile getOk = ts.take i
 | [],i,t,_,h,_=>by simp at h
 | a :: ts,0,t,_,h,hg=>by
  simp only [List.getElem?_cons_zero,Option.some.injEq] at h
  subst h
  rw [List.takeWhile_cons,hg]
  rfl
 | a :: ts,i + 1,t,ha,h,hg=>by
  simp only [List.take_succ_cons,List.all_cons,Bool.and_eq_true] at ha
  rw [List.takeWhile_cons,if_pos ha.1,tw_at ts i t ha.2 (by simpa using h) hg]
  rfl
theorem putN_inv {Φ:List Value → Prop}:∀ (os:List Nat) (ts:List ByteArray) (cs:List Value),Φ cs → (∀ o ∈ os,∀ cs v,Φ cs → Φ (cs.set o (.int .i64 v))) → Φ (putN cs os ts)
 | [],_,_,h,_=>by simpa [putN] using h
 | _ :: _,[],_,h,_=>by simpa [putN] using h
 | o :: os,t :: ts,cs,h,hs=>by
  simp only [putN]
  exact putN_inv os ts _ (hs o (by simp) _ _ h) (fun o' ho'=>hs o' (by simp [ho']))
def tke_n1:List Nat:=[1,0,1,0,0,1,1,0,0,1,1,1]
def tke_n2:List Nat:=[1,0,1,0,0,1,1,1]
def TkeI (g o n c gi L lb:Nat) (cs:List Value) (os:List Nat) (ts:List ByteArray) (m:Nat) (st:St) (_:World):Prop:=∃ (i:Nat) (z:Nat),m + i = L ∧ (ts.take i).all getOk = true ∧ st = ⟨[(0,.slice (some ⟨g,o,none⟩) n c),(4,.bool false),(9,.slice (some ⟨gi,0,none⟩) L L),(10,i6 (L:Int)),(11,i6 (i:Int))],[⟨lb,31,true,(putN cs (os.take i) (ts.take i))⟩],[],z⟩
set_option maxRecDepth 100000 in
set_option maxHeartbeats 4000000 in
theorem take_any12 (g o n c gi L lb:Nat) (cs:List Value) (os:List Nat) (ts:List ByteArray) (hol:os.length = L) (htl:ts.length = L) (hnL:L ≤ n) (hos:∀ q ∈ os,q < cs.length) (hgn:g ≠ lb) (hin:gi ≠ lb) (hL:L ≤ 100) (hgS:∀ t ∈ ts,t.size ≤ 9223372036854775807) (w:World) (hB:Blk w lb 31 cs) (hI:Blk w gi 89 (os.map fun q=>.pointer (some ⟨lb,q,none⟩))) (hT:∀ j t,ts[j]? = some t → g < w.heap.size ∧ w.cell? ⟨g,o + j * 2 + 1,none⟩ = some (.string t)) :
  Calls Try.prog 50 #[.slice (some ⟨g,o,none⟩) n c,.slice (some ⟨gi,0,none⟩) L L] w (fun e w'=>e = .returned (.bool (ts.all getOk)) ∧ Kept (fun x=>x = lb) w w' ∧ Blk w' lb 31 (putN cs os (ts.takeWhile getOk))):=by
 refine calls_of_holds (S:=(fun x=>x = lb)) (l:=[.slice (some ⟨g,o,none⟩) n c,.slice (some ⟨gi,0,none⟩) L L]) (n:=31) Try.func50 (body_of (by kernel_rfl)) rfl (by simp) (MemOk.start (bk:=[⟨lb,31,true,cs⟩]) (wn:=[]) (by simpa using hB) (by simp) (by simp) (by simp)) ?_
 refine hgE 15 [oh0,oh0,oh0,oh0] [0,4,9,10,11] [] [] [.code [1,0,1,0],.blk 0,.code [1,1]] ⟨[(0,.slice (some ⟨g,o,none⟩) n c),(4,.bool false),(9,.slice (some ⟨gi,0,none⟩) L L),(10,i6 (L:Int)),(11,i6 0)],[⟨lb,31,true,cs⟩],[],w.heap.size⟩ ?_
 refine holds_loopW (w:=w) (S':=(fun x=>x = lb)) (TkeI g o n c gi L lb cs os ts) L (by kernel_rfl) (fun W1 hm=>⟨⟨0,_,rfl,rfl,by rw [List.take_zero,List.take_zero]; rfl⟩,hm⟩) ?_
 rintro m _ W1 ⟨i,z,hmi,hall,rfl⟩ hm1 J hJ
 have hT1:∀ x,x ≠ lb → ¬ Turned [⟨lb,31,true,(putN cs (os.take i) (ts.take i))⟩] x:=by
  rintro x hx ⟨b,hb,_,he⟩
  simp at hb
  subst hb
  exact hx he.symm
 by_cases h1:i < L
 rotate_left
 ·skip
  refine hgE 14 [oh0,oh0,oh0] [4] [dF (((i:Int):Int) < (L:Int))] [] [.code [1,1,1]] ⟨[(4,.bool true)],[⟨lb,31,true,(putN cs (os.take i) (ts.take i))⟩],[],W1.heap.size⟩ ?_
  refine hrt [] [.bool true] [] ?_
  intro wx hm
  obtain rfl:i = L:=by omega
  have h2:=hm.at_ 0 rfl
  rw [List.take_of_length_le (by omega)] at hall
  rw [List.take_of_length_le (show os.length ≤ i by omega),List.take_of_length_le (show ts.length ≤ i by omega)] at h2
  rw [hall,tw_all ts hall]
  exact ⟨rfl,(MemOk.bck hm1 hm).kept,h2⟩
 obtain ⟨t,ht⟩:∃ t,ts[i]? = some t:=⟨_,List.getElem?_eq_getElem (by omega)⟩
 obtain ⟨q,hq⟩:∃ q,os[i]? = some q:=⟨_,List.getElem?_eq_getElem (by omega)⟩
 have hql:=hos q (List.mem_of_getElem? hq)
 obtain ⟨hgl,hgc⟩:=hT i t ht
 have hgz:=hgS t (List.mem_of_getElem? ht)
 have hgi:=hI.lt
 refine holds_wins [⟨g,o + i * 2 + 1,[sT t]⟩,⟨gi,0 + i * 1,[.pointer (some ⟨lb,q,none⟩)]⟩] (fun _ y hy=>?_) ?_
 ·simp only [List.mem_cons,List.not_mem_nil,or_false] at hy
  rcases hy with rfl | rfl
  ·refine ⟨hT1 g hgn,Nat.lt_of_lt_of_le hgl hm1.kept.size,fun j v hj=>?_⟩
   match j,hj with
   | 0,hj=>
    simp only [List.getElem?_cons_zero,Option.some.injEq] at hj
    subst hj
    exact (hm1.kept.cell (p:=⟨g,o + i * 2 + 1,none⟩) hgl hgn).trans hgc
   | j + 1,hj=>simp at hj
  ·refine ⟨hT1 gi hin,Nat.lt_of_lt_of_le hgi hm1.kept.size,fun j v hj=>?_⟩
   match j,hj with
   | 0,hj=>
    simp only [List.getElem?_cons_zero,Option.some.injEq] at hj
    subst hj
    exact (hI.kept hm1.kept hin).at_ (i:=0 + i * 1) (by rw [List.getElem?_map,Nat.zero_add,Nat.mul_one,hq]; rfl)
   | j + 1,hj=>simp at hj
 refine hgE 27 [oh0,oh1,oh0,oh2,⟨false,0,[⟨true,1,0,1⟩]⟩,oh0,oh0,oh0,oh0,oh2,oh0,⟨false,0,[⟨true,0,0,1⟩]⟩] [0,4,6,9,10,11,21] [dT (((i:Int):Int) < (L:Int)),oE ((0:Int) ≤ (i:Int) ∧ (i:Int) < ((L:Nat):Int)),oE ((0:Int) ≤ (i:Int) ∧ (i:Int) < ((n:Nat):Int))] [(gi,0 + i * 1,1),(g,o + i * 2 + 1,1)] [.ops [1,0,1,0,0,1,1,0,0,1,0] [5,6,7,8,9,10],.code [1,0,1,0,0,1,1,0,0,1,1],.blk 1,.code tke_n2,.inv J,.blk 0,.code [1,1]] ⟨[(0,.slice (some ⟨g,o,none⟩) n c),(4,.bool false),(6,.pointer (some ⟨lb,q,none⟩)),(9,.slice (some ⟨gi,0,none⟩) L L),(10,i6 (L:Int)),(11,i6 (i:Int)),(21,sT t)],[⟨lb,31,true,(putN cs (os.take i) (ts.take i))⟩],[⟨g,o + i * 2 + 1,[sT t]⟩,⟨gi,0 + i * 1,[.pointer (some ⟨lb,q,none⟩)]⟩],W1.heap.size⟩ ?_
 refine hcp (.tuple #[i6 (getI t),i6 (getE t)]) 62 [sT t] (some 22) [] tI rfl (fun wx hm=>get_any t (by omega) wx) fun z5 hz5=>?_
 replace hz5:W1.heap.size ≤ z5:=hz5
 refine holds_wins [] (fun _ _ h=>by cases h) ?_
 refine hgE 15 [oh0,oh0,oh0,oh0,oh0,oh0,oh0] [0,4,6,7,9,10,11,26] [] [] [.code [1,0,1,0,0,1,1,0,0,1,1,0,1],.code tke_n1,.blk 1,.code tke_n2,.inv J,.blk 0,.code [1,1]] ⟨[(0,.slice (some ⟨g,o,none⟩) n c),(4,.bool false),(6,.pointer (some ⟨lb,q,none⟩)),(7,i6 (getI t)),(9,.slice (some ⟨gi,0,none⟩) L L),(10,i6 (L:Int)),(11,i6 (i:Int)),(26,.bool ((getE t) != 0))],[⟨lb,31,true,(putN cs (os.take i) (ts.take i))⟩],[],z5⟩ ?_
 rcases Bool.eq_false_or_eq_true (getOk t) with hg | hg
 rotate_left
 ·skip
  refine hgE 8 [oh1,oh0] [0,4,6,7,9,10,11] [oE (((getE t) != 0) = true) (by unfold getE; rw [hg]; rfl)] [] [.code [1,0,1,0,0,1,1,0,0,1,1,0,1,0,1],.code tke_n1,.blk 1,.code tke_n2,.inv J,.blk 0,.code [1,1]] ⟨[(0,.slice (some ⟨g,o,none⟩) n c),(4,.bool false),(6,.pointer (some ⟨lb,q,none⟩)),(7,i6 (getI t)),(9,.slice (some ⟨gi,0,none⟩) L L),(10,i6 (L:Int)),(11,i6 (i:Int))],[⟨lb,31,true,(putN cs (os.take i) (ts.take i))⟩],[],z5⟩ ?_
  refine hrt [] [.bool false] [] ?_
  intro wx hm
  rw [List.all_eq_false.2 ⟨t,List.mem_of_getElem? ht,by rw [hg]; decide⟩,tw_at ts i t hall ht hg,putN_short,List.length_take,Nat.min_eq_left (by omega)]
  exact ⟨rfl,(MemOk.bck hm1 hm).kept,hm.at_ 0 rfl⟩
 refine hgE 9 [oh0,oh0,oh0,oh0] [0,4,9,10,11,28,29] [oE (((getE t) != 0) = false) (by unfold getE; rw [hg]; rfl)] [] [.ops tke_n1 [3],.blk 1,.code tke_n2,.inv J,.blk 0,.code [1,1]] ⟨[(0,.slice (some ⟨g,o,none⟩) n c),(4,.bool false),(9,.slice (some ⟨gi,0,none⟩) L L),(10,i6 (L:Int)),(11,i6 (i:Int)),(28,i6 (getI t)),(29,.pointer (some ⟨lb,q,none⟩))],[⟨lb,31,true,(putN cs (os.take i) (ts.take i))⟩],[],z5⟩ ?_
 refine holds_opS (x:=Instr.storeAt 3 (.pointer (some ⟨lb,q,none⟩)) (.int .i64 (getI t))) [⟨lb,31,true,((putN cs (os.take i) (ts.take i)).set q (.int .i64 (getI t)))⟩] (by kernel_rfl) (by kernel_rfl) rfl (fun wx hm=>?_) (fun z10 hz10=>?_)
 ·have hB:=hm.at_ 0 rfl
  have h1:=run_storeG (P:=Try.prog) wx 3 lb q 31 (putN cs (os.take i) (ts.take i)) (.int .i64 (getI t)) (by kernel_rfl) hB (by show q + 1 ≤ _; rw [len_putN]; omega) (by simp [Value.cells,Value.oneCell'])
  have h2:=hm.set1 0 (b:=⟨lb,31,true,putN cs (os.take i) (ts.take i)⟩) (cs:=(putN cs (os.take i) (ts.take i)).set q (.int .i64 (getI t))) rfl rfl (setRow_kept wx _ _) (setRow_blk hB _)
  have e:(putN cs (os.take i) (ts.take i)).set q (.int .i64 (getI t)) = (putN cs (os.take i) (ts.take i)).take q ++ [Value.int .i64 (getI t)] ++ (putN cs (os.take i) (ts.take i)).drop (q + 1):=by rw [List.set_eq_take_append_cons_drop,if_pos (by rw [len_putN]; omega)]; simp
  rw [e] at h2 ⊢
  exact ⟨_,h1,h2⟩
 replace hz10:z5 ≤ z10:=hz10
 refine hgE 9 [oh2,oh0] [0,4,9,10,11] [n64 (((i:Int) + 1))] [] [.inv J,.blk 0,.code [1,1]] ⟨[(0,.slice (some ⟨g,o,none⟩) n c),(4,.bool false),(9,.slice (some ⟨gi,0,none⟩) L L),(10,i6 (L:Int)),(11,i6 ((i:Int) + 1))],[⟨lb,31,true,((putN cs (os.take i) (ts.take i)).set q (i6 (getI t)))⟩],[],z10⟩ ?_
 intro a_ w4 hf_ hm
 have e1:(putN cs (os.take i) (ts.take i)).set q (.int .i64 (getI t)) = putN cs (os.take (i + 1)) (ts.take (i + 1)):=by
  rw [List.take_add_one,List.take_add_one,ht,hq,Option.toList_some,Option.toList_some,putN_snoc _ _ _ _ _ (by simp; omega)]
  unfold getI
  rw [hg]
  rfl
 rw [e1] at hm
 exact hJ (m - 1) _ a_ w4 (by omega) ⟨i + 1,_,by omega,by rw [List.take_add_one,ht,List.all_append,hall]; simp [hg],rfl⟩ hf_ (MemOk.bck hm1 hm)
end Go.Proofs.Ytkffgdfbdmgncaa
