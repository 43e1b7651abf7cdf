import Derived.Test.YtkffgdfbdmgncaaFrame12
namespace Go.Proofs.Ytkffgdfbdmgncaa
open Go.RowKit
theorem crcS_ints (s:ByteArray):crcS s = sumI (intsOf s):=rfl
theorem ints_app (a b:ByteArray):intsOf (a ++ b) = intsOf a ++ intsOf b:=by simp [intsOf]
theorem frame_text (s:ByteArray) (h:s.size ≤ 800):(bytesI [87,76,(s.size:Int) % 256,(s.size:Int) / 256] ++ s) ++ bytesI (tail3 (sumI (headI s.size ++ intsOf s))) = frameT s:=by
 have hh:[87,76,(s.size:Int) % 256,(s.size:Int) / 256] = headI s.size:=by
  unfold headI
  rw [show (s.size:Int) / 256 % 256 = (s.size:Int) / 256 by omega]
 apply intsOf_inj
 rw [intsOf_frameT,ints_app,ints_app,hh,intsOf_bytesI (byts_headI _),intsOf_bytesI (byts_tail3 (sumI_bd ((byts_headI _).append (byts_intsOf s))))]
 unfold frameI
 rw [length_intsOf]
theorem frame_back {s:ByteArray} (h:openOk s = true):frameT (openT s) = s:=by
 have hz:=openT_size h
 unfold openOk at h
 simp only [Bool.and_eq_true,decide_eq_true_eq] at h
 obtain ⟨⟨⟨h1,h2⟩,h3⟩,h4⟩:=h
 apply intsOf_inj
 have e1:intsOf (openT s) = (bodyI s).drop 4:=by unfold openT bodyI; rw [intsOf_extract]
 have e2:headI ((intsOf (openT s)).length:Int) ++ intsOf (openT s) = bodyI s:=by
  rw [length_intsOf,hz.1,show ((s.size - 7:Nat):Int) = (s.size:Int) - 7 by omega,← h3,e1]
  have:(intsOf s).take 4 = (bodyI s).take 4:=by
   unfold bodyI
   rw [List.take_take]
   congr 1
   omega
  rw [this,List.take_append_drop]
 rw [intsOf_frameT]
 unfold frameI
 rw [e2,h4]
 exact List.take_append_drop _ _
theorem openOk_frame {s:ByteArray} (h:7 ≤ s.size ∧ s.size ≤ 807):openOk s = (ByteArray.toList (frameT (openT s)) == ByteArray.toList s):=by
 rw [toList_beq]
 by_cases ho:openOk s = true
 ·rw [ho,decide_eq_true (frame_back ho)]
 ·rw [Bool.not_eq_true] at ho
  rw [ho]
  symm
  refine decide_eq_false (fun e=>?_)
  have hz:(openT s).size ≤ 800:=by unfold openT; rw [ByteArray.size_extract]; omega
  have:=(open_frame hz).1
  rw [e,ho] at this
  cases this
theorem sum_text (s:ByteArray) (h:s.size ≤ 800):crcS (bytesI [87,76,(s.size:Int) % 256,(s.size:Int) / 256] ++ s) = sumI (headI s.size ++ intsOf s):=by
 have hh:[87,76,(s.size:Int) % 256,(s.size:Int) / 256] = headI s.size:=by
  unfold headI
  rw [show (s.size:Int) / 256 % 256 = (s.size:Int) / 256 by omega]
 rw [crcS_ints,ints_app,hh,intsOf_bytesI (byts_headI _)]
def rfl4_v1 (s:ByteArray):List Value:=[u6 87,u6 76,u6 ((s.size:Int) % 256),u6 ((s.size:Int) / 256)]
def rfl4_v2 (s:ByteArray):List Value:=[u6 ((sumI (headI s.size ++ intsOf s)) / 65536),u6 (((sumI (headI s.size ++ intsOf s)) / 256) % 256),u6 ((sumI (headI s.size ++ intsOf s)) % 256)]
set_option maxRecDepth 100000 in
set_option maxHeartbeats 4000000 in
theorem refFrame_ok (s:ByteArray) (hs:s.size ≤ 800) (w:World) :
  Calls Try.prog 25 #[.string s] w (RetK (.tuple #[.string (frameT s),.int .i64 0]) w):=by
 refine calls_of_holds (S:=(fun _=>False)) (l:=[.string s]) (n:=37) Try.func25 (body_of (by kernel_rfl)) rfl (by simp) (MemOk.none w _) ?_
 have hsb:=sumI_bd ((byts_headI (s.size:Int)).append (byts_intsOf s))
 refine hgE 31 [oh0,oh0,oh0,oh0,oh0,oh0,oh0,oh0,oh0,oh2,oh2,oh0,oh2,oh2,oh0] [0,2,3,17] [dF (((s.size:Int):Int) > 800),oE ((0:Int) ≤ (s.size:Int) ∧ (0:Int) < 256),n8 (((s.size:Int) % 256)),oE ((0:Int) ≤ (s.size:Int) ∧ (0:Int) < 256 ∧ (s.size:Int) ≤ IntKind.max .i64) (⟨by omega,by omega,le_max64 (by omega)⟩),n8 (((s.size:Int) / 256))] [] [.ops [1,1,1,0] [7,8,9,10],.code [1,1,1,1]] ⟨[(0,sT s),(2,sT ⟨#[]⟩),(3,i6 0),(17,.slice (some ⟨w.heap.size,0,none⟩) 4 4)],[⟨w.heap.size,5,true,(rfl4_v1 s)⟩],[],w.heap.size + 1⟩ ?_
 refine holds_opR (dst:=(some 18)) (x:=convert 50 9 (.slice (some ⟨w.heap.size,0,none⟩) 4 4)) (.string (bytesI ([87,76,(s.size:Int) % 256,(s.size:Int) / 256]))) (by kernel_rfl) (by kernel_rfl) rfl (fun wx hm=>?_) ?_
 ·exact run_bytesAt (P:=Try.prog) wx 50 9 5 _ _ _ _ _ ([87,76,(s.size:Int) % 256,(s.size:Int) / 256]) ([]) [] (by kernel_rfl) (by kernel_rfl) (by kernel_rfl) (hm.at_ 0 rfl) rfl rfl (by intro n hn; simp at hn; omega)
 refine hgE 10 [oh0,oh2,oh0,oh0] [2,3,5,21] [oE (((((bytesI ([87,76,(s.size:Int) % 256,(s.size:Int) / 256]))).size + (s).size:Nat):Int) ≤ 9223372036854775807) (by simp only [size_bytesI]; simp; omega)] [] [.ops [1,1,1,1,0] [1,2],.code [1,1,1,1,1]] ⟨[(2,sT ⟨#[]⟩),(3,i6 0),(5,sT ((bytesI ([87,76,(s.size:Int) % 256,(s.size:Int) / 256])) ++ s)),(21,sT ((bytesI ([87,76,(s.size:Int) % 256,(s.size:Int) / 256])) ++ s))],[⟨w.heap.size,5,true,(rfl4_v1 s)⟩],[],w.heap.size + 1⟩ ?_
 refine hcp (i6 (sumI (headI s.size ++ intsOf s))) 49 [sT ((bytesI ([87,76,(s.size:Int) % 256,(s.size:Int) / 256])) ++ s)] (some 22) [] tI rfl (fun wx hm=>by have h:=rsum_any (bytesI [87,76,(s.size:Int) % 256,(s.size:Int) / 256] ++ s) (by simp only [ByteArray.size_append,size_bytesI]; simp; omega) wx; rw [sum_text s (by omega)] at h; exact h) fun z4 hz4=>?_
 replace hz4:w.heap.size + 1 ≤ z4:=hz4
 refine hgE 19 [oh0,oh0,oh0,oh2,oh2,oh0,oh2,oh2,oh2,oh0,oh2,oh2,oh0] [2,3,23,34] [oE ((0:Int) ≤ (sumI (headI s.size ++ intsOf s)) ∧ (0:Int) < 65536 ∧ (sumI (headI s.size ++ intsOf s)) ≤ IntKind.max .i64) (⟨by omega,by omega,le_max64 (by omega)⟩),n8 (((sumI (headI s.size ++ intsOf s)) / 65536)),oE ((0:Int) ≤ (sumI (headI s.size ++ intsOf s)) ∧ (0:Int) < 256 ∧ (sumI (headI s.size ++ intsOf s)) ≤ IntKind.max .i64) (⟨by omega,by omega,le_max64 (by omega)⟩),oE ((0:Int) ≤ ((sumI (headI s.size ++ intsOf s)) / 256) ∧ (0:Int) < 256),n8 ((((sumI (headI s.size ++ intsOf s)) / 256) % 256)),oE ((0:Int) ≤ (sumI (headI s.size ++ intsOf s)) ∧ (0:Int) < 256),n8 (((sumI (headI s.size ++ intsOf s)) % 256))] [] [.ops [1,1,1,1,1,0] [12,13,14,15],.code [1,1,1,1,1,1]] ⟨[(2,sT ⟨#[]⟩),(3,i6 0),(23,sT ((bytesI ([87,76,(s.size:Int) % 256,(s.size:Int) / 256])) ++ s)),(34,.slice (some ⟨z4,0,none⟩) 3 3)],[⟨w.heap.size,5,true,(rfl4_v1 s)⟩,⟨z4,5,true,(rfl4_v2 s)⟩],[],z4 + 1⟩ ?_
 refine holds_opR (dst:=(some 35)) (x:=convert 50 9 (.slice (some ⟨z4,0,none⟩) 3 3)) (.string (bytesI ([(sumI (headI s.size ++ intsOf s)) / 65536,(sumI (headI s.size ++ intsOf s)) / 256 % 256,(sumI (headI s.size ++ intsOf s)) % 256]))) (by kernel_rfl) (by kernel_rfl) rfl (fun wx hm=>?_) ?_
 ·exact run_bytesAt (P:=Try.prog) wx 50 9 5 _ _ _ _ _ ([(sumI (headI s.size ++ intsOf s)) / 65536,(sumI (headI s.size ++ intsOf s)) / 256 % 256,(sumI (headI s.size ++ intsOf s)) % 256]) ([]) [] (by kernel_rfl) (by kernel_rfl) (by kernel_rfl) (hm.at_ 1 rfl) rfl rfl (byts_tail3 hsb)
 refine hgE 7 [oh2,oh0,oh0] [2,3] [oE ((((((bytesI ([87,76,(s.size:Int) % 256,(s.size:Int) / 256])) ++ s)).size + ((bytesI ([(sumI (headI s.size ++ intsOf s)) / 65536,(sumI (headI s.size ++ intsOf s)) / 256 % 256,(sumI (headI s.size ++ intsOf s)) % 256]))).size:Nat):Int) ≤ 9223372036854775807) (by simp only [ByteArray.size_append,size_bytesI]; simp; omega)] [] [.code [1,1,1,1,1,1]] ⟨[(2,sT (((bytesI ([87,76,(s.size:Int) % 256,(s.size:Int) / 256])) ++ s) ++ (bytesI ([(sumI (headI s.size ++ intsOf s)) / 65536,(sumI (headI s.size ++ intsOf s)) / 256 % 256,(sumI (headI s.size ++ intsOf s)) % 256])))),(3,i6 0)],[⟨w.heap.size,5,true,(rfl4_v1 s)⟩,⟨z4,5,true,(rfl4_v2 s)⟩],[],z4 + 1⟩ ?_
 refine hrt [] [sT (((bytesI ([87,76,(s.size:Int) % 256,(s.size:Int) / 256])) ++ s) ++ (bytesI ([(sumI (headI s.size ++ intsOf s)) / 65536,(sumI (headI s.size ++ intsOf s)) / 256 % 256,(sumI (headI s.size ++ intsOf s)) % 256]))),i6 0] [] ?_
 intro wx hm
 refine ⟨?_,hm.kept⟩
 rw [← frame_text s (by omega)]
 rfl
theorem open_bad {s:ByteArray} (h:openOk s = false):(.tuple #[.string ⟨#[]⟩,.int .i64 40]:Value) = .tuple #[.string (bif openOk s then openT s else noText),.int .i64 (bif openOk s then 0 else 40)]:=by rw [h]; rfl
theorem open_good {s:ByteArray} (h:openOk s = true):(.tuple #[.string (openT s),.int .i64 0]:Value) = .tuple #[.string (bif openOk s then openT s else noText),.int .i64 (bif openOk s then 0 else 40)]:=by rw [h]; rfl
set_option maxRecDepth 100000 in
set_option maxHeartbeats 4000000 in
theorem refOpen_any (s:ByteArray) (hs:(s.size:Int) ≤ 9223372036854775807) (w:World) :
  Calls Try.prog 29 #[.string s] w (RetK (.tuple #[.string (bif openOk s then openT s else noText),.int .i64 (bif openOk s then 0 else 40)]) w):=by
 refine calls_of_holds (S:=(fun _=>False)) (l:=[.string s]) (n:=33) Try.func29 (body_of (by kernel_rfl)) rfl (by simp) (MemOk.none w _) ?_
 have hsz:(s.size:Int) ≤ 9223372036854775807:=hs
 by_cases h7:s.size < 7
 ·skip
  refine hgE 26 [oh0,oh0,oh0,oh0,oh0,oh0,oh1,oh1,oh1,oh3,oh1,oh0,oh0] [0,2,3] [dT (((s.size:Int):Int) < 7),dT (((s.size:Int):Int) < 7),dT (((s.size:Int):Int) < 7),dT (((s.size:Int):Int) < 7),tT] [] [.code [1,0,1,0,1],.code [1,1]] ⟨[(0,sT s),(2,sT ⟨#[]⟩),(3,i6 40)],[],[],w.heap.size⟩ ?_
  refine hrt [] [sT ⟨#[]⟩,i6 40] [] ?_
  intro wx hm
  exact ⟨congrArg _ (open_bad (by unfold openOk; rw [decide_eq_false (show ¬ 7 ≤ s.size by omega)]; rfl)),hm.kept⟩
 by_cases h8:s.size > 807
 ·skip
  refine hgE 26 [oh0,oh0,oh0,oh0,oh0,oh0,oh0,oh0,oh0,⟨false,3,[]⟩,oh1,oh0,oh0] [0,2,3] [dF (((s.size:Int):Int) < 7),dF (((s.size:Int):Int) < 7),dF (((s.size:Int):Int) < 7),dF (((s.size:Int):Int) < 7),dT (((s.size:Int):Int) > 807)] [] [.code [1,0,1,0,1],.code [1,1]] ⟨[(0,sT s),(2,sT ⟨#[]⟩),(3,i6 40)],[],[],w.heap.size⟩ ?_
  refine hrt [] [sT ⟨#[]⟩,i6 40] [] ?_
  intro wx hm
  exact ⟨congrArg _ (open_bad (by unfold openOk; rw [decide_eq_false (show ¬ s.size ≤ 807 by omega),Bool.and_false]; rfl)),hm.kept⟩
 have hoo:=openOk_frame (s:=s) (by omega)
 refine hgE 34 [oh0,oh0,oh0,oh0,oh0,oh0,oh0,oh0,oh0,⟨false,3,[]⟩,oh0,oh0,oh0,oh0,oh2,oh2,oh0,oh0] [0,2,3,4,21] [dF (((s.size:Int):Int) < 7),dF (((s.size:Int):Int) < 7),dF (((s.size:Int):Int) < 7),dF (((s.size:Int):Int) < 7),dF (((s.size:Int):Int) > 807),n64 (((s.size:Int) - 3)),oE ((0:Int) ≤ 4 ∧ (4:Int) ≤ ((s.size:Int) - 3) ∧ ((s.size:Int) - 3) ≤ ((s).size:Int))] [] [.ops [1,1,1,0] [1,2,3,4,5,6],.code [1,1,1,1]] ⟨[(0,sT s),(2,sT ⟨#[]⟩),(3,i6 0),(4,sT (ByteArray.extract s 4 (Int.toNat ((s.size:Int) - 3)))),(21,sT (ByteArray.extract s 4 (Int.toNat ((s.size:Int) - 3))))],[],[],w.heap.size⟩ ?_
 have eX:ByteArray.extract s 4 (Int.toNat ((s.size:Int) - 3)) = openT s:=by unfold openT; congr 1 <;> omega
 refine hcp (.tuple #[sT (frameT (openT s)),i6 0]) 25 [sT (ByteArray.extract s 4 (Int.toNat ((s.size:Int) - 3)))] (some 22) [] tI rfl (fun wx hm=>by rw [eX]; exact refFrame_ok (openT s) (by unfold openT; rw [ByteArray.size_extract]; omega) wx) fun z6 hz6=>?_
 replace hz6:w.heap.size ≤ z6:=hz6
 rcases Bool.eq_false_or_eq_true (ByteArray.toList (frameT (openT s)) == ByteArray.toList s) with he | he
 ·skip
  refine hgE 28 [oh0,oh0,oh0,oh0,oh0,oh0,oh0,oh0,oh0,oh0,oh0,⟨false,3,[]⟩,oh0,oh0,oh0,oh0] [2,3] [fF,fF,fF,fF,eD (nF he)] [] [.code [1,1,1,1,1,1]] ⟨[(2,sT (ByteArray.extract s 4 (Int.toNat ((s.size:Int) - 3)))),(3,i6 0)],[],[],z6⟩ ?_
  refine hrt [] [sT (ByteArray.extract s 4 (Int.toNat ((s.size:Int) - 3))),i6 0] [] ?_
  intro wx hm
  rw [he] at hoo
  exact ⟨congrArg _ (by rw [eX]; exact open_good hoo),hm.kept⟩
 ·skip
  refine hgE 26 [oh0,oh0,oh0,oh0,oh0,oh0,oh0,oh0,oh0,oh0,oh0,⟨false,3,[]⟩,oh1,oh0,oh0] [2,3,4] [fF,fF,fF,fF,eD (nT he)] [] [.code [1,1,1,1,0,1,0,1],.code [1,1,1,1,1]] ⟨[(2,sT ⟨#[]⟩),(3,i6 40),(4,sT (ByteArray.extract s 4 (Int.toNat ((s.size:Int) - 3))))],[],[],z6⟩ ?_
  refine hrt [] [sT ⟨#[]⟩,i6 40] [] ?_
  intro wx hm
  rw [he] at hoo
  exact ⟨congrArg _ (open_bad hoo),hm.kept⟩
end Go.Proofs.Ytkffgdfbdmgncaa
