import Derived.Test.YtkffgdfbdmgncaaTlv12
namespace Go.Proofs.Ytkffgdfbdmgncaa
open Go.RowKit
set_option maxRecDepth 100000 in
set_option maxHeartbeats 4000000 in
theorem refNum_bad (n:Int) (hi:-9223372036854775808 ≤ n ∧ n ≤ 9223372036854775807) (h:n < -1 ∨ 1099511627776 < n) (w:World) :
  Calls Try.prog 46 #[.int .i64 n] w (RetK (.tuple #[.string ⟨#[]⟩,.int .i64 30]) w):=by
 refine calls_of_holds (S:=(fun _=>False)) (l:=[.int .i64 n]) (n:=26) Try.func46 (body_of (by kernel_rfl)) rfl (by simp) (MemOk.none w _) ?_
 rcases h with h | h
 ·skip
  refine hgE 24 [oh0,oh0,oh0,oh0,oh0,oh1,oh1,oh3,oh1,oh0,oh0] [0,2,3] [dT ((n:Int) < (-1)),dT ((n:Int) < (-1)),dT ((n:Int) < (-1)),tT] [] [.code [1,0,1,0,1],.code [1,1]] ⟨[(0,i6 n),(2,sT ⟨#[]⟩),(3,i6 30)],[],[],w.heap.size⟩ ?_
  refine hrt [] [sT ⟨#[]⟩,i6 30] [] ?_
  intro wx hm
  exact ⟨rfl,hm.kept⟩
 ·skip
  refine hgE 24 [oh0,oh0,oh0,oh0,oh0,oh0,oh0,⟨false,3,[]⟩,oh1,oh0,oh0] [0,2,3] [dF ((n:Int) < (-1)),dF ((n:Int) < (-1)),dF ((n:Int) < (-1)),dT ((n:Int) > 1099511627776)] [] [.code [1,0,1,0,1],.code [1,1]] ⟨[(0,i6 n),(2,sT ⟨#[]⟩),(3,i6 30)],[],[],w.heap.size⟩ ?_
  refine hrt [] [sT ⟨#[]⟩,i6 30] [] ?_
  intro wx hm
  exact ⟨rfl,hm.kept⟩
def RnuI (n:Int) (w:World) (m:Nat) (st:St) (W1:World):Prop:=∃ (A:Option Addr) (k cp:Nat) (L:List Int) (z:Nat),k = L.length ∧ k ≤ 8 ∧ m ≤ 1099511627777 ∧ m < 256 ^ (8 - k) ∧ Byts L ∧ L ++ digF (8 - k) m = numI n ∧ OwnR W1 w.heap.size 5 1 A k cp (intsV L) ∧ st = ⟨[(2,sT ⟨#[]⟩),(3,i6 0),(4,.slice A k cp),(5,i6 (m:Int))],[],[],z⟩
set_option maxRecDepth 100000 in
set_option maxHeartbeats 4000000 in
theorem refNum_ok (n:Int) (h:-1 ≤ n ∧ n ≤ 1099511627776) (w:World) :
  Calls Try.prog 46 #[.int .i64 n] w (RetK (.tuple #[.string (numT n),.int .i64 0]) w):=by
 refine calls_of_holds (S:=(fun _=>False)) (l:=[.int .i64 n]) (n:=26) Try.func46 (body_of (by kernel_rfl)) rfl (by simp) (MemOk.none w _) ?_
 refine hgE 32 [oh0,oh0,oh0,oh0,oh0,oh0,oh0,⟨false,3,[]⟩,oh0,oh0,oh0,oh2,oh0] [2,3,4,5] [dF ((n:Int) < (-1)),dF ((n:Int) < (-1)),dF ((n:Int) < (-1)),dF ((n:Int) > 1099511627776),n64 ((n + 1))] [] [.code [1,1,1,0,1,0],.blk 0,.code [1,1,1,1]] ⟨[(2,sT ⟨#[]⟩),(3,i6 0),(4,.slice none 0 0),(5,i6 (n + 1))],[],[],w.heap.size⟩ ?_
 obtain ⟨m0,hm0⟩:∃ m0:Nat,n + 1 = (m0:Int):=⟨(n + 1).toNat,by omega⟩
 have h256:m0 < 256 ^ (8 - 0):=by
  have:(256:Nat) ^ (8 - 0) = 18446744073709551616:=by decide
  omega
 rw [hm0]
 refine holds_loopW (w:=w) (S':=fun _=>False) (RnuI n w) m0 (by kernel_rfl) (fun W1 hm=>⟨⟨none,0,0,[],_,rfl,by omega,by omega,h256,fun _ h=>(by cases h),(by unfold numI digN; rw [hm0]; rfl),OwnR.nil _ _ _ _,rfl⟩,hm⟩) ?_
 rintro m _ W1 ⟨A,k,cp,L,z,hk,hk8,hm0b,hmb,hbL,hL,hO,rfl⟩ hm1 J hJ
 by_cases h1:0 < m
 rotate_left
 ·skip
  refine hgE 14 [oh0,oh0,oh0,oh0] [2,3,24] [dF (((m:Int):Int) > 0)] [] [.ops [1,1,1,1,0] [1,2,3],.code [1,1,1,1,1]] ⟨[(2,sT ⟨#[]⟩),(3,i6 0),(24,.slice A k cp)],[],[],W1.heap.size⟩ ?_
  refine holds_opR (dst:=(some 25)) (x:=convert 50 9 (.slice A k cp)) (.string (bytesI L)) (by kernel_rfl) (by kernel_rfl) rfl (fun wx hm=>?_) ?_
  ·exact run_bytesR (P:=Try.prog) wx w.heap.size 50 9 5 A k cp L (by kernel_rfl) (by kernel_rfl) (by kernel_rfl) (hO.kept hm.kept (hO.calm hm1 (by simp))) hbL
  refine hgE 6 [oh0,oh0] [2,3] [] [] [.code [1,1,1,1,1]] ⟨[(2,sT (bytesI L)),(3,i6 0)],[],[],W1.heap.size⟩ ?_
  refine hrt [] [sT (bytesI L),i6 0] [] ?_
  intro wx hm
  obtain rfl:m = 0:=by omega
  refine ⟨?_,(MemOk.bck hm1 hm).kept⟩
  rw [digF_zero,List.append_nil] at hL
  unfold numT
  rw [← hL]
  rfl
 have hk7:k < 8:=by
  rcases Nat.lt_or_ge k 8 with h | h
  ·exact h
  ·have:8 - k = 0:=by omega
   rw [this] at hmb
   omega
 have hn1:8 - k = (8 - (k + 1)) + 1:=by omega
 have hm2:m / 256 < 256 ^ (8 - (k + 1)):=by rw [hn1,Nat.pow_succ] at hmb; omega
 have hL2:(L ++ [((m % 256:Nat):Int)]) ++ digF (8 - (k + 1)) (m / 256) = numI n:=by
  rw [← hL,hn1]
  show _ = L ++ (if m = 0 then [] else ((m % 256:Nat):Int) :: digF (8 - (k + 1)) (m / 256))
  rw [if_neg (by omega),List.append_assoc]
  rfl
 refine hgE 19 [oh0,oh0,oh1,oh0,oh0,oh2,oh3,oh0] [2,3,4,5,18,22] [dT (((m:Int):Int) > 0),oE ((0:Int) ≤ (m:Int) ∧ (0:Int) < 256),vV] [] [.ops [1,1,1,0,1,0,0,1,0,0] [5,6],.blk 1,.code [1,1,1,0,1,0,0,1,1],.inv J,.blk 0,.code [1,1,1,1]] ⟨[(2,sT ⟨#[]⟩),(3,i6 0),(4,.slice A k cp),(5,i6 (m:Int)),(18,.slice A k cp),(22,.slice (some ⟨W1.heap.size,0,none⟩) 1 1)],[⟨W1.heap.size,5,true,[u6 (((m:Int) % 256) % 256)]⟩],[],W1.heap.size + 1⟩ ?_
 refine holds_opV (w:=w) (S':=(fun _=>False)) (Y:=Option Addr × Nat) (dst:=(some 23)) (x:=Builtin.append_ #[50,50] 50 #[.slice A k cp,.slice (some ⟨W1.heap.size,0,none⟩) 1 1]) (fun yq=>.slice yq.1 (k + 1) yq.2) [] (fun yq W_=>OwnR W_ w.heap.size 5 1 yq.1 (k + 1) yq.2 ((intsV L) ++ [.int .u8 (((m:Int) % 256) % 256)])) (fun yq=>[(23,.slice yq.1 (k + 1) yq.2),(2,.string ⟨#[]⟩),(3,.int .i64 0),(4,.slice A k cp),(5,.int .i64 (m:Int)),(18,.slice A k cp),(22,.slice (some ⟨W1.heap.size,0,none⟩) 1 1)]) (by kernel_rfl) (by kernel_rfl) (fun _=>rfl) (fun wx hm=>?_) (fun yq W41 hX41 hm41=>?_)
 ·have hO_:=(hO.kept hm.kept (hO.calm hm1 (by simp)))
  obtain ⟨A',cp',w',h1,h2,h3,_⟩:=run_appendR (P:=Try.prog) wx w.heap.size 50 50 5 (.int .u8 0) 1 1 A k cp (intsV L) ⟨W1.heap.size,0,none⟩ 1 1 [.int .u8 (((m:Int) % 256) % 256)] (by kernel_rfl) (by kernel_rfl) (by kernel_rfl) (by decide) hO_ rfl (fun j x hj=>by rw [add_norm,Nat.zero_add]; exact (hm.at_ 0 rfl).at_ hj) (ones_all (by kernel_rfl)) (by omega) (by decide) (MemOk.bck hm1 hm).kept.size
  refine ⟨(A',cp'),w',h1,h2,((MemOk.bck hm1 hm).none_).offA (fun _ h=>h) h3 (fun x hx=>.inr (hO_.own x hx).1) (by intro b hb; simp at hb)⟩
 obtain ⟨A41,c41⟩:=yq
 replace hX41:OwnR W41 w.heap.size 5 1 A41 (k + 1) c41 ((intsV L) ++ [.int .u8 (((m:Int) % 256) % 256)]):=hX41
 refine hgE 11 [oh0,oh0,oh2,oh0] [2,3,4,5] [oE ((0:Int) ≤ (m:Int) ∧ (0:Int) < 256 ∧ (m:Int) ≤ IntKind.max .i64) (⟨by omega,by omega,le_max64 (by omega)⟩)] [] [.inv J,.blk 0,.code [1,1,1,1]] ⟨[(2,sT ⟨#[]⟩),(3,i6 0),(4,.slice A41 (k + 1) c41),(5,i6 ((m:Int) / 256))],[],[],W41.heap.size⟩ ?_
 intro a_ w4 hf hm
 have e1:((m:Int) / 256) = ((m / 256:Nat):Int):=by omega
 have e2:((m:Int) % 256) = ((m % 256:Nat):Int):=by omega
 have e3:(((m % 256:Nat):Int) % 256) = ((m % 256:Nat):Int):=by omega
 rw [e1] at hf
 exact hJ (m / 256) _ a_ w4 (by omega) ⟨_,_,_,L ++ [((m % 256:Nat):Int)],_,by simp [hk],by omega,by omega,hm2,hbL.append (fun x hx=>by simp at hx; omega),hL2,by
  have h:=hX41.kept hm.kept (hX41.calm hm41 (by simp))
  rw [e2] at h
  try rw [e3] at h
  simpa [intsV] using h,rfl⟩ hf (MemOk.bck hm41 hm)
theorem drop_byte (s:ByteArray) {i:Nat} (h:i < s.size):(intsOf s).drop i = byteAt s i :: (intsOf s).drop (i + 1):=by
 have h1:i < (intsOf s).length:=by rw [length_intsOf]; exact h
 rw [List.drop_eq_getElem_cons h1,byteAt_eq,List.getElem?_eq_getElem h1]
 rfl
theorem val_drop_bd (s:ByteArray) (i:Nat) (h:s.size ≤ 6 + i):0 ≤ valL ((intsOf s).drop i) ∧ valL ((intsOf s).drop i) < 281474976710656:=by
 have hb:Byts ((intsOf s).drop i):=fun n hn=>byts_intsOf s n (List.mem_of_mem_drop hn)
 have h1:=val_bd _ hb
 have h2:((intsOf s).drop i).length ≤ 6:=by rw [List.length_drop,length_intsOf]; omega
 have h3:(256:Nat) ^ ((intsOf s).drop i).length ≤ 256 ^ 6:=Nat.pow_le_pow_right (by omega) h2
 have h4:(256:Nat) ^ 6 = 281474976710656:=by decide
 refine ⟨val_nn _ hb,Int.lt_of_lt_of_le h1 ?_⟩
 rw [h4] at h3
 exact Int.ofNat_le.2 h3
theorem getOk_num {s:ByteArray} (h:getV s ≤ 1099511627776):getOk s = (ByteArray.toList (numT (getV s)) == ByteArray.toList s):=by
 rw [toList_beq]
 have hv:-1 ≤ getV s:=by
  have:=val_nn _ (byts_intsOf s)
  unfold getV
  omega
 by_cases hg:getOk s = true
 ·rw [hg,decide_eq_true (num_get hg).1]
 ·rw [Bool.not_eq_true] at hg
  rw [hg]
  symm
  refine decide_eq_false (fun e=>?_)
  have:=(get_num ⟨hv,h⟩).1
  rw [e,hg] at this
  cases this
def RgtI (s:ByteArray) (z0:Nat) (m:Nat) (st:St):Prop:=∃ z:Nat,m ≤ s.size ∧ z0 ≤ z ∧ st = ⟨[(0,sT s),(2,i6 0),(3,i6 0),(4,i6 (valL ((intsOf s).drop m))),(5,i6 ((m:Int) - 1))],[],[],z⟩
set_option maxRecDepth 100000 in
set_option maxHeartbeats 4000000 in
theorem refGet_any (s:ByteArray) (hs:(s.size:Int) ≤ 9223372036854775807) (w:World) :
  Calls Try.prog 31 #[.string s] w (RetK (.tuple #[.int .i64 (getI s),.int .i64 (getE s)]) w):=by
 refine calls_of_holds (S:=(fun _=>False)) (l:=[.string s]) (n:=40) Try.func31 (body_of (by kernel_rfl)) rfl (by simp) (MemOk.none w _) ?_
 have hsz:(s.size:Int) ≤ 9223372036854775807:=hs
 by_cases h6:6 < s.size
 ·skip
  refine hgE 21 [oh0,oh0,oh0,oh0,oh0,oh1,oh0,oh0] [0,2,3] [dT (((s.size:Int):Int) > 6)] [] [.code [1,0,1,0,1],.code [1,1]] ⟨[(0,sT s),(2,i6 0),(3,i6 30)],[],[],w.heap.size⟩ ?_
  refine hrt [] [i6 0,i6 30] [] ?_
  intro wx hm
  exact ⟨congrArg _ (get_bad (by unfold getOk; rw [decide_eq_false (by omega)]; rfl)),hm.kept⟩
 refine hgE 30 [oh0,oh0,oh0,oh0,oh0,oh0,oh0,oh0,oh0,oh2,oh0] [0,2,3,4,5] [dF (((s.size:Int):Int) > 6),n64 (((s.size:Int) - 1))] [] [.code [1,1,1,0,1,0],.blk 0,.code [1,1,1,1]] ⟨[(0,sT s),(2,i6 0),(3,i6 0),(4,i6 0),(5,i6 ((s.size:Int) - 1))],[],[],w.heap.size⟩ ?_
 have e0:valL ((intsOf s).drop s.size) = 0:=by rw [List.drop_of_length_le (by rw [length_intsOf]; exact Nat.le_refl _)]; rfl
 refine holds_loop (RgtI s w.heap.size) s.size (by kernel_rfl) ⟨w.heap.size,Nat.le_refl _,Nat.le_refl _,by rw [e0]⟩ ?_
 rintro m _ ⟨z,hmi,hz,rfl⟩ J hJ
 have hv:=val_drop_bd s m (by omega)
 rcases Nat.eq_zero_or_pos m with h0 | h0
 rotate_left
 ·skip
  have hb:=byteAt_bd s (Int.toNat ((m:Int) - 1))
  have hv1:=val_drop_bd s (m - 1) (by omega)
  have em:Int.toNat ((m:Int) - 1) = m - 1:=by omega
  have ed:valL ((intsOf s).drop (m - 1)) = 256 * valL ((intsOf s).drop m) + byteAt s (Int.toNat ((m:Int) - 1)):=by
   rw [drop_byte s (by omega),em,show m - 1 + 1 = m by omega]
   show byteAt s (m - 1) + 256 * _ = _
   omega
  rw [ed] at hv1
  refine hgE 29 [oh0,oh0,oh1,oh0,oh2,oh0,oh0,oh2,oh2,oh2,oh0,oh0,oh2,oh0] [0,2,3,4,5] [dT ((((m:Int) - 1):Int) ≥ 0),n64 ((256 * (valL ((intsOf s).drop m)))),oE ((0:Int) ≤ ((m:Int) - 1) ∧ ((m:Int) - 1) < ((s).size:Int)),n64 ((byteAt s (Int.toNat ((m:Int) - 1)))),n64 (((256 * (valL ((intsOf s).drop m))) + (byteAt s (Int.toNat ((m:Int) - 1))))),n64 ((((m:Int) - 1) - 1))] [] [.inv J,.blk 0,.code [1,1,1,1]] ⟨[(0,sT s),(2,i6 0),(3,i6 0),(4,i6 ((256 * (valL ((intsOf s).drop m))) + (byteAt s (Int.toNat ((m:Int) - 1))))),(5,i6 (((m:Int) - 1) - 1))],[],[],z⟩ ?_
  rw [← ed,show (m:Int) - 1 - 1 = ((m - 1:Nat):Int) - 1 by omega]
  exact hJ (m - 1) _ (by omega) ⟨z,by omega,by omega,rfl⟩
 subst h0
 have ev:valL ((intsOf s).drop 0) - 1 = getV s:=by rw [List.drop_zero]; rfl
 have hgv:-1 ≤ getV s ∧ getV s < 281474976710656:=by omega
 by_cases h2:1099511627776 < getV s
 ·skip
  refine hgE 15 [oh0,oh0,oh0,oh0,oh2] [0,2,3,4,27] [dF (((((0:Nat):Int) - 1):Int) ≥ 0),n64 (((valL ((intsOf s).drop 0)) - 1))] [] [.ops [1,1,1,1,0] [2,3,4,5,6,7],.code [1,1,1,1,1]] ⟨[(0,sT s),(2,i6 0),(3,i6 0),(4,i6 (valL ((intsOf s).drop 0))),(27,i6 ((valL ((intsOf s).drop 0)) - 1))],[],[],z⟩ ?_
  refine hcp (.tuple #[sT ⟨#[]⟩,i6 30]) 46 [i6 ((valL ((intsOf s).drop 0)) - 1)] (some 28) [] tI rfl (fun wx hm=>refNum_bad _ (by omega) (by omega) wx) fun z6 hz6=>?_
  replace hz6:z ≤ z6:=hz6
  refine hgE 26 [oh0,oh0,oh0,oh0,oh0,oh0,oh0,oh0,oh1,oh1,oh1,oh3,oh1,oh0,oh0] [2,3,4] [tT,tT,tT,tT,tT] [] [.code [1,1,1,1,1,0,1,0,1],.code [1,1,1,1,1,1]] ⟨[(2,i6 0),(3,i6 30),(4,i6 (valL ((intsOf s).drop 0)))],[],[],z6⟩ ?_
  refine hrt [] [i6 0,i6 30] [] ?_
  intro wx hm
  exact ⟨congrArg _ (get_bad (by unfold getOk; rw [decide_eq_false (p:=getV s ≤ 1099511627776) (by omega),Bool.and_false])),hm.kept⟩
 have hgk:=getOk_num (s:=s) (by omega)
 refine hgE 15 [oh0,oh0,oh0,oh0,oh2] [0,2,3,4,27] [dF (((((0:Nat):Int) - 1):Int) ≥ 0),n64 (((valL ((intsOf s).drop 0)) - 1))] [] [.ops [1,1,1,1,0] [2,3,4,5,6,7],.code [1,1,1,1,1]] ⟨[(0,sT s),(2,i6 0),(3,i6 0),(4,i6 (valL ((intsOf s).drop 0))),(27,i6 ((valL ((intsOf s).drop 0)) - 1))],[],[],z⟩ ?_
 refine hcp (.tuple #[sT (numT (getV s)),i6 0]) 46 [i6 ((valL ((intsOf s).drop 0)) - 1)] (some 28) [] tI rfl (fun wx hm=>by have h:=refNum_ok (getV s) (by omega) wx; rw [← ev] at h ⊢; exact h) fun z10 hz10=>?_
 replace hz10:z ≤ z10:=hz10
 rcases Bool.eq_false_or_eq_true (ByteArray.toList (numT (getV s)) == ByteArray.toList s) with he | he
 ·skip
  refine hgE 29 [oh0,oh0,oh0,oh0,oh0,oh0,oh0,oh0,oh0,oh0,oh0,⟨false,3,[]⟩,oh0,oh0,oh2,oh0,oh0] [2,3] [fF,fF,fF,fF,eD (nF he),n64 (((valL ((intsOf s).drop 0)) - 1))] [] [.code [1,1,1,1,1,1,1]] ⟨[(2,i6 ((valL ((intsOf s).drop 0)) - 1)),(3,i6 0)],[],[],z10⟩ ?_
  refine hrt [] [i6 ((valL ((intsOf s).drop 0)) - 1),i6 0] [] ?_
  intro wx hm
  rw [he] at hgk
  exact ⟨congrArg _ (by rw [ev]; exact get_good hgk),hm.kept⟩
 ·skip
  refine hgE 26 [oh0,oh0,oh0,oh0,oh0,oh0,oh0,oh0,oh0,oh0,oh0,⟨false,3,[]⟩,oh1,oh0,oh0] [2,3,4] [fF,fF,fF,fF,eD (nT he)] [] [.code [1,1,1,1,1,0,1,0,1],.code [1,1,1,1,1,1]] ⟨[(2,i6 0),(3,i6 30),(4,i6 (valL ((intsOf s).drop 0)))],[],[],z10⟩ ?_
  refine hrt [] [i6 0,i6 30] [] ?_
  intro wx hm
  rw [he] at hgk
  exact ⟨congrArg _ (get_bad hgk),hm.kept⟩
end Go.Proofs.Ytkffgdfbdmgncaa
