import Derived.Test.YtfiheghjhgnblaaRightR8
import Derived.Test.YtfiheghjhgnblaaRuleL
import Derived.Test.YtfiheghjhgnblaaEngY
namespace Go.Proofs.Ytfiheghjhgnblaa
open Go.RowKit
set_option maxRecDepth 100000 in
set_option maxHeartbeats 4000000 in
theorem refNum_true (a:Int) (h:1 ≤ a ∧ a ≤ 16777215) (w:World) :
  Calls Try.prog 48 #[.int .i64 a] w (RetK (.bool true) w):=by
 refine calls_of_holds (S:=(fun _=>False)) (l:=[.int .i64 a]) (n:=9) Try.func48 (body_of (by kernel_rfl)) rfl (by simp) (MemOk.none w _) ?_
 refine hgE 17 [oh0,oh0,oh0,oh0,oh1,oh1,oh3,oh0] [2] [dT ((a:Int) ≥ 1),dT ((a:Int) ≥ 1),dT ((a:Int) ≥ 1)] [] [.code [1,1]] ⟨[(2,.bool (decide ((a:Int) ≤ 16777215)))],[],[],w.heap.size⟩ ?_
 refine hrt [] [.bool (decide ((a:Int) ≤ 16777215))] [] ?_
 intro wx hm
 exact ⟨ret_bool (decide_eq_true (by omega)),hm.kept⟩
set_option maxRecDepth 100000 in
set_option maxHeartbeats 4000000 in
theorem refNum_zero  (w:World) :
  Calls Try.prog 48 #[.int .i64 0] w (RetK (.bool false) w):=by
 refine calls_of_holds (S:=(fun _=>False)) (l:=[.int .i64 0]) (n:=9) Try.func48 (body_of (by kernel_rfl)) rfl (by simp) (MemOk.none w _) ?_
 refine hgE 17 [oh0,oh0,oh0,oh0,oh0,oh0,⟨false,3,[]⟩,oh0] [2] [fF,fF,fF] [] [.code [1,1]] ⟨[(2,.bool false)],[],[],w.heap.size⟩ ?_
 refine hrt [] [.bool false] [] ?_
 intro wx hm
 exact ⟨rfl,hm.kept⟩
def qr1_v1 (S:Int) (E:Int):List Value:=[i6 1,i6 S,i6 E] ++ rp 5 (i6 0) ++ [sT ⟨#[]⟩]
def qr1_v2 (S:Int):List Value:=[i6 1,i6 S] ++ rp 6 (i6 0) ++ [sT ⟨#[]⟩]
set_option maxRecDepth 100000 in
set_option maxHeartbeats 4000000 in
theorem refRight_1 (S E:Int) (hS:0 ≤ S ∧ S ≤ 7) (hE:1 ≤ E ∧ E ≤ 100) (w:World) :
  Calls Try.prog 30 #[.agg #[.int .i64 1,.int .i64 S,.int .i64 E,.int .i64 0,.int .i64 0,.int .i64 0,.int .i64 0,.int .i64 0,.string ⟨#[]⟩]] w (RetK (.bool true) w):=by
 refine calls_of_holds (S:=(fun _=>False)) (l:=[.agg (List.toArray (qr1_v1 S E))]) (n:=205) Try.func30 (body_of (by kernel_rfl)) rfl (by simp) (MemOk.none w _) ?_
 refine hgE 36 [oh0,oh0,oh0,(oA 0 1 1),oh0,oh0,oh0,(oA 0 1 1),oh0,⟨false,3,[]⟩,oh0,oh0,(oA 0 0 1),oh0,(oA 0 1 1),oh0,oh0,(oA 1 0 9),oh0,(oA 0 2 1)] [1,2,3,20] [dF ((S:Int) < 0),dF ((S:Int) < 0),dF ((S:Int) < 0),dF ((S:Int) < 0),dF ((S:Int) ≥ 8)] [(w.heap.size,1,1),(w.heap.size,1,1),(w.heap.size,0,1),(w.heap.size,1,1),(w.heap.size + 1,0,9),(w.heap.size,2,1)] [.ops [1,1,1,0] [2,3],.code [1,1,1,1]] ⟨[(1,(pt w.heap.size 0)),(2,.bool false),(3,(pt (w.heap.size + 1) 0)),(20,i6 E)],[⟨w.heap.size,35,true,(qr1_v1 S E)⟩,⟨w.heap.size + 1,35,true,(qr1_v2 S)⟩],[],w.heap.size + 2⟩ ?_
 refine hcp (.bool true) 48 [i6 E] (some 21) [] tI rfl (fun wx hm=>refNum_true _ (by omega) wx) fun z2 hz2=>?_
 replace hz2:w.heap.size + 2 ≤ z2:=hz2
 refine hgE 9 [oh0,oh0,(oA 0 3 1)] [1,2,3,4,23] [] [(w.heap.size,3,1)] [.ops [1,1,1,1,0] [2,3],.code [1,1,1,1,1]] ⟨[(1,(pt w.heap.size 0)),(2,.bool false),(3,(pt (w.heap.size + 1) 0)),(4,.bool true),(23,i6 0)],[⟨w.heap.size,35,true,(qr1_v1 S E)⟩,⟨w.heap.size + 1,35,true,(qr1_v2 S)⟩],[],z2⟩ ?_
 refine hcp (.bool false) 48 [i6 0] (some 24) [] tI rfl (fun wx hm=>refNum_zero wx) fun z4 hz4=>?_
 replace hz4:z2 ≤ z4:=hz4
 refine hgE 38 [oh0,oh0,(oA 0 0 1),oh0,oh0,oh1,oh1,oh0,(oA 0 2 1),oh0,(oA 1 2 1),oh0,oh0,⟨true,0,[⟨false,1,0,9⟩]⟩,⟨true,0,[⟨false,0,0,9⟩]⟩,⟨true,1,[]⟩,oh3,oh0] [2] [tT,tT,tT,tT,tT,vV,tT] [(w.heap.size,0,1),(w.heap.size,2,1),(w.heap.size + 1,2,1),(w.heap.size + 1,0,9),(w.heap.size,0,9)] [.code [1,1,1,1,1,0,1,0,1,0,1,1],.blk 0,.code [1,1,1,1,1,1]] ⟨[(2,.bool (((S:Int) == S) && (((E:Int) == E) && true)))],[⟨w.heap.size,35,true,(qr1_v1 S E)⟩,⟨w.heap.size + 1,35,true,(qr1_v1 S E)⟩],[],z4⟩ ?_
 refine hrt [] [.bool (((S:Int) == S) && (((E:Int) == E) && true))] [] ?_
 intro wx hm
 exact ⟨ret_bool (by simp),hm.kept⟩
def qr2_v1 (S:Int) (E:Int):List Value:=((qr1_v1 S E).set 0 (i6 2))
def qr2_v2 (S:Int):List Value:=((qr1_v2 S).set 0 (i6 2))
set_option maxRecDepth 100000 in
set_option maxHeartbeats 4000000 in
theorem refRight_2 (S E:Int) (hS:0 ≤ S ∧ S ≤ 7) (hE:1 ≤ E ∧ E ≤ 100) (w:World) :
  Calls Try.prog 30 #[.agg #[.int .i64 2,.int .i64 S,.int .i64 E,.int .i64 0,.int .i64 0,.int .i64 0,.int .i64 0,.int .i64 0,.string ⟨#[]⟩]] w (RetK (.bool true) w):=by
 refine calls_of_holds (S:=(fun _=>False)) (l:=[.agg (List.toArray (qr2_v1 S E))]) (n:=205) Try.func30 (body_of (by kernel_rfl)) rfl (by simp) (MemOk.none w _) ?_
 refine hgE 36 [oh0,oh0,oh0,(oA 0 1 1),oh0,oh0,oh0,(oA 0 1 1),oh0,⟨false,3,[]⟩,oh0,oh0,(oA 0 0 1),oh0,(oA 0 1 1),oh0,oh0,(oA 1 0 9),oh0,(oA 0 2 1)] [1,2,3,20] [dF ((S:Int) < 0),dF ((S:Int) < 0),dF ((S:Int) < 0),dF ((S:Int) < 0),dF ((S:Int) ≥ 8)] [(w.heap.size,1,1),(w.heap.size,1,1),(w.heap.size,0,1),(w.heap.size,1,1),(w.heap.size + 1,0,9),(w.heap.size,2,1)] [.ops [1,1,1,0] [2,3],.code [1,1,1,1]] ⟨[(1,(pt w.heap.size 0)),(2,.bool false),(3,(pt (w.heap.size + 1) 0)),(20,i6 E)],[⟨w.heap.size,35,true,(qr2_v1 S E)⟩,⟨w.heap.size + 1,35,true,(qr2_v2 S)⟩],[],w.heap.size + 2⟩ ?_
 refine hcp (.bool true) 48 [i6 E] (some 21) [] tI rfl (fun wx hm=>refNum_true _ (by omega) wx) fun z2 hz2=>?_
 replace hz2:w.heap.size + 2 ≤ z2:=hz2
 refine hgE 9 [oh0,oh0,(oA 0 3 1)] [1,2,3,4,23] [] [(w.heap.size,3,1)] [.ops [1,1,1,1,0] [2,3],.code [1,1,1,1,1]] ⟨[(1,(pt w.heap.size 0)),(2,.bool false),(3,(pt (w.heap.size + 1) 0)),(4,.bool true),(23,i6 0)],[⟨w.heap.size,35,true,(qr2_v1 S E)⟩,⟨w.heap.size + 1,35,true,(qr2_v2 S)⟩],[],z2⟩ ?_
 refine hcp (.bool false) 48 [i6 0] (some 24) [] tI rfl (fun wx hm=>refNum_zero wx) fun z4 hz4=>?_
 replace hz4:z2 ≤ z4:=hz4
 refine hgE 44 [oh0,oh0,(oA 0 0 1),oh0,oh0,oh0,oh0,oh0,oh1,oh1,oh0,(oA 0 2 1),oh0,(oA 1 2 1),oh0,oh0,⟨true,0,[⟨false,1,0,9⟩]⟩,⟨true,0,[⟨false,0,0,9⟩]⟩,⟨true,1,[]⟩,oh3,oh0] [2] [fF,tT,tT,tT,tT,tT,vV,tT] [(w.heap.size,0,1),(w.heap.size,2,1),(w.heap.size + 1,2,1),(w.heap.size + 1,0,9),(w.heap.size,0,9)] [.code [1,1,1,1,1,0,1,0,1,0,1,1],.blk 0,.code [1,1,1,1,1,1]] ⟨[(2,.bool (((S:Int) == S) && (((E:Int) == E) && true)))],[⟨w.heap.size,35,true,(qr2_v1 S E)⟩,⟨w.heap.size + 1,35,true,(qr2_v1 S E)⟩],[],z4⟩ ?_
 refine hrt [] [.bool (((S:Int) == S) && (((E:Int) == E) && true))] [] ?_
 intro wx hm
 exact ⟨ret_bool (by simp),hm.kept⟩
def qr3_v1 (S:Int) (E:Int):List Value:=((qr1_v1 S E).set 0 (i6 3))
def qr3_v2 (S:Int):List Value:=((qr1_v2 S).set 0 (i6 3))
set_option maxRecDepth 100000 in
set_option maxHeartbeats 4000000 in
theorem refRight_3 (S E:Int) (hS:0 ≤ S ∧ S ≤ 7) (hE:1 ≤ E ∧ E ≤ 100) (w:World) :
  Calls Try.prog 30 #[.agg #[.int .i64 3,.int .i64 S,.int .i64 E,.int .i64 0,.int .i64 0,.int .i64 0,.int .i64 0,.int .i64 0,.string ⟨#[]⟩]] w (RetK (.bool true) w):=by
 refine calls_of_holds (S:=(fun _=>False)) (l:=[.agg (List.toArray (qr3_v1 S E))]) (n:=205) Try.func30 (body_of (by kernel_rfl)) rfl (by simp) (MemOk.none w _) ?_
 refine hgE 36 [oh0,oh0,oh0,(oA 0 1 1),oh0,oh0,oh0,(oA 0 1 1),oh0,⟨false,3,[]⟩,oh0,oh0,(oA 0 0 1),oh0,(oA 0 1 1),oh0,oh0,(oA 1 0 9),oh0,(oA 0 2 1)] [1,2,3,20] [dF ((S:Int) < 0),dF ((S:Int) < 0),dF ((S:Int) < 0),dF ((S:Int) < 0),dF ((S:Int) ≥ 8)] [(w.heap.size,1,1),(w.heap.size,1,1),(w.heap.size,0,1),(w.heap.size,1,1),(w.heap.size + 1,0,9),(w.heap.size,2,1)] [.ops [1,1,1,0] [2,3],.code [1,1,1,1]] ⟨[(1,(pt w.heap.size 0)),(2,.bool false),(3,(pt (w.heap.size + 1) 0)),(20,i6 E)],[⟨w.heap.size,35,true,(qr3_v1 S E)⟩,⟨w.heap.size + 1,35,true,(qr3_v2 S)⟩],[],w.heap.size + 2⟩ ?_
 refine hcp (.bool true) 48 [i6 E] (some 21) [] tI rfl (fun wx hm=>refNum_true _ (by omega) wx) fun z2 hz2=>?_
 replace hz2:w.heap.size + 2 ≤ z2:=hz2
 refine hgE 9 [oh0,oh0,(oA 0 3 1)] [1,2,3,4,23] [] [(w.heap.size,3,1)] [.ops [1,1,1,1,0] [2,3],.code [1,1,1,1,1]] ⟨[(1,(pt w.heap.size 0)),(2,.bool false),(3,(pt (w.heap.size + 1) 0)),(4,.bool true),(23,i6 0)],[⟨w.heap.size,35,true,(qr3_v1 S E)⟩,⟨w.heap.size + 1,35,true,(qr3_v2 S)⟩],[],z2⟩ ?_
 refine hcp (.bool false) 48 [i6 0] (some 24) [] tI rfl (fun wx hm=>refNum_zero wx) fun z4 hz4=>?_
 replace hz4:z2 ≤ z4:=hz4
 refine hgE 50 [oh0,oh0,(oA 0 0 1),oh0,oh0,oh0,oh0,oh0,oh0,oh0,oh0,oh1,oh1,oh0,(oA 0 2 1),oh0,(oA 1 2 1),oh0,oh0,⟨true,0,[⟨false,1,0,9⟩]⟩,⟨true,0,[⟨false,0,0,9⟩]⟩,⟨true,1,[]⟩,oh3,oh0] [2] [fF,fF,tT,tT,tT,tT,tT,vV,tT] [(w.heap.size,0,1),(w.heap.size,2,1),(w.heap.size + 1,2,1),(w.heap.size + 1,0,9),(w.heap.size,0,9)] [.code [1,1,1,1,1,0,1,0,1,0,1,1],.blk 0,.code [1,1,1,1,1,1]] ⟨[(2,.bool (((S:Int) == S) && (((E:Int) == E) && true)))],[⟨w.heap.size,35,true,(qr3_v1 S E)⟩,⟨w.heap.size + 1,35,true,(qr3_v1 S E)⟩],[],z4⟩ ?_
 refine hrt [] [.bool (((S:Int) == S) && (((E:Int) == E) && true))] [] ?_
 intro wx hm
 exact ⟨ret_bool (by simp),hm.kept⟩
def qr4_v1 (S:Int) (E:Int) (Q:Int) (M:Int) (B:ByteArray):List Value:=[i6 4,i6 S,i6 E,i6 Q,i6 M,i6 0,i6 0,i6 0,sT B]
def qr4_v2 (S:Int):List Value:=((qr1_v2 S).set 0 (i6 4))
set_option maxRecDepth 100000 in
set_option maxHeartbeats 4000000 in
theorem refRight_4 (S E Q M:Int) (B:ByteArray) (hS:0 ≤ S ∧ S ≤ 7) (hE:1 ≤ E ∧ E ≤ 100) (hQ:1 ≤ Q ∧ Q ≤ 6) (hM:1 ≤ M ∧ M ≤ 63) (hB:B.size = 16) (w:World) :
  Calls Try.prog 30 #[.agg #[.int .i64 4,.int .i64 S,.int .i64 E,.int .i64 Q,.int .i64 M,.int .i64 0,.int .i64 0,.int .i64 0,.string B]] w (RetK (.bool true) w):=by
 refine calls_of_holds (S:=(fun _=>False)) (l:=[.agg (List.toArray (qr4_v1 S E Q M B))]) (n:=205) Try.func30 (body_of (by kernel_rfl)) rfl (by simp) (MemOk.none w _) ?_
 refine hgE 36 [oh0,oh0,oh0,(oA 0 1 1),oh0,oh0,oh0,(oA 0 1 1),oh0,⟨false,3,[]⟩,oh0,oh0,(oA 0 0 1),oh0,(oA 0 1 1),oh0,oh0,(oA 1 0 9),oh0,(oA 0 2 1)] [1,2,3,20] [dF ((S:Int) < 0),dF ((S:Int) < 0),dF ((S:Int) < 0),dF ((S:Int) < 0),dF ((S:Int) ≥ 8)] [(w.heap.size,1,1),(w.heap.size,1,1),(w.heap.size,0,1),(w.heap.size,1,1),(w.heap.size + 1,0,9),(w.heap.size,2,1)] [.ops [1,1,1,0] [2,3],.code [1,1,1,1]] ⟨[(1,(pt w.heap.size 0)),(2,.bool false),(3,(pt (w.heap.size + 1) 0)),(20,i6 E)],[⟨w.heap.size,35,true,(qr4_v1 S E Q M B)⟩,⟨w.heap.size + 1,35,true,(qr4_v2 S)⟩],[],w.heap.size + 2⟩ ?_
 refine hcp (.bool true) 48 [i6 E] (some 21) [] tI rfl (fun wx hm=>refNum_true _ (by omega) wx) fun z2 hz2=>?_
 replace hz2:w.heap.size + 2 ≤ z2:=hz2
 refine hgE 9 [oh0,oh0,(oA 0 3 1)] [1,2,3,4,23] [] [(w.heap.size,3,1)] [.ops [1,1,1,1,0] [2,3],.code [1,1,1,1,1]] ⟨[(1,(pt w.heap.size 0)),(2,.bool false),(3,(pt (w.heap.size + 1) 0)),(4,.bool true),(23,i6 Q)],[⟨w.heap.size,35,true,(qr4_v1 S E Q M B)⟩,⟨w.heap.size + 1,35,true,(qr4_v2 S)⟩],[],z2⟩ ?_
 refine hcp (.bool true) 48 [i6 Q] (some 24) [] tI rfl (fun wx hm=>refNum_true _ (by omega) wx) fun z4 hz4=>?_
 replace hz4:z2 ≤ z4:=hz4
 refine hgE 99 [oh0,oh0,(oA 0 0 1),oh0,oh0,oh0,oh0,oh0,oh0,oh0,oh0,oh0,oh0,oh0,oh0,oh0,oh0,oh1,oh0,(oA 0 2 1),oh0,(oA 1 2 1),oh0,(oA 0 3 1),oh0,(oA 1 3 1),oh0,(oA 0 4 1),oh0,(oA 1 4 1),oh0,(oA 0 8 1),oh0,(oA 1 8 1),oh0,oh0,oh1,oh3,oh0,oh1,⟨true,0,[⟨false,0,4,1⟩]⟩,oh1,oh3,oh0,oh1,⟨true,0,[⟨false,0,4,1⟩]⟩,oh1,oh3,oh0,oh1,⟨true,0,[⟨false,0,8,1⟩]⟩,oh1,oh1,oh3,oh0,⟨true,0,[⟨false,1,0,9⟩]⟩,⟨true,0,[⟨false,0,0,9⟩]⟩,⟨true,1,[]⟩,oh3,oh0] [2] [fF,fF,fF,fF,tT,tT,tT,tT,tT,tT,tT,dT ((M:Int) ≥ 1),dT ((M:Int) ≥ 1),dT ((M:Int) ≥ 1),dT ((M:Int) ≥ 1),dT ((M:Int) ≤ 63),dT ((M:Int) ≤ 63),dT ((M:Int) ≤ 63),dT ((M:Int) ≤ 63),dT ((M:Int) ≤ 63),oE (((B.size:Int) == 16) = true) (by rw [hB]; rfl),oE (((B.size:Int) == 16) = true) (by rw [hB]; rfl),oE (((B.size:Int) == 16) = true) (by rw [hB]; rfl),vV,oE (((B.size:Int) == 16) = true) (by rw [hB]; rfl)] [(w.heap.size,0,1),(w.heap.size,2,1),(w.heap.size + 1,2,1),(w.heap.size,3,1),(w.heap.size + 1,3,1),(w.heap.size,4,1),(w.heap.size + 1,4,1),(w.heap.size,8,1),(w.heap.size + 1,8,1),(w.heap.size,4,1),(w.heap.size,4,1),(w.heap.size,8,1),(w.heap.size + 1,0,9),(w.heap.size,0,9)] [.code [1,1,1,1,1,0,1,0,1,1,1,0,1,1,1,1,1],.blk 0,.code [1,1,1,1,1,1]] ⟨[(2,.bool (((S:Int) == S) && (((E:Int) == E) && (((Q:Int) == Q) && (((M:Int) == M) && (((B:ByteArray) == B) && true))))))],[⟨w.heap.size,35,true,(qr4_v1 S E Q M B)⟩,⟨w.heap.size + 1,35,true,(qr4_v1 S E Q M B)⟩],[],z4⟩ ?_
 refine hrt [] [.bool (((S:Int) == S) && (((E:Int) == E) && (((Q:Int) == Q) && (((M:Int) == M) && (((B:ByteArray) == B) && true)))))] [] ?_
 intro wx hm
 exact ⟨ret_bool (by simp [bytes_beq]),hm.kept⟩
def qr5_v1 (S:Int) (E:Int) (Q:Int):List Value:=(((qr1_v1 S E).set 0 (i6 5)).set 3 (i6 Q))
def qr5_v2 (S:Int):List Value:=((qr1_v2 S).set 0 (i6 5))
set_option maxRecDepth 100000 in
set_option maxHeartbeats 4000000 in
theorem refRight_5 (S E Q:Int) (hS:0 ≤ S ∧ S ≤ 7) (hE:1 ≤ E ∧ E ≤ 100) (hQ:1 ≤ Q ∧ Q ≤ 6) (w:World) :
  Calls Try.prog 30 #[.agg #[.int .i64 5,.int .i64 S,.int .i64 E,.int .i64 Q,.int .i64 0,.int .i64 0,.int .i64 0,.int .i64 0,.string ⟨#[]⟩]] w (RetK (.bool true) w):=by
 refine calls_of_holds (S:=(fun _=>False)) (l:=[.agg (List.toArray (qr5_v1 S E Q))]) (n:=205) Try.func30 (body_of (by kernel_rfl)) rfl (by simp) (MemOk.none w _) ?_
 refine hgE 36 [oh0,oh0,oh0,(oA 0 1 1),oh0,oh0,oh0,(oA 0 1 1),oh0,⟨false,3,[]⟩,oh0,oh0,(oA 0 0 1),oh0,(oA 0 1 1),oh0,oh0,(oA 1 0 9),oh0,(oA 0 2 1)] [1,2,3,20] [dF ((S:Int) < 0),dF ((S:Int) < 0),dF ((S:Int) < 0),dF ((S:Int) < 0),dF ((S:Int) ≥ 8)] [(w.heap.size,1,1),(w.heap.size,1,1),(w.heap.size,0,1),(w.heap.size,1,1),(w.heap.size + 1,0,9),(w.heap.size,2,1)] [.ops [1,1,1,0] [2,3],.code [1,1,1,1]] ⟨[(1,(pt w.heap.size 0)),(2,.bool false),(3,(pt (w.heap.size + 1) 0)),(20,i6 E)],[⟨w.heap.size,35,true,(qr5_v1 S E Q)⟩,⟨w.heap.size + 1,35,true,(qr5_v2 S)⟩],[],w.heap.size + 2⟩ ?_
 refine hcp (.bool true) 48 [i6 E] (some 21) [] tI rfl (fun wx hm=>refNum_true _ (by omega) wx) fun z2 hz2=>?_
 replace hz2:w.heap.size + 2 ≤ z2:=hz2
 refine hgE 9 [oh0,oh0,(oA 0 3 1)] [1,2,3,4,23] [] [(w.heap.size,3,1)] [.ops [1,1,1,1,0] [2,3],.code [1,1,1,1,1]] ⟨[(1,(pt w.heap.size 0)),(2,.bool false),(3,(pt (w.heap.size + 1) 0)),(4,.bool true),(23,i6 Q)],[⟨w.heap.size,35,true,(qr5_v1 S E Q)⟩,⟨w.heap.size + 1,35,true,(qr5_v2 S)⟩],[],z2⟩ ?_
 refine hcp (.bool true) 48 [i6 Q] (some 24) [] tI rfl (fun wx hm=>refNum_true _ (by omega) wx) fun z4 hz4=>?_
 replace hz4:z2 ≤ z4:=hz4
 refine hgE 75 [oh0,oh0,(oA 0 0 1),oh0,oh0,oh0,oh0,oh0,oh0,oh0,oh0,oh0,oh0,oh0,oh0,oh0,oh0,oh0,oh0,oh0,oh1,oh0,(oA 0 2 1),oh0,(oA 1 2 1),oh0,(oA 0 3 1),oh0,(oA 1 3 1),oh0,oh0,oh1,oh3,oh0,⟨true,0,[⟨false,1,0,9⟩]⟩,⟨true,0,[⟨false,0,0,9⟩]⟩,⟨true,1,[]⟩,oh3,oh0] [2] [fF,fF,fF,fF,fF,tT,tT,tT,tT,tT,tT,vV,tT] [(w.heap.size,0,1),(w.heap.size,2,1),(w.heap.size + 1,2,1),(w.heap.size,3,1),(w.heap.size + 1,3,1),(w.heap.size + 1,0,9),(w.heap.size,0,9)] [.code [1,1,1,1,1,0,1,0,1,1,1,1,1,0,1,1,1],.blk 0,.code [1,1,1,1,1,1]] ⟨[(2,.bool (((S:Int) == S) && (((E:Int) == E) && (((Q:Int) == Q) && true))))],[⟨w.heap.size,35,true,(qr5_v1 S E Q)⟩,⟨w.heap.size + 1,35,true,(qr5_v1 S E Q)⟩],[],z4⟩ ?_
 refine hrt [] [.bool (((S:Int) == S) && (((E:Int) == E) && (((Q:Int) == Q) && true)))] [] ?_
 intro wx hm
 exact ⟨ret_bool (by simp),hm.kept⟩
def qr6_v1 (S:Int) (E:Int) (M:Int) (OE:Int) (OS:Int):List Value:=[i6 6,i6 S,i6 E,i6 0,i6 M,i6 0,i6 OE,i6 OS,sT ⟨#[]⟩]
def qr6_v2 (S:Int):List Value:=((qr1_v2 S).set 0 (i6 6))
def qr6_v3 (S:Int) (E:Int) (M:Int) (OE:Int) (OS:Int):List Value:=[.bool (((S:Int) == S) && (((E:Int) == E) && (((M:Int) == M) && ((((OE:Int) == OE) && (((OS:Int) == OS) && true)) && true))))]
def qr6_n1:List Nat:=[1,1,1,1,1,0,1,0,1,1,1,1,1,1,1,1,1,0,1,1,1,0]
def qr6_n2:List Nat:=[1,1,1,1,1,0,1,0,1,1,1,1,1,1,1,1,1,0,1,1,1,1]
@[simp] def qr6_b1 (S:Int) (E:Int) (M:Int) (OE:Int) (OS:Int) (w:World):List Bk:=[⟨w.heap.size,35,true,(qr6_v1 S E M OE OS)⟩,⟨w.heap.size + 1,35,true,(qr6_v1 S E M OE OS)⟩]
set_option maxRecDepth 100000 in
set_option maxHeartbeats 4000000 in
theorem refRight_6 (S E M OE OS:Int) (hS:0 ≤ S ∧ S ≤ 7) (hE:1 ≤ E ∧ E ≤ 100) (hM:0 ≤ M ∧ M ≤ 1) (hO:0 ≤ OE ∧ OE < E ∧ 0 ≤ OS ∧ OS ≤ 6) (w:World) :
  Calls Try.prog 30 #[.agg #[.int .i64 6,.int .i64 S,.int .i64 E,.int .i64 0,.int .i64 M,.int .i64 0,.int .i64 OE,.int .i64 OS,.string ⟨#[]⟩]] w (RetK (.bool true) w):=by
 refine calls_of_holds (S:=(fun _=>False)) (l:=[.agg (List.toArray (qr6_v1 S E M OE OS))]) (n:=205) Try.func30 (body_of (by kernel_rfl)) rfl (by simp) (MemOk.none w _) ?_
 refine hgE 36 [oh0,oh0,oh0,(oA 0 1 1),oh0,oh0,oh0,(oA 0 1 1),oh0,⟨false,3,[]⟩,oh0,oh0,(oA 0 0 1),oh0,(oA 0 1 1),oh0,oh0,(oA 1 0 9),oh0,(oA 0 2 1)] [1,2,3,20] [dF ((S:Int) < 0),dF ((S:Int) < 0),dF ((S:Int) < 0),dF ((S:Int) < 0),dF ((S:Int) ≥ 8)] [(w.heap.size,1,1),(w.heap.size,1,1),(w.heap.size,0,1),(w.heap.size,1,1),(w.heap.size + 1,0,9),(w.heap.size,2,1)] [.ops [1,1,1,0] [2,3],.code [1,1,1,1]] ⟨[(1,(pt w.heap.size 0)),(2,.bool false),(3,(pt (w.heap.size + 1) 0)),(20,i6 E)],[⟨w.heap.size,35,true,(qr6_v1 S E M OE OS)⟩,⟨w.heap.size + 1,35,true,(qr6_v2 S)⟩],[],w.heap.size + 2⟩ ?_
 refine hcp (.bool true) 48 [i6 E] (some 21) [] tI rfl (fun wx hm=>refNum_true _ (by omega) wx) fun z2 hz2=>?_
 replace hz2:w.heap.size + 2 ≤ z2:=hz2
 refine hgE 9 [oh0,oh0,(oA 0 3 1)] [1,2,3,4,23] [] [(w.heap.size,3,1)] [.ops [1,1,1,1,0] [2,3],.code [1,1,1,1,1]] ⟨[(1,(pt w.heap.size 0)),(2,.bool false),(3,(pt (w.heap.size + 1) 0)),(4,.bool true),(23,i6 0)],[⟨w.heap.size,35,true,(qr6_v1 S E M OE OS)⟩,⟨w.heap.size + 1,35,true,(qr6_v2 S)⟩],[],z2⟩ ?_
 refine hcp (.bool false) 48 [i6 0] (some 24) [] tI rfl (fun wx hm=>refNum_zero wx) fun z4 hz4=>?_
 replace hz4:z2 ≤ z4:=hz4
 refine hgE 89 [oh0,oh0,(oA 0 0 1),oh0,oh0,oh0,oh0,oh0,oh0,oh0,oh0,oh0,oh0,oh0,oh0,oh0,oh0,oh0,oh0,oh0,oh0,oh0,oh0,oh0,oh0,oh0,oh1,oh0,(oA 0 2 1),oh0,(oA 1 2 1),oh0,(oA 0 4 1),oh0,(oA 1 4 1),oh0,(oA 0 6 2),oh0,(oA 1 6 2),oh0,oh0,oh1,⟨true,0,[⟨false,0,4,1⟩]⟩,oh1,oh1] [1,2,3,135,139] [fF,fF,fF,fF,fF,fF,fF,tT,tT,tT,tT,tT] [(w.heap.size,0,1),(w.heap.size,2,1),(w.heap.size + 1,2,1),(w.heap.size,4,1),(w.heap.size + 1,4,1),(w.heap.size,6,2),(w.heap.size + 1,6,2),(w.heap.size,4,1)] [.ops qr6_n1 [6,7,8,9,10,11,12,13,14,15,16,17,18,19,20,21,22,23,24,25,26,27,28,29,30,31,32,33,34,35,36,37,38,39,40,41,42],.code qr6_n2,.blk 0,.code [1,1,1,1,1,1]] ⟨[(1,(pt w.heap.size 0)),(2,.bool false),(3,(pt (w.heap.size + 1) 0)),(135,.bool true),(139,.bool (M == 0))],(qr6_b1 S E M OE OS w),[],z4⟩ ?_
 rcases Bool.eq_false_or_eq_true (M == 0) with d1 | d1
 ·skip
  refine hgE 41 [oh1,oh1,oh1,⟨true,2,[]⟩,oh3,oh0,oh1,oh1,⟨true,0,[⟨false,0,6,1⟩]⟩,oh1,oh3,oh0,oh1,oh1,⟨true,0,[⟨false,0,6,1⟩]⟩,oh1,⟨true,0,[⟨false,0,2,1⟩]⟩,oh1,oh3,oh0,oh1,oh1,⟨true,0,[⟨false,0,7,1⟩]⟩,oh1,oh3,oh0,oh1,oh1,⟨true,0,[⟨false,0,7,1⟩]⟩,oh1,oh3,oh0,⟨true,0,[⟨false,1,0,9⟩]⟩,⟨true,0,[⟨false,0,0,9⟩]⟩,⟨true,1,[]⟩,oh3,oh0] [2] [eD d1,eD d1,eD d1,tT,eD d1,tT,tT,tT,tT,tT,tT,dT ((OE:Int) ≥ 0),dT ((OE:Int) ≥ 0),dT ((OE:Int) ≥ 0),dT ((OE:Int) ≥ 0),dT ((OE:Int) ≥ 0),dT ((OE:Int) ≥ 0),dT ((OE:Int) ≥ 0),dT ((OE:Int) < E),dT ((OE:Int) < E),dT ((OE:Int) < E),dT ((OE:Int) < E),dT ((OE:Int) < E),dT ((OS:Int) ≥ 0),dT ((OS:Int) ≥ 0),dT ((OS:Int) ≥ 0),dT ((OS:Int) ≥ 0),dT ((OS:Int) ≥ 0),dT ((OS:Int) ≤ 16777215),dT ((OS:Int) ≤ 16777215),dT ((OS:Int) ≤ 16777215),vV,dT ((OS:Int) ≤ 16777215)] [(w.heap.size,6,1),(w.heap.size,6,1),(w.heap.size,2,1),(w.heap.size,7,1),(w.heap.size,7,1),(w.heap.size + 1,0,9),(w.heap.size,0,9)] [.code qr6_n2,.blk 0,.code [1,1,1,1,1,1]] ⟨[(2,.bool (((S:Int) == S) && (((E:Int) == E) && (((M:Int) == M) && ((((OE:Int) == OE) && (((OS:Int) == OS) && true)) && true)))))],(qr6_b1 S E M OE OS w),[],z4⟩ ?_
  refine hrt [] (qr6_v3 S E M OE OS) [] ?_
  intro wx hm
  exact ⟨ret_bool (by simp),hm.kept⟩
 ·skip
  refine hgE 9 [oh0,(oA 0 4 1),oh0,⟨true,3,[]⟩,oh3,oh0] [1,2,3,145] [eD d1,eD d1,eD d1,tT,eD d1,tT] [(w.heap.size,4,1)] [.ops qr6_n1 [12,13,14,15,16,17,18,19,20,21,22,23,24,25,26,27,28,29,30,31,32,33,34,35,36,37,38,39,40,41,42],.code qr6_n2,.blk 0,.code [1,1,1,1,1,1]] ⟨[(1,(pt w.heap.size 0)),(2,.bool false),(3,(pt (w.heap.size + 1) 0)),(145,.bool (M == 1))],(qr6_b1 S E M OE OS w),[],z4⟩ ?_
  rcases Bool.eq_false_or_eq_true (M == 1) with d2 | d2
  ·skip
   refine hgE 35 [oh1,oh1,⟨true,0,[⟨false,0,6,1⟩]⟩,oh1,oh3,oh0,oh1,oh1,⟨true,0,[⟨false,0,6,1⟩]⟩,oh1,⟨true,0,[⟨false,0,2,1⟩]⟩,oh1,oh3,oh0,oh1,oh1,⟨true,0,[⟨false,0,7,1⟩]⟩,oh1,oh3,oh0,oh1,oh1,⟨true,0,[⟨false,0,7,1⟩]⟩,oh1,oh3,oh0,⟨true,0,[⟨false,1,0,9⟩]⟩,⟨true,0,[⟨false,0,0,9⟩]⟩,⟨true,1,[]⟩,oh3,oh0] [2] [eD d2,eD d2,eD d2,eD d2,eD d2,dT ((OE:Int) ≥ 0),dT ((OE:Int) ≥ 0),dT ((OE:Int) ≥ 0),dT ((OE:Int) ≥ 0),dT ((OE:Int) ≥ 0),dT ((OE:Int) ≥ 0),dT ((OE:Int) ≥ 0),dT ((OE:Int) < E),dT ((OE:Int) < E),dT ((OE:Int) < E),dT ((OE:Int) < E),dT ((OE:Int) < E),dT ((OS:Int) ≥ 0),dT ((OS:Int) ≥ 0),dT ((OS:Int) ≥ 0),dT ((OS:Int) ≥ 0),dT ((OS:Int) ≥ 0),dT ((OS:Int) ≤ 16777215),dT ((OS:Int) ≤ 16777215),dT ((OS:Int) ≤ 16777215),vV,dT ((OS:Int) ≤ 16777215)] [(w.heap.size,6,1),(w.heap.size,6,1),(w.heap.size,2,1),(w.heap.size,7,1),(w.heap.size,7,1),(w.heap.size + 1,0,9),(w.heap.size,0,9)] [.code qr6_n2,.blk 0,.code [1,1,1,1,1,1]] ⟨[(2,.bool (((S:Int) == S) && (((E:Int) == E) && (((M:Int) == M) && ((((OE:Int) == OE) && (((OS:Int) == OS) && true)) && true)))))],(qr6_b1 S E M OE OS w),[],z4⟩ ?_
   refine hrt [] (qr6_v3 S E M OE OS) [] ?_
   intro wx hm
   exact ⟨ret_bool (by simp),hm.kept⟩
  ·skip
   refine hgE 35 [oh0,oh0,oh0,oh0,⟨false,3,[]⟩,oh0,oh0,oh0,oh0,oh0,oh0,oh0,⟨false,3,[]⟩,oh0,oh0,oh0,oh0,oh0,⟨false,3,[]⟩,oh0,oh0,oh0,oh0,oh0,⟨false,3,[]⟩,oh0,oh0,oh0,oh0,⟨false,3,[]⟩,oh0] [2] [eD d2,eD d2,eD d2,eD d2,eD d2,fF,fF,fF,fF,fF,fF,fF,fF,fF,fF,fF,fF,fF,fF,fF,fF,fF,fF,fF,fF,fF] [] [.code qr6_n2,.blk 0,.code [1,1,1,1,1,1]] ⟨[(2,.bool false)],(qr6_b1 S E M OE OS w),[],z4⟩ ?_
   refine hrt [] [.bool false] [] ?_
   intro wx hm
   exfalso
   simp at d1 d2
   omega
def qr7_v1 (S:Int) (E:Int) (Q:Int) (B:ByteArray):List Value:=(((qr5_v1 S E Q).set 0 (i6 7)).set 8 (sT B))
def qr7_v2 (S:Int):List Value:=((qr1_v2 S).set 0 (i6 7))
set_option maxRecDepth 100000 in
set_option maxHeartbeats 4000000 in
theorem refRight_7 (S E Q:Int) (B:ByteArray) (hS:0 ≤ S ∧ S ≤ 7) (hE:1 ≤ E ∧ E ≤ 100) (hQ:1 ≤ Q ∧ Q ≤ 6) (hB:B.size = 16) (w:World) :
  Calls Try.prog 30 #[.agg #[.int .i64 7,.int .i64 S,.int .i64 E,.int .i64 Q,.int .i64 0,.int .i64 0,.int .i64 0,.int .i64 0,.string B]] w (RetK (.bool true) w):=by
 refine calls_of_holds (S:=(fun _=>False)) (l:=[.agg (List.toArray (qr7_v1 S E Q B))]) (n:=205) Try.func30 (body_of (by kernel_rfl)) rfl (by simp) (MemOk.none w _) ?_
 refine hgE 36 [oh0,oh0,oh0,(oA 0 1 1),oh0,oh0,oh0,(oA 0 1 1),oh0,⟨false,3,[]⟩,oh0,oh0,(oA 0 0 1),oh0,(oA 0 1 1),oh0,oh0,(oA 1 0 9),oh0,(oA 0 2 1)] [1,2,3,20] [dF ((S:Int) < 0),dF ((S:Int) < 0),dF ((S:Int) < 0),dF ((S:Int) < 0),dF ((S:Int) ≥ 8)] [(w.heap.size,1,1),(w.heap.size,1,1),(w.heap.size,0,1),(w.heap.size,1,1),(w.heap.size + 1,0,9),(w.heap.size,2,1)] [.ops [1,1,1,0] [2,3],.code [1,1,1,1]] ⟨[(1,(pt w.heap.size 0)),(2,.bool false),(3,(pt (w.heap.size + 1) 0)),(20,i6 E)],[⟨w.heap.size,35,true,(qr7_v1 S E Q B)⟩,⟨w.heap.size + 1,35,true,(qr7_v2 S)⟩],[],w.heap.size + 2⟩ ?_
 refine hcp (.bool true) 48 [i6 E] (some 21) [] tI rfl (fun wx hm=>refNum_true _ (by omega) wx) fun z2 hz2=>?_
 replace hz2:w.heap.size + 2 ≤ z2:=hz2
 refine hgE 9 [oh0,oh0,(oA 0 3 1)] [1,2,3,4,23] [] [(w.heap.size,3,1)] [.ops [1,1,1,1,0] [2,3],.code [1,1,1,1,1]] ⟨[(1,(pt w.heap.size 0)),(2,.bool false),(3,(pt (w.heap.size + 1) 0)),(4,.bool true),(23,i6 Q)],[⟨w.heap.size,35,true,(qr7_v1 S E Q B)⟩,⟨w.heap.size + 1,35,true,(qr7_v2 S)⟩],[],z2⟩ ?_
 refine hcp (.bool true) 48 [i6 Q] (some 24) [] tI rfl (fun wx hm=>refNum_true _ (by omega) wx) fun z4 hz4=>?_
 replace hz4:z2 ≤ z4:=hz4
 refine hgE 94 [oh0,oh0,(oA 0 0 1),oh0,oh0,oh0,oh0,oh0,oh0,oh0,oh0,oh0,oh0,oh0,oh0,oh0,oh0,oh0,oh0,oh0,oh0,oh0,oh0,oh1,oh0,(oA 0 2 1),oh0,(oA 1 2 1),oh0,(oA 0 3 1),oh0,(oA 1 3 1),oh0,(oA 0 8 1),oh0,(oA 1 8 1),oh0,oh0,oh1,oh3,oh0,oh1,⟨true,0,[⟨false,0,8,1⟩]⟩,oh1,oh1,oh3,oh0,⟨true,0,[⟨false,1,0,9⟩]⟩,⟨true,0,[⟨false,0,0,9⟩]⟩,⟨true,1,[]⟩,oh3,oh0] [2] [fF,fF,fF,fF,fF,fF,tT,tT,tT,tT,tT,tT,tT,tT,oE (((B.size:Int) == 16) = true) (by rw [hB]; rfl),oE (((B.size:Int) == 16) = true) (by rw [hB]; rfl),oE (((B.size:Int) == 16) = true) (by rw [hB]; rfl),vV,oE (((B.size:Int) == 16) = true) (by rw [hB]; rfl)] [(w.heap.size,0,1),(w.heap.size,2,1),(w.heap.size + 1,2,1),(w.heap.size,3,1),(w.heap.size + 1,3,1),(w.heap.size,8,1),(w.heap.size + 1,8,1),(w.heap.size,8,1),(w.heap.size + 1,0,9),(w.heap.size,0,9)] [.code [1,1,1,1,1,0,1,0,1,1,1,1,1,1,1,0,1,1,1,1],.blk 0,.code [1,1,1,1,1,1]] ⟨[(2,.bool (((S:Int) == S) && (((E:Int) == E) && (((Q:Int) == Q) && (((B:ByteArray) == B) && true)))))],[⟨w.heap.size,35,true,(qr7_v1 S E Q B)⟩,⟨w.heap.size + 1,35,true,(qr7_v1 S E Q B)⟩],[],z4⟩ ?_
 refine hrt [] [.bool (((S:Int) == S) && (((E:Int) == E) && (((Q:Int) == Q) && (((B:ByteArray) == B) && true))))] [] ?_
 intro wx hm
 exact ⟨ret_bool (by simp [bytes_beq]),hm.kept⟩
def qr8_v1 (S:Int):List Value:=((qr1_v2 S).set 0 (i6 8))
@[simp] def qr8_b1 (S:Int) (w:World):List Bk:=[⟨w.heap.size,35,true,(qr8_v1 S)⟩,⟨w.heap.size + 1,35,true,(qr8_v1 S)⟩]
set_option maxRecDepth 100000 in
set_option maxHeartbeats 4000000 in
theorem refRight_8 (S:Int) (hS:0 ≤ S ∧ S ≤ 7) (w:World) :
  Calls Try.prog 30 #[.agg #[.int .i64 8,.int .i64 S,.int .i64 0,.int .i64 0,.int .i64 0,.int .i64 0,.int .i64 0,.int .i64 0,.string ⟨#[]⟩]] w (RetK (.bool true) w):=by
 refine calls_of_holds (S:=(fun _=>False)) (l:=[.agg (List.toArray (qr8_v1 S))]) (n:=205) Try.func30 (body_of (by kernel_rfl)) rfl (by simp) (MemOk.none w _) ?_
 refine hgE 36 [oh0,oh0,oh0,(oA 0 1 1),oh0,oh0,oh0,(oA 0 1 1),oh0,⟨false,3,[]⟩,oh0,oh0,(oA 0 0 1),oh0,(oA 0 1 1),oh0,oh0,(oA 1 0 9),oh0,(oA 0 2 1)] [1,2,3,20] [dF ((S:Int) < 0),dF ((S:Int) < 0),dF ((S:Int) < 0),dF ((S:Int) < 0),dF ((S:Int) ≥ 8)] [(w.heap.size,1,1),(w.heap.size,1,1),(w.heap.size,0,1),(w.heap.size,1,1),(w.heap.size + 1,0,9),(w.heap.size,2,1)] [.ops [1,1,1,0] [2,3],.code [1,1,1,1]] ⟨[(1,(pt w.heap.size 0)),(2,.bool false),(3,(pt (w.heap.size + 1) 0)),(20,i6 0)],(qr8_b1 S w),[],w.heap.size + 2⟩ ?_
 refine hcp (.bool false) 48 [i6 0] (some 21) [] tI rfl (fun wx hm=>refNum_zero wx) fun z2 hz2=>?_
 replace hz2:w.heap.size + 2 ≤ z2:=hz2
 refine hgE 9 [oh0,oh0,(oA 0 3 1)] [1,2,3,4,23] [] [(w.heap.size,3,1)] [.ops [1,1,1,1,0] [2,3],.code [1,1,1,1,1]] ⟨[(1,(pt w.heap.size 0)),(2,.bool false),(3,(pt (w.heap.size + 1) 0)),(4,.bool false),(23,i6 0)],(qr8_b1 S w),[],z2⟩ ?_
 refine hcp (.bool false) 48 [i6 0] (some 24) [] tI rfl (fun wx hm=>refNum_zero wx) fun z4 hz4=>?_
 replace hz4:z2 ≤ z4:=hz4
 refine hgE 73 [oh0,oh0,(oA 0 0 1),oh0,oh0,oh0,oh0,oh0,oh0,oh0,oh0,oh0,oh0,oh0,oh0,oh0,oh0,oh0,oh0,oh0,oh0,oh0,oh0,oh0,oh0,oh0,oh0,oh0,oh0,oh1,(oA 1 0 9),(oA 0 0 9),oh2,oh0] [2] [fF,fF,fF,fF,fF,fF,fF,fF,tT,vV] [(w.heap.size,0,1),(w.heap.size + 1,0,9),(w.heap.size,0,9)] [.code [1,1,1,1,1,0,1,0,1,1,1,1,1,1,1,1,1,1,1,0,1],.blk 0,.code [1,1,1,1,1,1]] ⟨[(2,.bool (((S:Int) == S) && true))],(qr8_b1 S w),[],z4⟩ ?_
 refine hrt [] [.bool (((S:Int) == S) && true)] [] ?_
 intro wx hm
 exact ⟨ret_bool (by simp),hm.kept⟩
def qr9_v1 (S:Int) (E:Int) (ND:Int):List Value:=(((qr1_v1 S E).set 0 (i6 9)).set 5 (i6 ND))
def qr9_v2 (S:Int):List Value:=((qr1_v2 S).set 0 (i6 9))
set_option maxRecDepth 100000 in
set_option maxHeartbeats 4000000 in
theorem refRight_9 (S E ND:Int) (hS:0 ≤ S ∧ S ≤ 7) (hE:1 ≤ E ∧ E ≤ 100) (hN:0 ≤ ND ∧ ND ≤ 5) (w:World) :
  Calls Try.prog 30 #[.agg #[.int .i64 9,.int .i64 S,.int .i64 E,.int .i64 0,.int .i64 0,.int .i64 ND,.int .i64 0,.int .i64 0,.string ⟨#[]⟩]] w (RetK (.bool true) w):=by
 refine calls_of_holds (S:=(fun _=>False)) (l:=[.agg (List.toArray (qr9_v1 S E ND))]) (n:=205) Try.func30 (body_of (by kernel_rfl)) rfl (by simp) (MemOk.none w _) ?_
 refine hgE 36 [oh0,oh0,oh0,(oA 0 1 1),oh0,oh0,oh0,(oA 0 1 1),oh0,⟨false,3,[]⟩,oh0,oh0,(oA 0 0 1),oh0,(oA 0 1 1),oh0,oh0,(oA 1 0 9),oh0,(oA 0 2 1)] [1,2,3,20] [dF ((S:Int) < 0),dF ((S:Int) < 0),dF ((S:Int) < 0),dF ((S:Int) < 0),dF ((S:Int) ≥ 8)] [(w.heap.size,1,1),(w.heap.size,1,1),(w.heap.size,0,1),(w.heap.size,1,1),(w.heap.size + 1,0,9),(w.heap.size,2,1)] [.ops [1,1,1,0] [2,3],.code [1,1,1,1]] ⟨[(1,(pt w.heap.size 0)),(2,.bool false),(3,(pt (w.heap.size + 1) 0)),(20,i6 E)],[⟨w.heap.size,35,true,(qr9_v1 S E ND)⟩,⟨w.heap.size + 1,35,true,(qr9_v2 S)⟩],[],w.heap.size + 2⟩ ?_
 refine hcp (.bool true) 48 [i6 E] (some 21) [] tI rfl (fun wx hm=>refNum_true _ (by omega) wx) fun z2 hz2=>?_
 replace hz2:w.heap.size + 2 ≤ z2:=hz2
 refine hgE 9 [oh0,oh0,(oA 0 3 1)] [1,2,3,4,23] [] [(w.heap.size,3,1)] [.ops [1,1,1,1,0] [2,3],.code [1,1,1,1,1]] ⟨[(1,(pt w.heap.size 0)),(2,.bool false),(3,(pt (w.heap.size + 1) 0)),(4,.bool true),(23,i6 0)],[⟨w.heap.size,35,true,(qr9_v1 S E ND)⟩,⟨w.heap.size + 1,35,true,(qr9_v2 S)⟩],[],z2⟩ ?_
 refine hcp (.bool false) 48 [i6 0] (some 24) [] tI rfl (fun wx hm=>refNum_zero wx) fun z4 hz4=>?_
 replace hz4:z2 ≤ z4:=hz4
 refine hgE 106 [oh0,oh0,(oA 0 0 1),oh0,oh0,oh0,oh0,oh0,oh0,oh0,oh0,oh0,oh0,oh0,oh0,oh0,oh0,oh0,oh0,oh0,oh0,oh0,oh0,oh0,oh0,oh0,oh0,oh0,oh0,oh0,oh0,oh0,oh1,oh0,(oA 0 2 1),oh0,(oA 1 2 1),oh0,(oA 0 5 1),oh0,(oA 1 5 1),oh0,oh0,oh1,⟨true,0,[⟨false,0,5,1⟩]⟩,oh1,oh3,oh0,oh1,⟨true,0,[⟨false,0,5,1⟩]⟩,oh1,oh3,oh0,⟨true,0,[⟨false,1,0,9⟩]⟩,⟨true,0,[⟨false,0,0,9⟩]⟩,⟨true,1,[]⟩,oh3,oh0] [2] [fF,fF,fF,fF,fF,fF,fF,fF,fF,tT,tT,tT,tT,tT,dT ((ND:Int) ≥ 0),dT ((ND:Int) ≥ 0),dT ((ND:Int) ≥ 0),dT ((ND:Int) ≥ 0),dT ((ND:Int) ≤ 5),dT ((ND:Int) ≤ 5),dT ((ND:Int) ≤ 5),vV,dT ((ND:Int) ≤ 5)] [(w.heap.size,0,1),(w.heap.size,2,1),(w.heap.size + 1,2,1),(w.heap.size,5,1),(w.heap.size + 1,5,1),(w.heap.size,5,1),(w.heap.size,5,1),(w.heap.size + 1,0,9),(w.heap.size,0,9)] [.code [1,1,1,1,1,0,1,0,1,1,1,1,1,1,1,1,1,1,1,1,1,0,1,1,1],.blk 0,.code [1,1,1,1,1,1]] ⟨[(2,.bool (((S:Int) == S) && (((E:Int) == E) && (((ND:Int) == ND) && true))))],[⟨w.heap.size,35,true,(qr9_v1 S E ND)⟩,⟨w.heap.size + 1,35,true,(qr9_v1 S E ND)⟩],[],z4⟩ ?_
 refine hrt [] [.bool (((S:Int) == S) && (((E:Int) == E) && (((ND:Int) == ND) && true)))] [] ?_
 intro wx hm
 exact ⟨ret_bool (by simp),hm.kept⟩
def qr10_v1 (S:Int) (E:Int):List Value:=((qr1_v1 S E).set 0 (i6 10))
def qr10_v2 (S:Int):List Value:=((qr1_v2 S).set 0 (i6 10))
set_option maxRecDepth 100000 in
set_option maxHeartbeats 4000000 in
theorem refRight_10 (S E:Int) (hS:0 ≤ S ∧ S ≤ 7) (hE:1 ≤ E ∧ E ≤ 100) (w:World) :
  Calls Try.prog 30 #[.agg #[.int .i64 10,.int .i64 S,.int .i64 E,.int .i64 0,.int .i64 0,.int .i64 0,.int .i64 0,.int .i64 0,.string ⟨#[]⟩]] w (RetK (.bool true) w):=by
 refine calls_of_holds (S:=(fun _=>False)) (l:=[.agg (List.toArray (qr10_v1 S E))]) (n:=205) Try.func30 (body_of (by kernel_rfl)) rfl (by simp) (MemOk.none w _) ?_
 refine hgE 36 [oh0,oh0,oh0,(oA 0 1 1),oh0,oh0,oh0,(oA 0 1 1),oh0,⟨false,3,[]⟩,oh0,oh0,(oA 0 0 1),oh0,(oA 0 1 1),oh0,oh0,(oA 1 0 9),oh0,(oA 0 2 1)] [1,2,3,20] [dF ((S:Int) < 0),dF ((S:Int) < 0),dF ((S:Int) < 0),dF ((S:Int) < 0),dF ((S:Int) ≥ 8)] [(w.heap.size,1,1),(w.heap.size,1,1),(w.heap.size,0,1),(w.heap.size,1,1),(w.heap.size + 1,0,9),(w.heap.size,2,1)] [.ops [1,1,1,0] [2,3],.code [1,1,1,1]] ⟨[(1,(pt w.heap.size 0)),(2,.bool false),(3,(pt (w.heap.size + 1) 0)),(20,i6 E)],[⟨w.heap.size,35,true,(qr10_v1 S E)⟩,⟨w.heap.size + 1,35,true,(qr10_v2 S)⟩],[],w.heap.size + 2⟩ ?_
 refine hcp (.bool true) 48 [i6 E] (some 21) [] tI rfl (fun wx hm=>refNum_true _ (by omega) wx) fun z2 hz2=>?_
 replace hz2:w.heap.size + 2 ≤ z2:=hz2
 refine hgE 9 [oh0,oh0,(oA 0 3 1)] [1,2,3,4,23] [] [(w.heap.size,3,1)] [.ops [1,1,1,1,0] [2,3],.code [1,1,1,1,1]] ⟨[(1,(pt w.heap.size 0)),(2,.bool false),(3,(pt (w.heap.size + 1) 0)),(4,.bool true),(23,i6 0)],[⟨w.heap.size,35,true,(qr10_v1 S E)⟩,⟨w.heap.size + 1,35,true,(qr10_v2 S)⟩],[],z2⟩ ?_
 refine hcp (.bool false) 48 [i6 0] (some 24) [] tI rfl (fun wx hm=>refNum_zero wx) fun z4 hz4=>?_
 replace hz4:z2 ≤ z4:=hz4
 refine hgE 53 [oh0,oh0,(oA 0 0 1),oh0,oh0,oh0,oh0,oh0,oh0,oh0,oh0,oh0,oh0,oh0,oh1,oh0,(oA 0 2 1),oh0,(oA 1 2 1),oh0,oh0,⟨true,0,[⟨false,1,0,9⟩]⟩,⟨true,0,[⟨false,0,0,9⟩]⟩,⟨true,1,[]⟩,oh3,oh0] [2] [fF,fF,fF,tT,tT,tT,tT,vV,tT] [(w.heap.size,0,1),(w.heap.size,2,1),(w.heap.size + 1,2,1),(w.heap.size + 1,0,9),(w.heap.size,0,9)] [.code [1,1,1,1,1,0,1,0,1,0,1,1],.blk 0,.code [1,1,1,1,1,1]] ⟨[(2,.bool (((S:Int) == S) && (((E:Int) == E) && true)))],[⟨w.heap.size,35,true,(qr10_v1 S E)⟩,⟨w.heap.size + 1,35,true,(qr10_v1 S E)⟩],[],z4⟩ ?_
 refine hrt [] [.bool (((S:Int) == S) && (((E:Int) == E) && true))] [] ?_
 intro wx hm
 exact ⟨ret_bool (by simp),hm.kept⟩
theorem refRightP (q:AskM) (h:AskOk q) (w:World):Calls Try.prog 30 #[.agg #[.int .i64 q.kind,.int .i64 q.stripe,.int .i64 q.epoch,.int .i64 q.seq,.int .i64 q.mask,.int .i64 q.node,.int .i64 q.oe,.int .i64 q.os,.string q.block]] w (RetK (.bool true) w):=by
 obtain ⟨kind,stripe,epoch,seq,mask,node,oe,os,block⟩:=q
 obtain ⟨a1,a2,a3,a4,a5,a6,a7,a8,a9,b1,b2,b3,b4,b5,b6⟩:=h
 dsimp only at *
 have hk:kind = 1 ∨ kind = 2 ∨ kind = 3 ∨ kind = 4 ∨ kind = 5 ∨ kind = 6 ∨ kind = 7 ∨ kind = 8 ∨ kind = 9 ∨ kind = 10:=by omega
 rcases hk with rfl | rfl | rfl | rfl | rfl | rfl | rfl | rfl | rfl | rfl
 ·have hE:=a3 (by omega)
  obtain rfl:=a6 (by omega)
  obtain rfl:=a9 (by omega)
  obtain rfl:=b6 (by omega)
  obtain ⟨rfl,rfl⟩:=b4 (by omega)
  obtain rfl:=b2 (by omega)
  exact refRight_1 _ _ a2 hE w
 ·have hE:=a3 (by omega)
  obtain rfl:=a6 (by omega)
  obtain rfl:=a9 (by omega)
  obtain rfl:=b6 (by omega)
  obtain ⟨rfl,rfl⟩:=b4 (by omega)
  obtain rfl:=b2 (by omega)
  exact refRight_2 _ _ a2 hE w
 ·have hE:=a3 (by omega)
  obtain rfl:=a6 (by omega)
  obtain rfl:=a9 (by omega)
  obtain rfl:=b6 (by omega)
  obtain ⟨rfl,rfl⟩:=b4 (by omega)
  obtain rfl:=b2 (by omega)
  exact refRight_3 _ _ a2 hE w
 ·have hE:=a3 (by omega)
  have hQ:=a5 (by omega)
  have hM:=a7 rfl
  obtain rfl:=b6 (by omega)
  obtain ⟨rfl,rfl⟩:=b4 (by omega)
  have hB:=b1 (by omega)
  exact refRight_4 _ _ _ _ _ a2 hE hQ hM hB w
 ·have hE:=a3 (by omega)
  have hQ:=a5 (by omega)
  obtain rfl:=a9 (by omega)
  obtain rfl:=b6 (by omega)
  obtain ⟨rfl,rfl⟩:=b4 (by omega)
  obtain rfl:=b2 (by omega)
  exact refRight_5 _ _ _ a2 hE hQ w
 ·have hE:=a3 (by omega)
  obtain rfl:=a6 (by omega)
  have hM:=a8 rfl
  obtain rfl:=b6 (by omega)
  have hO:=b3 rfl
  obtain rfl:=b2 (by omega)
  exact refRight_6 _ _ _ _ _ a2 hE hM hO w
 ·have hE:=a3 (by omega)
  have hQ:=a5 (by omega)
  obtain rfl:=a9 (by omega)
  obtain rfl:=b6 (by omega)
  obtain ⟨rfl,rfl⟩:=b4 (by omega)
  have hB:=b1 (by omega)
  exact refRight_7 _ _ _ _ a2 hE hQ hB w
 ·obtain rfl:=a4 rfl
  obtain rfl:=a6 (by omega)
  obtain rfl:=a9 (by omega)
  obtain rfl:=b6 (by omega)
  obtain ⟨rfl,rfl⟩:=b4 (by omega)
  obtain rfl:=b2 (by omega)
  exact refRight_8 _ a2 w
 ·have hE:=a3 (by omega)
  obtain rfl:=a6 (by omega)
  obtain rfl:=a9 (by omega)
  have hN:=b5 rfl
  obtain ⟨rfl,rfl⟩:=b4 (by omega)
  obtain rfl:=b2 (by omega)
  exact refRight_9 _ _ _ a2 hE hN w
 ·have hE:=a3 (by omega)
  obtain rfl:=a6 (by omega)
  obtain rfl:=a9 (by omega)
  obtain rfl:=b6 (by omega)
  obtain ⟨rfl,rfl⟩:=b4 (by omega)
  obtain rfl:=b2 (by omega)
  exact refRight_10 _ _ a2 hE w
@[simp] def rbf_b1 (a:Int) (b:Int) (c:Int) (d:Int) (w:World):List Bk:=[⟨w.heap.size,33,true,[i6 a,i6 b]⟩,⟨w.heap.size + 1,33,true,[i6 c,i6 d]⟩]
set_option maxRecDepth 100000 in
set_option maxHeartbeats 4000000 in
theorem refBefore_any (a b c d:Int) (w:World) :
  Calls Try.prog 32 #[.agg #[.int .i64 a,.int .i64 b],.agg #[.int .i64 c,.int .i64 d]] w (RetK (.bool (beforeM a b c d)) w):=by
 refine calls_of_holds (S:=(fun _=>False)) (l:=[.agg #[.int .i64 a,.int .i64 b],.agg #[.int .i64 c,.int .i64 d]]) (n:=24) Try.func32 (body_of (by kernel_rfl)) rfl (by simp) (MemOk.none w _) ?_
 refine hgE 17 [oh0,oh0,oh0,oh0,(oA 0 0 1),oh0,(oA 1 0 1),oh0,oh0] [2,3,4,10] [] [(w.heap.size,0,1),(w.heap.size + 1,0,1)] [.ops [1,0] [6,7,8,9,10,11,12,13,14,15,16,17,18,19],.code [1,1]] ⟨[(2,(pt w.heap.size 0)),(3,(pt (w.heap.size + 1) 0)),(4,.bool false),(10,.bool (decide ((a:Int) < c)))],(rbf_b1 a b c d w),[],w.heap.size + 2⟩ ?_
 rcases Bool.eq_false_or_eq_true (decide ((a:Int) < c)) with d1 | d1
 ·skip
  refine hgE 18 [oh1,oh1,oh1,oh1,oh1,oh1,oh0,oh0,oh0,oh0,oh0,oh1,oh3,oh0] [4] [eD d1,eD d1,eD d1,eD d1,eD d1,eD d1,eD d1,eD d1] [] [.code [1,1]] ⟨[(4,.bool true)],(rbf_b1 a b c d w),[],w.heap.size + 2⟩ ?_
  refine hrt [] [.bool true] [] ?_
  intro wx hm
  exact ⟨ret_bool (by unfold beforeM; rw [d1]; rfl),hm.kept⟩
 ·skip
  refine hgE 9 [oh0,(oA 0 0 1),oh0,(oA 1 0 1),oh0,oh0] [2,3,4,10,16] [eD d1,eD d1,eD d1,eD d1,eD d1,eD d1] [(w.heap.size,0,1),(w.heap.size + 1,0,1)] [.ops [1,0] [12,13,14,15,16,17,18,19],.code [1,1]] ⟨[(2,(pt w.heap.size 0)),(3,(pt (w.heap.size + 1) 0)),(4,.bool false),(10,.bool (decide ((a:Int) < c))),(16,.bool (a == c))],(rbf_b1 a b c d w),[],w.heap.size + 2⟩ ?_
  rcases Bool.eq_false_or_eq_true (a == c) with d2 | d2
  ·skip
   refine hgE 12 [oh1,⟨true,0,[⟨false,0,1,1⟩]⟩,oh1,⟨true,0,[⟨false,1,1,1⟩]⟩,oh1,oh3,⟨false,3,[]⟩,oh0] [4] [eD d2,eD d2,eD d2,eD d2,eD d2,eD d1,eD d2,eD d1] [(w.heap.size,1,1),(w.heap.size + 1,1,1)] [.code [1,1]] ⟨[(4,.bool (decide ((b:Int) < d)))],(rbf_b1 a b c d w),[],w.heap.size + 2⟩ ?_
   refine hrt [] [.bool (decide ((b:Int) < d))] [] ?_
   intro wx hm
   exact ⟨ret_bool (by unfold beforeM; rw [d1,d2]; rfl),hm.kept⟩
  ·skip
   refine hgE 12 [oh0,oh0,oh0,oh0,oh0,⟨false,3,[]⟩,⟨false,3,[]⟩,oh0] [4] [eD d2,eD d2,eD d2,eD d2,eD d2,eD d1,eD d2,eD d1] [] [.code [1,1]] ⟨[(4,.bool false)],(rbf_b1 a b c d w),[],w.heap.size + 2⟩ ?_
   refine hrt [] [.bool false] [] ?_
   intro wx hm
   exact ⟨ret_bool (by unfold beforeM; rw [d1,d2]; rfl),hm.kept⟩
def rsy_v1 (r:RecM):List Value:=[.bool r.used,i6 r.fence,i6 r.de,i6 r.ds,sT r.block,.bool r.op,i6 r.ie,i6 r.is,i6 r.mask,sT r.staged]
def rsy_v2 (r:RecM) (k:Int):List Value:=[i6 k,i6 r.fence,i6 0,.bool false,i6 0,i6 0,i6 0,sT ⟨#[]⟩,.bool false,i6 0,i6 0,i6 0,sT ⟨#[]⟩]
def rsy_v3:List Value:=[.bool false] ++ rp 3 (.int .i64 0) ++ [.string ⟨#[]⟩,.bool false] ++ rp 3 (.int .i64 0) ++ [.string ⟨#[]⟩]
def rsy_v4:List Value:=rp 3 (.int .i64 0) ++ [.bool false] ++ rp 3 (.int .i64 0) ++ [.string ⟨#[]⟩,.bool false] ++ rp 3 (.int .i64 0) ++ [.string ⟨#[]⟩]
@[simp] def rsy_b1 (r:RecM) (w:World):List Bk:=[⟨w.heap.size,43,true,(rsy_v1 r)⟩,⟨w.heap.size + 1,43,true,(rsy_v3)⟩,⟨w.heap.size + 2,45,true,(rsy_v4)⟩]
@[simp] def rsy_b2 (r:RecM) (w:World):List Bk:=[⟨w.heap.size,43,true,(rsy_v1 r)⟩,⟨w.heap.size + 1,43,true,(rsy_v1 r)⟩,⟨w.heap.size + 2,45,true,(rsy_v4)⟩]
@[simp] def rsy_b3 (r:RecM) (k:Int) (w:World):List Bk:=[⟨w.heap.size,43,true,(rsy_v1 r)⟩,⟨w.heap.size + 1,43,true,(rsy_v1 r)⟩,⟨w.heap.size + 2,45,true,(rsy_v2 r k)⟩]
def rsy_g2s (k:Int) (w:World):List (Nat × Value):=[(1,i6 k),(2,(pt w.heap.size 0)),(4,(pt (w.heap.size + 1) 0)),(5,(pt (w.heap.size + 2) 0))]
def rsy_g2v (r:RecM) (k:Int) (w:World):List (Option Value):=[some (.agg (List.toArray (rsy_v1 r))),some (i6 k),some ((pt w.heap.size 1)),some (i6 r.fence),some (.agg (List.toArray (rsy_v2 r k))),some (.tuple #[]),some (.tuple #[])]
def rsy_g2m (r:RecM) (k:Int) (w:World):List (List Bk):=[(rsy_b1 r w),(rsy_b2 r w),(rsy_b3 r k w)]
def rsy_g2t:List (Option Nat):=[none,none,none,none,none,some 0,some 1]
theorem rsy_g2_5 (r:RecM) (k:Int) (w:World):∀ sz,opG Try.prog (opsOf (getCode (bodyOf Try.f31) [1,0])) ⟨slG (opsOf (getCode (bodyOf Try.f31) [1,0])) (rsy_g2v r k w) (slI (opsOf (getCode (bodyOf Try.f31) [1,0])) (rsy_g2s k w) 5) (needsOf (opsOf (getCode (bodyOf Try.f31) [1,0])) 5),(rsy_b1 r w),[],sz⟩ 5 (oA 1 0 10) = some ([],dupR [(w.heap.size + 1,0,10)],undef,(rsy_b2 r w),sz):=fun sz=>by kernel_rfl
theorem rsy_g2_6 (r:RecM) (k:Int) (w:World):∀ sz,opG Try.prog (opsOf (getCode (bodyOf Try.f31) [1,0])) ⟨slG (opsOf (getCode (bodyOf Try.f31) [1,0])) (rsy_g2v r k w) (slI (opsOf (getCode (bodyOf Try.f31) [1,0])) (rsy_g2s k w) 6) (needsOf (opsOf (getCode (bodyOf Try.f31) [1,0])) 6),(rsy_b2 r w),[],sz⟩ 6 (oA 2 0 13) = some ([],dupR [(w.heap.size + 2,0,13)],undef,(rsy_b3 r k w),sz):=fun sz=>by kernel_rfl
def rsy_g2C (r:RecM) (k:Int) (w:World) (i_:Nat):Prop:=CertG (wpOp Try.prog (opsOf (getCode (bodyOf Try.f31) [1,0])) (sem Try.prog (bodyOf Try.f31) (bodyPost Try.prog Try.f31 (RetK (outV (sayM r k)) w)) [.code [1,1]])) [] 11 (opsOf (getCode (bodyOf Try.f31) [1,0])) (slI (opsOf (getCode (bodyOf Try.f31) [1,0])) (rsy_g2s k w) i_) (rsy_g2t) 2 (MG w (fun _=>False) (rsy_g2m r k w) [] (w.heap.size + 3)) (Turned (rsy_b1 r w)) (PvG (rsy_g2v r k w) (fun _ _ _=>False)) i_
set_option maxRecDepth 100000 in
set_option maxHeartbeats 4000000 in
theorem refSay_any (r:RecM) (k:Int) (w:World) :
  Calls Try.prog 31 #[.agg #[.bool r.used,.int .i64 r.fence,.int .i64 r.de,.int .i64 r.ds,.string r.block,.bool r.op,.int .i64 r.ie,.int .i64 r.is,.int .i64 r.mask,.string r.staged],.int .i64 k] w (RetK (outV (sayM r k)) w):=by
 refine calls_of_holds (S:=(fun _=>False)) (l:=[.agg (List.toArray (rsy_v1 r)),.int .i64 k]) (n:=11) Try.func31 (body_of (by kernel_rfl)) rfl (by simp) (MemOk.none w _) ?_
 refine hgE 10 [oh0,oh0,oh0] [1,2,4,5] [] [] [.code [1,0],.code [1,1]] ⟨[(1,i6 k),(2,(pt w.heap.size 0)),(4,(pt (w.heap.size + 1) 0)),(5,(pt (w.heap.size + 2) 0))],(rsy_b1 r w),[],w.heap.size + 3⟩ ?_
 have rsy_g2_c5:rsy_g2C r k w 5:=cert_store (s:=0) (v:=undef) (by kernel_rfl) (by kernel_rfl) (by kernel_rfl) (by kernel_rfl) (by kernel_rfl) (rsy_g2_5 r k w) trivial
 have rsy_g2_c6:rsy_g2C r k w 6:=cert_store (s:=1) (v:=undef) (by kernel_rfl) (by kernel_rfl) (by kernel_rfl) (by kernel_rfl) (by kernel_rfl) (rsy_g2_6 r k w) trivial
 have rsy_g2_R:∀ e_ ∈ (rZs [1,2,4] ++ [⟨0,⟨false,0,[⟨false,0,0,10⟩]⟩,[],[(w.heap.size,0,10)]⟩,⟨3,⟨false,0,[⟨false,0,1,1⟩]⟩,[],[(w.heap.size,1,1)]⟩]:List RegE),rsy_g2C r k w e_.i:=certs_reg (by kernel_rfl) _ (fun sz=>by kernel_rfl)
 refine holds_mixG (vs:=(rsy_g2v r k w)) (ms:=(rsy_g2m r k w)) (stg:=(rsy_g2t)) (J:=2) (sl':=[(4,(pt (w.heap.size + 1) 0)),(5,(pt (w.heap.size + 2) 0))]) (bk':=(rsy_b3 r k w)) (fun _ _ _=>False) [4,5] (by kernel_rfl) (by kernel_rfl) (by kernel_rfl) (fun _ _ _ _ h=>h.elim) (certs_mix rsy_g2_R [5,6] ⟨rsy_g2_c5,rsy_g2_c6,tI⟩ (by kernel_rfl)) (by kernel_rfl) (by kernel_rfl) (by kernel_rfl) (fun z2 hz2=>?_)
 replace hz2:w.heap.size + 3 ≤ z2:=hz2
 refine hgE 3 [] [4,5] [] [] [.code [1,1]] ⟨[(4,(pt (w.heap.size + 1) 0)),(5,(pt (w.heap.size + 2) 0))],(rsy_b3 r k w),[],z2⟩ ?_
 refine hrt [[⟨false,1,0,10⟩],[⟨false,2,0,13⟩]] [.agg (List.toArray (rsy_v1 r)),.agg (List.toArray (rsy_v2 r k))] [(w.heap.size + 1,0,10),(w.heap.size + 2,0,13)] ?_
 intro wx hm
 exact ⟨rfl,hm.kept⟩
def rdn_v1 (r:RecM):List Value:=(rsy_v1 r)
def rdn_v2 (r:RecM):List Value:=[.bool true,i6 r.fence,i6 r.ie,i6 r.is,sT r.staged,.bool false,i6 0,i6 0,i6 0,sT ⟨#[]⟩]
set_option maxRecDepth 100000 in
set_option maxHeartbeats 4000000 in
theorem refDone_any (r:RecM) (w:World) :
  Calls Try.prog 34 #[.agg #[.bool r.used,.int .i64 r.fence,.int .i64 r.de,.int .i64 r.ds,.string r.block,.bool r.op,.int .i64 r.ie,.int .i64 r.is,.int .i64 r.mask,.string r.staged]] w (RetK (.agg (RecM.cells { doneM r with used:=true }).toArray) w):=by
 refine calls_of_holds (S:=(fun _=>False)) (l:=[.agg (List.toArray (rdn_v1 r))]) (n:=10) Try.func34 (body_of (by kernel_rfl)) rfl (by simp) (MemOk.none w _) ?_
 refine hgE 19 [oh0,oh0,oh0,(oA 0 1 1),oh0,(oA 0 6 2),oh0,(oA 0 9 1),oh0,(oA 1 0 10)] [2] [] [(w.heap.size,1,1),(w.heap.size,6,2),(w.heap.size,9,1),(w.heap.size + 1,0,10)] [.code [1,1]] ⟨[(2,(pt (w.heap.size + 1) 0))],[⟨w.heap.size,43,true,(rdn_v1 r)⟩,⟨w.heap.size + 1,43,true,(rdn_v2 r)⟩],[],w.heap.size + 2⟩ ?_
 refine hrt [[⟨false,1,0,10⟩]] [.agg (List.toArray (rdn_v2 r))] [(w.heap.size + 1,0,10)] ?_
 intro wx hm
 exact ⟨rfl,hm.kept⟩
def rcl_v1 (r:RecM):List Value:=(rsy_v1 r)
def rcl_v2 (r:RecM):List Value:=((((rdn_v2 r).set 2 (i6 r.de)).set 3 (i6 r.ds)).set 4 (sT r.block))
set_option maxRecDepth 100000 in
set_option maxHeartbeats 4000000 in
theorem refClosed_any (r:RecM) (w:World) :
  Calls Try.prog 33 #[.agg #[.bool r.used,.int .i64 r.fence,.int .i64 r.de,.int .i64 r.ds,.string r.block,.bool r.op,.int .i64 r.ie,.int .i64 r.is,.int .i64 r.mask,.string r.staged]] w (RetK (.agg (RecM.cells { closedM r with used:=true }).toArray) w):=by
 refine calls_of_holds (S:=(fun _=>False)) (l:=[.agg (List.toArray (rcl_v1 r))]) (n:=10) Try.func33 (body_of (by kernel_rfl)) rfl (by simp) (MemOk.none w _) ?_
 refine hgE 19 [oh0,oh0,oh0,(oA 0 1 1),oh0,(oA 0 2 2),oh0,(oA 0 4 1),oh0,(oA 1 0 10)] [2] [] [(w.heap.size,1,1),(w.heap.size,2,2),(w.heap.size,4,1),(w.heap.size + 1,0,10)] [.code [1,1]] ⟨[(2,(pt (w.heap.size + 1) 0))],[⟨w.heap.size,43,true,(rcl_v1 r)⟩,⟨w.heap.size + 1,43,true,(rcl_v2 r)⟩],[],w.heap.size + 2⟩ ?_
 refine hrt [[⟨false,1,0,10⟩]] [.agg (List.toArray (rcl_v2 r))] [(w.heap.size + 1,0,10)] ?_
 intro wx hm
 exact ⟨rfl,hm.kept⟩
def rap_v1 (r:RecM) (q:AskM):List Value:=((rsy_v1 r).set 1 (i6 q.epoch))
def rap_v2 (r:RecM) (q:AskM):List Value:=[i6 1,i6 q.epoch,i6 0,.bool r.used,i6 q.epoch,i6 r.de,i6 r.ds,sT r.block,.bool r.op,i6 r.ie,i6 r.is,i6 r.mask,sT r.staged]
def rap_v3 (q:AskM):List Value:=[i6 q.kind,i6 q.stripe,i6 q.epoch,i6 q.seq,i6 q.mask,i6 q.node,i6 q.oe,i6 q.os,sT q.block]
def rap_v4:List Value:=rsy_v3
def rap_v5:List Value:=rsy_v4
def rap_v6 (r:RecM):List Value:=(rsy_v1 r)
def rap_v7 (r:RecM):List Value:=(rcl_v2 r)
def rap_v8 (r:RecM):List Value:=[i6 1,i6 r.fence,i6 0,.bool true,i6 r.fence,i6 r.de,i6 r.ds,sT r.block,.bool false,i6 0,i6 0,i6 0,sT ⟨#[]⟩]
def rap_v9:List Value:=(rsy_v4.set 0 (.int .i64 6))
def rap_v10 (r:RecM):List Value:=[i6 2,i6 r.fence,i6 0,.bool false,i6 0,i6 0,i6 0,sT ⟨#[]⟩,.bool false,i6 0,i6 0,i6 0,sT ⟨#[]⟩]
def rap_v11 (r:RecM):List Value:=((rap_v10 r).set 0 (i6 1))
def rap_v12 (r:RecM) (q:AskM):List Value:=((((rdn_v2 r).set 2 (i6 q.epoch)).set 3 (i6 q.seq)).set 4 (sT q.block))
def rap_v13 (r:RecM):List Value:=((rap_v10 r).set 0 (i6 4))
def rap_v14 (r:RecM):List Value:=((rap_v10 r).set 0 (i6 3))
def rap_v15 (r:RecM) (q:AskM):List Value:=[.bool r.used,i6 r.fence,i6 r.de,i6 r.ds,sT r.block,.bool true,i6 q.epoch,i6 q.seq,i6 q.mask,sT q.block]
def rap_v16 (r:RecM):List Value:=(rdn_v2 r)
def rap_v17 (r:RecM):List Value:=((rap_v10 r).set 0 (i6 5))
def rap_n1:List Nat:=[1,1,1,1,1,0,1,0,1,1,0]
def rap_n2:List Nat:=[1,1,1,1,1,0,1,0,1,1,1]
def rap_n3:List Nat:=[1,1,1,1,1,1,1,1,0,1,0,1,1,1]
def rap_n4:List Nat:=[1,1,1,1,1,1,1,1,0,1,0,1,1]
def rap_n5:List Nat:=[1,1,1,1,1,1,1,1,0,1,0,1]
def rap_n6:List Nat:=[1,1,1,1,1,1,1,1,1,1,0,1,0,1,0,0]
def rap_n7:List Nat:=[1,1,1,1,1,1,1,1,1,1,0,1,0,1,0,1]
def rap_n8:List Nat:=[1,1,1,1,1,1,1,1,1,1,0,1,0,1,1,1,0,0,0]
def rap_n9:List Nat:=[1,1,1,1,1,1,1,1,1,1,0,1,0,1,1,1,0,0,1,0,0]
def rap_n10:List Nat:=[1,1,1,1,1,1,1,1,1,1,0,1,0,1,1,1,0,0,1,0,1]
def rap_n11:List Nat:=[1,1,1,1,1,1,1,1,1,1,0,1,0,1,1,1,0,0,1]
def rap_n12:List Nat:=[1,1,1,1,1,1,1,1,1,1,0,1,0,1,1,1,0,1,0,1,0,0]
def rap_n13:List Nat:=[1,1,1,1,1,1,1,1,1,1,0,1,0,1,1,1,0,1,0,1,0,1]
def rap_n14:List Nat:=[1,1,1,1,1,1,1,1,1,1,0,1,0,1,1,1,0,1,0,1]
def rap_n15:List Nat:=[1,1,1,1,1,1,1,1,1,1,0,1,0,1,1,1,0,1,1,0,1,0,1]
def rap_n16:List Nat:=[1,1,1,1,1,1,1,1,1,1,0,1,0,1,1,1,0,1,1,1,1,1,1,1,1]
def rap_n17:List Nat:=[1,1,1,1,1,1,1,1,1,1,0,1,0,1,1,1,0,1,1,1]
def rap_n18:List Nat:=[1,1,1,1,1,1,1,1,1,1,0,1,0,1,1,1,0,1,1]
def rap_n19:List Nat:=[1,1,1,1,1,1,1,1,1,1,0,1,0,1,1,1,0,1]
def rap_n20:List Nat:=[1,1,1,1,1,1,1,1,1,1,0,1,0,1,1,1,1,1,0,0,1,0,0]
def rap_n21:List Nat:=[1,1,1,1,1,1,1,1,1,1,0,1,0,1,1,1,1,1,0,0,1,0,1]
def rap_n22:List Nat:=[1,1,1,1,1,1,1,1,1,1,0,1,0,1,1,1,1,1,0,0,1]
def rap_n23:List Nat:=[1,1,1,1,1,1,1,1,1,1,0,1,0,1,1,1,1,1,0,1,0,1,0,0]
def rap_n24:List Nat:=[1,1,1,1,1,1,1,1,1,1,0,1,0,1,1,1,1,1,0,1,0,1,0,1]
def rap_n25:List Nat:=[1,1,1,1,1,1,1,1,1,1,0,1,0,1,1,1,1,1,0,1,0,1]
def rap_n26:List Nat:=[1,1,1,1,1,1,1,1,1,1,0,1,0,1,1,1,1,1,0,1,1,0]
def rap_n27:List Nat:=[1,1,1,1,1,1,1,1,1,1,0,1,0,1,1,1,1,1,0,1,1,1]
def rap_n28:List Nat:=[1,1,1,1,1,1,1,1,1,1,0,1,0,1,1,1,1,1,0,1,1]
def rap_n29:List Nat:=[1,1,1,1,1,1,1,1,1,1,0,1,0,1,1,1,1,1,0,1]
def rap_n30:List Nat:=[1,1,1,1,1,1,1,1,1,1,0,1,0,1,1,1,1,1,1,1,0,0,0]
def rap_n31:List Nat:=[1,1,1,1,1,1,1,1,1,1,0,1,0,1,1,1,1,1,1,1,0,0,1,0,0]
def rap_n32:List Nat:=[1,1,1,1,1,1,1,1,1,1,0,1,0,1,1,1,1,1,1,1,0,0,1,0,1]
def rap_n33:List Nat:=[1,1,1,1,1,1,1,1,1,1,0,1,0,1,1,1,1,1,1,1,0,0,1]
def rap_n34:List Nat:=[1,1,1,1,1,1,1,1,1,1,0,1,0,1,1,1,1,1,1,1,0,1,1,0,0]
def rap_n35:List Nat:=[1,1,1,1,1,1,1,1,1,1,0,1,0,1,1,1,1,1,1,1,0,1,1,0,1]
def rap_n36:List Nat:=[1,1,1,1,1,1,1,1,1,1,0,1,0,1,1,1,1,1,1,1,0,1]
def rap_n37:List Nat:=[1,1,1,1,1,1,1,1,1,1,1,0]
def rap_n38:List Nat:=[1,1,1,1,1,1,1,1,1,1,1,1]
def rap_n39:List Nat:=[1,1,1,1,1,1,1,1,1,1,1]
def rap_n40:List Nat:=[1,1,1,1,1,1,1,1,1,1]
def rap_n41:List Nat:=[1,1,1,1,1,1,1,1,1]
def rap_n42:List OH:=[oh0,oh0,⟨false,0,[⟨false,2,0,10⟩]⟩,⟨false,0,[⟨false,3,0,13⟩]⟩]
def rap_n43:List OH:=[oh0,⟨false,0,[⟨false,0,0,10⟩]⟩]
def rap_n44:List OH:=[oh1,⟨false,0,[⟨false,0,0,10⟩]⟩]
@[simp] def rap_b1 (r:RecM) (q:AskM) (w:World) (z4:Nat):List Bk:=[⟨w.heap.size,43,true,(rap_v1 r q)⟩,⟨w.heap.size + 1,35,true,(rap_v3 q)⟩,⟨w.heap.size + 2,43,true,(rap_v4)⟩,⟨w.heap.size + 3,45,true,(rap_v5)⟩,⟨z4,33,true,[i6 q.epoch,i6 q.seq]⟩]
@[simp] def rap_b2 (r:RecM) (q:AskM) (w:World) (z4:Nat):List Bk:=[⟨w.heap.size,43,true,(rap_v1 r q)⟩,⟨w.heap.size + 1,35,true,(rap_v3 q)⟩,⟨w.heap.size + 2,43,true,(rap_v1 r q)⟩,⟨w.heap.size + 3,45,true,(rap_v5)⟩,⟨z4,33,true,[i6 q.epoch,i6 q.seq]⟩]
@[simp] def rap_b3 (r:RecM) (q:AskM) (w:World) (z4:Nat):List Bk:=[⟨w.heap.size,43,true,(rap_v1 r q)⟩,⟨w.heap.size + 1,35,true,(rap_v3 q)⟩,⟨w.heap.size + 2,43,true,(rap_v1 r q)⟩,⟨w.heap.size + 3,45,true,(rap_v2 r q)⟩,⟨z4,33,true,[i6 q.epoch,i6 q.seq]⟩]
@[simp] def rap_b4 (r:RecM) (q:AskM) (w:World) (z4:Nat):List Bk:=[⟨w.heap.size,43,true,(rap_v6 r)⟩,⟨w.heap.size + 1,35,true,(rap_v3 q)⟩,⟨w.heap.size + 2,43,true,(rap_v4)⟩,⟨w.heap.size + 3,45,true,(rap_v5)⟩,⟨z4,33,true,[i6 q.epoch,i6 q.seq]⟩]
@[simp] def rap_b5 (r:RecM) (q:AskM) (w:World) (z4:Nat):List Bk:=[⟨w.heap.size,43,true,(rap_v6 r)⟩,⟨w.heap.size + 1,35,true,(rap_v3 q)⟩,⟨w.heap.size + 2,43,true,(rap_v6 r)⟩,⟨w.heap.size + 3,45,true,(rap_v5)⟩,⟨z4,33,true,[i6 q.epoch,i6 q.seq]⟩]
@[simp] def rap_b6 (r:RecM) (q:AskM) (w:World) (z4:Nat):List Bk:=[⟨w.heap.size,43,true,(rap_v6 r)⟩,⟨w.heap.size + 1,35,true,(rap_v3 q)⟩,⟨w.heap.size + 2,43,true,(rap_v6 r)⟩,⟨w.heap.size + 3,45,true,(rap_v8 r)⟩,⟨z4,33,true,[i6 q.epoch,i6 q.seq]⟩]
@[simp] def rap_b7 (r:RecM) (q:AskM) (w:World):List Bk:=[⟨w.heap.size,43,true,(rap_v6 r)⟩,⟨w.heap.size + 1,35,true,(rap_v3 q)⟩,⟨w.heap.size + 2,43,true,(rap_v4)⟩,⟨w.heap.size + 3,45,true,(rap_v5)⟩]
@[simp] def rap_b8 (r:RecM) (q:AskM) (w:World) (z4:Nat):List Bk:=[⟨w.heap.size,43,true,(rap_v6 r)⟩,⟨w.heap.size + 1,35,true,(rap_v3 q)⟩,⟨w.heap.size + 2,43,true,(rap_v6 r)⟩,⟨w.heap.size + 3,45,true,(rap_v10 r)⟩,⟨z4,33,true,[i6 q.epoch,i6 q.seq]⟩]
@[simp] def rap_b9 (r:RecM) (q:AskM) (w:World) (z4:Nat):List Bk:=[⟨w.heap.size,43,true,(rap_v6 r)⟩,⟨w.heap.size + 1,35,true,(rap_v3 q)⟩,⟨w.heap.size + 2,43,true,(rap_v6 r)⟩,⟨w.heap.size + 3,45,true,(rap_v11 r)⟩,⟨z4,33,true,[i6 q.epoch,i6 q.seq]⟩]
@[simp] def rap_b10 (r:RecM) (q:AskM) (w:World) (z4:Nat):List Bk:=[⟨w.heap.size,43,true,(rap_v6 r)⟩,⟨w.heap.size + 1,35,true,(rap_v3 q)⟩,⟨w.heap.size + 2,43,true,(rap_v12 r q)⟩,⟨w.heap.size + 3,45,true,(rap_v11 r)⟩,⟨z4,33,true,[i6 q.epoch,i6 q.seq]⟩]
@[simp] def rap_b11 (r:RecM) (q:AskM) (w:World) (z4:Nat):List Bk:=[⟨w.heap.size,43,true,(rap_v6 r)⟩,⟨w.heap.size + 1,35,true,(rap_v3 q)⟩,⟨w.heap.size + 2,43,true,(rap_v6 r)⟩,⟨w.heap.size + 3,45,true,(rap_v13 r)⟩,⟨z4,33,true,[i6 q.epoch,i6 q.seq]⟩]
@[simp] def rap_b12 (r:RecM) (q:AskM) (w:World) (z4:Nat):List Bk:=[⟨w.heap.size,43,true,(rap_v6 r)⟩,⟨w.heap.size + 1,35,true,(rap_v3 q)⟩,⟨w.heap.size + 2,43,true,(rap_v16 r)⟩,⟨w.heap.size + 3,45,true,(rap_v11 r)⟩,⟨z4,33,true,[i6 q.epoch,i6 q.seq]⟩]
def rap_g15s (w:World) (z4:Nat):List (Nat × Value):=[(2,(pt w.heap.size 0)),(3,(pt (w.heap.size + 1) 0)),(4,(pt (w.heap.size + 2) 0)),(5,(pt (w.heap.size + 3) 0)),(8,(pt z4 0))]
def rap_g15v (r:RecM) (q:AskM) (w:World):List (Option Value):=[some (.agg (List.toArray (rap_v1 r q))),some ((pt w.heap.size 1)),some (i6 q.epoch),some (.agg (List.toArray (rap_v1 r q))),some (.agg (List.toArray (rap_v2 r q))),some (.tuple #[]),some (.tuple #[])]
def rap_g15m (r:RecM) (q:AskM) (w:World) (z4:Nat):List (List Bk):=[(rap_b1 r q w z4),(rap_b2 r q w z4),(rap_b3 r q w z4)]
def rap_g15t:List (Option Nat):=[none,none,none,none,none,some 0,some 1]
theorem rap_g15_5 (r:RecM) (q:AskM) (w:World) (z4:Nat):∀ sz,opG Try.prog (opsOf (getCode (bodyOf Try.f19) rap_n1)) ⟨slG (opsOf (getCode (bodyOf Try.f19) rap_n1)) (rap_g15v r q w) (slI (opsOf (getCode (bodyOf Try.f19) rap_n1)) (rap_g15s w z4) 5) (needsOf (opsOf (getCode (bodyOf Try.f19) rap_n1)) 5),(rap_b1 r q w z4),[],sz⟩ 5 (oA 2 0 10) = some ([],dupR [(w.heap.size + 2,0,10)],undef,(rap_b2 r q w z4),sz):=fun sz=>by kernel_rfl
theorem rap_g15_6 (r:RecM) (q:AskM) (w:World) (z4:Nat):∀ sz,opG Try.prog (opsOf (getCode (bodyOf Try.f19) rap_n1)) ⟨slG (opsOf (getCode (bodyOf Try.f19) rap_n1)) (rap_g15v r q w) (slI (opsOf (getCode (bodyOf Try.f19) rap_n1)) (rap_g15s w z4) 6) (needsOf (opsOf (getCode (bodyOf Try.f19) rap_n1)) 6),(rap_b2 r q w z4),[],sz⟩ 6 (oA 3 0 13) = some ([],dupR [(w.heap.size + 3,0,13)],undef,(rap_b3 r q w z4),sz):=fun sz=>by kernel_rfl
def rap_g15C (r:RecM) (q:AskM) (w:World) (z4:Nat) (i_:Nat):Prop:=CertG (wpOp Try.prog (opsOf (getCode (bodyOf Try.f19) rap_n1)) (sem Try.prog (bodyOf Try.f19) (bodyPost Try.prog Try.f19 (RetK (outV (applyM r q)) w)) [.code rap_n2,.code [1,1,1,1,1,1]])) [] 235 (opsOf (getCode (bodyOf Try.f19) rap_n1)) (slI (opsOf (getCode (bodyOf Try.f19) rap_n1)) (rap_g15s w z4) i_) (rap_g15t) 2 (MG w (fun _=>False) (rap_g15m r q w z4) [] (z4 + 1)) (Turned (rap_b1 r q w z4)) (PvG (rap_g15v r q w) (fun _ _ _=>False)) i_
def rap_g48s (w:World):List (Nat × Value):=[(2,(pt w.heap.size 0)),(4,(pt (w.heap.size + 2) 0)),(5,(pt (w.heap.size + 3) 0))]
def rap_g48v (r:RecM) (w:World):List (Option Value):=[some (.agg (List.toArray (rap_v6 r))),some ((pt w.heap.size 1)),some (i6 r.fence),some (.agg (List.toArray (rap_v6 r))),some (.agg (List.toArray (rap_v7 r))),some (.agg (List.toArray (rap_v8 r))),some (.tuple #[]),some (.tuple #[])]
def rap_g48m (r:RecM) (q:AskM) (w:World) (z4:Nat):List (List Bk):=[(rap_b4 r q w z4),(rap_b5 r q w z4),(rap_b6 r q w z4)]
def rap_g48t:List (Option Nat):=[none,none,none,none,none,none,some 0,some 1]
theorem rap_g48_4 (r:RecM) (w:World):callAt Try.prog (opsOf (getCode (bodyOf Try.f19) rap_n6)) (slG (opsOf (getCode (bodyOf Try.f19) rap_n6)) (rap_g48v r w) (slI (opsOf (getCode (bodyOf Try.f19) rap_n6)) (rap_g48s w) 4) (needsOf (opsOf (getCode (bodyOf Try.f19) rap_n6)) 4)) 4 = some (33,[.agg (List.toArray (rap_v6 r))],dstOf (opsOf (getCode (bodyOf Try.f19) rap_n6)) 4,[]):=by kernel_rfl
theorem rap_g48_6 (r:RecM) (q:AskM) (w:World) (z4:Nat):∀ sz,opG Try.prog (opsOf (getCode (bodyOf Try.f19) rap_n6)) ⟨slG (opsOf (getCode (bodyOf Try.f19) rap_n6)) (rap_g48v r w) (slI (opsOf (getCode (bodyOf Try.f19) rap_n6)) (rap_g48s w) 6) (needsOf (opsOf (getCode (bodyOf Try.f19) rap_n6)) 6),(rap_b4 r q w z4),[],sz⟩ 6 (oA 2 0 10) = some ([],dupR [(w.heap.size + 2,0,10)],undef,(rap_b5 r q w z4),sz):=fun sz=>by kernel_rfl
theorem rap_g48_7 (r:RecM) (q:AskM) (w:World) (z4:Nat):∀ sz,opG Try.prog (opsOf (getCode (bodyOf Try.f19) rap_n6)) ⟨slG (opsOf (getCode (bodyOf Try.f19) rap_n6)) (rap_g48v r w) (slI (opsOf (getCode (bodyOf Try.f19) rap_n6)) (rap_g48s w) 7) (needsOf (opsOf (getCode (bodyOf Try.f19) rap_n6)) 7),(rap_b5 r q w z4),[],sz⟩ 7 (oA 3 0 13) = some ([],dupR [(w.heap.size + 3,0,13)],undef,(rap_b6 r q w z4),sz):=fun sz=>by kernel_rfl
def rap_g48C (r:RecM) (q:AskM) (w:World) (z4:Nat) (z24:Nat) (i_:Nat):Prop:=CertG (wpOp Try.prog (opsOf (getCode (bodyOf Try.f19) rap_n6)) (sem Try.prog (bodyOf Try.f19) (bodyPost Try.prog Try.f19 (RetK (outV (applyM r q)) w)) [.code rap_n7,.blk 0,.code rap_n39])) [] 235 (opsOf (getCode (bodyOf Try.f19) rap_n6)) (slI (opsOf (getCode (bodyOf Try.f19) rap_n6)) (rap_g48s w) i_) (rap_g48t) 2 (MG w (fun _=>False) (rap_g48m r q w z4) [] z24) (Turned (rap_b4 r q w z4)) (PvG (rap_g48v r w) (fun _ _ _=>False)) i_
set_option maxRecDepth 100000 in
set_option maxHeartbeats 4000000 in
theorem refApply (r:RecM) (q:AskM) (hr:RecOk r) (hq:AskOk q) (w:World) :
  Calls Try.prog 19 #[.agg #[.bool r.used,.int .i64 r.fence,.int .i64 r.de,.int .i64 r.ds,.string r.block,.bool r.op,.int .i64 r.ie,.int .i64 r.is,.int .i64 r.mask,.string r.staged],.agg #[.int .i64 q.kind,.int .i64 q.stripe,.int .i64 q.epoch,.int .i64 q.seq,.int .i64 q.mask,.int .i64 q.node,.int .i64 q.oe,.int .i64 q.os,.string q.block]] w (RetK (outV (applyM r q)) w):=by
 have hkd:=hq.kind
 refine calls_of_holds (S:=(fun _=>False)) (l:=[.agg (List.toArray (rap_v6 r)),.agg (List.toArray (rap_v3 q))]) (n:=235) Try.func19 (body_of (by kernel_rfl)) rfl (by simp) (MemOk.none w _) ?_
 refine hgE 13 [oh0,oh0,oh0,oh0,(oA 0 0 10)] [2,3,4,5,10] [] [(w.heap.size,0,10)] [.ops [1,0] [1,2],.code [1,1]] ⟨[(2,(pt w.heap.size 0)),(3,(pt (w.heap.size + 1) 0)),(4,(pt (w.heap.size + 2) 0)),(5,(pt (w.heap.size + 3) 0)),(10,.agg (List.toArray (rap_v6 r)))],(rap_b7 r q w),[],w.heap.size + 4⟩ ?_
 refine hcp (.bool true) 29 [.agg (List.toArray (rap_v6 r))] (some 11) [] tI rfl (fun wx hm=>by have h:=refRight_any r wx; rw [(okB_iff r).2 hr] at h; exact h) fun z2 hz2=>?_
 replace hz2:w.heap.size + 4 ≤ z2:=hz2
 refine hgE 8 [oh0,(oA 1 0 9)] [2,3,4,5,6,12] [] [(w.heap.size + 1,0,9)] [.ops [1,1,0] [1,2],.code [1,1,1]] ⟨[(2,(pt w.heap.size 0)),(3,(pt (w.heap.size + 1) 0)),(4,(pt (w.heap.size + 2) 0)),(5,(pt (w.heap.size + 3) 0)),(6,.bool true),(12,.agg (List.toArray (rap_v3 q)))],(rap_b7 r q w),[],z2⟩ ?_
 refine hcp (.bool true) 30 [.agg (List.toArray (rap_v3 q))] (some 13) [] tI rfl (fun wx hm=>refRightP q hq wx) fun z4 hz4=>?_
 replace hz4:z2 ≤ z4:=hz4
 refine hgE 25 [oh0,oh0,oh0,oh0,oh0,oh0,⟨false,3,[]⟩,oh0,oh0,(oA 1 0 1),oh0,⟨false,3,[]⟩,oh0,oh0,(oA 1 0 1),oh0,⟨false,3,[]⟩] [2,3,4,5,29] [fF,fF,fF,fF,fF,fF,fF,dF ((q.kind:Int) < 1),dF ((q.kind:Int) < 1),dF ((q.kind:Int) < 1),dF ((q.kind:Int) < 1)] [(w.heap.size + 1,0,1),(w.heap.size + 1,0,1)] [.code [1,1,1,0,1],.code [1,1,1,1]] ⟨[(2,(pt w.heap.size 0)),(3,(pt (w.heap.size + 1) 0)),(4,(pt (w.heap.size + 2) 0)),(5,(pt (w.heap.size + 3) 0)),(29,.bool (decide ((q.kind:Int) > 7)))],(rap_b7 r q w),[],z4⟩ ?_
 rcases Bool.eq_false_or_eq_true (decide ((q.kind:Int) > 7)) with d1 | d1
 ·skip
  refine hgE 11 [oh1,(oA 0 0 10),oh0,(oA 2 0 10),(oA 3 0 13)] [2,3,4,5] [eD d1] [(w.heap.size,0,10),(w.heap.size + 2,0,10),(w.heap.size + 3,0,13)] [.code [1,1,1,0,1,0,1],.code [1,1,1,1]] ⟨[(2,(pt w.heap.size 0)),(3,(pt (w.heap.size + 1) 0)),(4,(pt (w.heap.size + 2) 0)),(5,(pt (w.heap.size + 3) 0))],[⟨w.heap.size,43,true,(rap_v6 r)⟩,⟨w.heap.size + 1,35,true,(rap_v3 q)⟩,⟨w.heap.size + 2,43,true,(rap_v6 r)⟩,⟨w.heap.size + 3,45,true,(rap_v9)⟩],[],z4⟩ ?_
  refine hrt [[⟨false,2,0,10⟩],[⟨false,3,0,13⟩]] [.agg (List.toArray (rap_v6 r)),.agg (List.toArray (rap_v9))] [(w.heap.size + 2,0,10),(w.heap.size + 3,0,13)] ?_
  intro wx hm
  refine ⟨?_,hm.kept⟩
  simp only [applyM,d1,cond_true]
  show _ = Ending.returned (outV _)
  rfl
 ·skip
  refine hgE 22 [oh0,oh0,(oA 1 2 1),oh0,(oA 1 3 1),oh0,oh0,(oA 4 0 2),oh0,(oA 1 0 1),oh0] [2,3,4,5,8,39] [eD d1] [(w.heap.size + 1,2,1),(w.heap.size + 1,3,1),(z4,0,2),(w.heap.size + 1,0,1)] [.code [1,1,1,1,1,0,1],.code [1,1,1,1,1,1]] ⟨[(2,(pt w.heap.size 0)),(3,(pt (w.heap.size + 1) 0)),(4,(pt (w.heap.size + 2) 0)),(5,(pt (w.heap.size + 3) 0)),(8,(pt z4 0)),(39,.bool (q.kind == 1))],(rap_b4 r q w z4),[],z4 + 1⟩ ?_
  rcases Bool.eq_false_or_eq_true (q.kind == 1) with d2 | d2
  ·skip
   refine hgE 13 [oh1,oh0,(oA 1 2 1),oh0,(oA 0 1 1),oh0] [2,3,4,5,8,44] [eD d2] [(w.heap.size + 1,2,1),(w.heap.size,1,1)] [.code [1,1,1,1,1,0,1,0,0,1],.code [1,1,1,1,1,0,1,0,1],.code [1,1,1,1,1,1]] ⟨[(2,(pt w.heap.size 0)),(3,(pt (w.heap.size + 1) 0)),(4,(pt (w.heap.size + 2) 0)),(5,(pt (w.heap.size + 3) 0)),(8,(pt z4 0)),(44,.bool (decide ((q.epoch:Int) < r.fence)))],(rap_b4 r q w z4),[],z4 + 1⟩ ?_
   rcases Bool.eq_false_or_eq_true (decide ((q.epoch:Int) < r.fence)) with d3 | d3
   ·skip
    refine hgE 7 rap_n44 [2,3,4,5,8,45] [eD d3] [(w.heap.size,0,10)] [.ops [1,1,1,1,1,0,1,0,0,1,0,0] [1,2,3,4,5],.code [1,1,1,1,1,0,1,0,0,1,0,1],.code [1,1,1,1,1,0,1,0,1],.code [1,1,1,1,1,1]] ⟨[(2,(pt w.heap.size 0)),(3,(pt (w.heap.size + 1) 0)),(4,(pt (w.heap.size + 2) 0)),(5,(pt (w.heap.size + 3) 0)),(8,(pt z4 0)),(45,.agg (List.toArray (rap_v6 r)))],(rap_b4 r q w z4),[],z4 + 1⟩ ?_
    refine hcp (.tuple #[.agg (List.toArray (rap_v6 r)),.agg (List.toArray (rap_v10 r))]) 31 [.agg (List.toArray (rap_v6 r)),i6 2] (some 46) [] tI rfl (fun wx hm=>refSay_any (⟨r.used,r.fence,r.de,r.ds,r.block,r.op,r.ie,r.is,r.mask,r.staged⟩:RecM) 2 wx) fun z11 hz11=>?_
    replace hz11:z4 + 1 ≤ z11:=hz11
    refine hgE 8 rap_n42 [2,3,4,5,8] [] [(w.heap.size + 2,0,10),(w.heap.size + 3,0,13)] [.code [1,1,1,1,1,0,1,0,0,1,0,1],.code [1,1,1,1,1,0,1,0,1],.code [1,1,1,1,1,1]] ⟨[(2,(pt w.heap.size 0)),(3,(pt (w.heap.size + 1) 0)),(4,(pt (w.heap.size + 2) 0)),(5,(pt (w.heap.size + 3) 0)),(8,(pt z4 0))],(rap_b8 r q w z4),[],z11⟩ ?_
    refine hrt [[⟨false,2,0,10⟩],[⟨false,3,0,13⟩]] [.agg (List.toArray (rap_v6 r)),.agg (List.toArray (rap_v10 r))] [(w.heap.size + 2,0,10),(w.heap.size + 3,0,13)] ?_
    intro wx hm
    refine ⟨?_,hm.kept⟩
    simp only [applyM,turnM,chosenF,fenceM,d1,d2,d3,cond_true,cond_false]
    show _ = Ending.returned (outV _)
    rfl
   ·skip
    refine hgE 13 [oh0,oh0,(oA 1 2 1),oh0,(oA 0 1 1)] [2,3,4,5,8] [eD d3] [(w.heap.size + 1,2,1),(w.heap.size,1,1)] [.code rap_n1,.code rap_n2,.code [1,1,1,1,1,1]] ⟨[(2,(pt w.heap.size 0)),(3,(pt (w.heap.size + 1) 0)),(4,(pt (w.heap.size + 2) 0)),(5,(pt (w.heap.size + 3) 0)),(8,(pt z4 0))],(rap_b1 r q w z4),[],z4 + 1⟩ ?_
    have rap_g15_c5:rap_g15C r q w z4 5:=cert_store (s:=0) (v:=undef) (by kernel_rfl) (by kernel_rfl) (by kernel_rfl) (by kernel_rfl) (by kernel_rfl) (rap_g15_5 r q w z4) trivial
    have rap_g15_c6:rap_g15C r q w z4 6:=cert_store (s:=1) (v:=undef) (by kernel_rfl) (by kernel_rfl) (by kernel_rfl) (by kernel_rfl) (by kernel_rfl) (rap_g15_6 r q w z4) trivial
    have rap_g15_R:∀ e_ ∈ (rZs [1,4] ++ [⟨0,⟨false,0,[⟨false,0,0,10⟩]⟩,[],[(w.heap.size,0,10)]⟩,⟨2,⟨false,0,[⟨false,0,1,1⟩]⟩,[],[(w.heap.size,1,1)]⟩,⟨3,⟨false,0,[⟨false,0,0,10⟩]⟩,[],[(w.heap.size,0,10)]⟩]:List RegE),rap_g15C r q w z4 e_.i:=certs_reg (by kernel_rfl) _ (fun sz=>by kernel_rfl)
    refine holds_mixG (vs:=(rap_g15v r q w)) (ms:=(rap_g15m r q w z4)) (stg:=(rap_g15t)) (J:=2) (sl':=[(2,(pt w.heap.size 0)),(3,(pt (w.heap.size + 1) 0)),(4,(pt (w.heap.size + 2) 0)),(5,(pt (w.heap.size + 3) 0)),(8,(pt z4 0))]) (bk':=(rap_b3 r q w z4)) (fun _ _ _=>False) [2,3,4,5,8] (by kernel_rfl) (by kernel_rfl) (by kernel_rfl) (fun _ _ _ _ h=>h.elim) (certs_mix rap_g15_R [5,6] ⟨rap_g15_c5,rap_g15_c6,tI⟩ (by kernel_rfl)) (by kernel_rfl) (by kernel_rfl) (by kernel_rfl) (fun z15 hz15=>?_)
    replace hz15:z4 + 1 ≤ z15:=hz15
    refine hgE 3 [] [2,3,4,5,8] [] [] [.code rap_n2,.code [1,1,1,1,1,1]] ⟨[(2,(pt w.heap.size 0)),(3,(pt (w.heap.size + 1) 0)),(4,(pt (w.heap.size + 2) 0)),(5,(pt (w.heap.size + 3) 0)),(8,(pt z4 0))],(rap_b3 r q w z4),[],z15⟩ ?_
    refine hrt [[⟨false,2,0,10⟩],[⟨false,3,0,13⟩]] [.agg (List.toArray (rap_v1 r q)),.agg (List.toArray (rap_v2 r q))] [(w.heap.size + 2,0,10),(w.heap.size + 3,0,13)] ?_
    intro wx hm
    refine ⟨?_,hm.kept⟩
    simp only [applyM,turnM,chosenF,fenceM,followM,d1,d2,d3,cond_true,cond_false]
    show _ = Ending.returned (outV _)
    rfl
  ·skip
   refine hgE 14 [oh0,oh0,(oA 1 2 1),oh0,(oA 0 1 1),oh0] [2,3,4,5,8,61] [eD d2] [(w.heap.size + 1,2,1),(w.heap.size,1,1)] [.code [1,1,1,1,1,1,0,1],.code [1,1,1,1,1,1,1]] ⟨[(2,(pt w.heap.size 0)),(3,(pt (w.heap.size + 1) 0)),(4,(pt (w.heap.size + 2) 0)),(5,(pt (w.heap.size + 3) 0)),(8,(pt z4 0)),(61,.bool (q.epoch != r.fence))],(rap_b4 r q w z4),[],z4 + 1⟩ ?_
   rcases Bool.eq_false_or_eq_true (q.epoch != r.fence) with d4 | d4
   ·skip
    refine hgE 7 rap_n44 [2,3,4,5,8,62] [eD d4] [(w.heap.size,0,10)] [.ops [1,1,1,1,1,1,0,1,0,0] [1,2,3,4,5],.code [1,1,1,1,1,1,0,1,0,1],.code [1,1,1,1,1,1,1]] ⟨[(2,(pt w.heap.size 0)),(3,(pt (w.heap.size + 1) 0)),(4,(pt (w.heap.size + 2) 0)),(5,(pt (w.heap.size + 3) 0)),(8,(pt z4 0)),(62,.agg (List.toArray (rap_v6 r)))],(rap_b4 r q w z4),[],z4 + 1⟩ ?_
    refine hcp (.tuple #[.agg (List.toArray (rap_v6 r)),.agg (List.toArray (rap_v10 r))]) 31 [.agg (List.toArray (rap_v6 r)),i6 2] (some 63) [] tI rfl (fun wx hm=>refSay_any (⟨r.used,r.fence,r.de,r.ds,r.block,r.op,r.ie,r.is,r.mask,r.staged⟩:RecM) 2 wx) fun z20 hz20=>?_
    replace hz20:z4 + 1 ≤ z20:=hz20
    refine hgE 8 rap_n42 [2,3,4,5,8] [] [(w.heap.size + 2,0,10),(w.heap.size + 3,0,13)] [.code [1,1,1,1,1,1,0,1,0,1],.code [1,1,1,1,1,1,1]] ⟨[(2,(pt w.heap.size 0)),(3,(pt (w.heap.size + 1) 0)),(4,(pt (w.heap.size + 2) 0)),(5,(pt (w.heap.size + 3) 0)),(8,(pt z4 0))],(rap_b8 r q w z4),[],z20⟩ ?_
    refine hrt [[⟨false,2,0,10⟩],[⟨false,3,0,13⟩]] [.agg (List.toArray (rap_v6 r)),.agg (List.toArray (rap_v10 r))] [(w.heap.size + 2,0,10),(w.heap.size + 3,0,13)] ?_
    intro wx hm
    refine ⟨?_,hm.kept⟩
    simp only [applyM,turnM,chosenF,d1,d2,d4,cond_true,cond_false]
    show _ = Ending.returned (outV _)
    rfl
   ·skip
    refine hgE 10 [oh0,oh0,(oA 0 2 2),(oA 4 0 2)] [2,3,4,5,8,67,68] [eD d4] [(w.heap.size,2,2),(z4,0,2)] [.ops [1,1,1,1,1,1,1,0] [3,4,5],.code [1,1,1,1,1,1,1,1]] ⟨[(2,(pt w.heap.size 0)),(3,(pt (w.heap.size + 1) 0)),(4,(pt (w.heap.size + 2) 0)),(5,(pt (w.heap.size + 3) 0)),(8,(pt z4 0)),(67,.agg #[i6 r.de,i6 r.ds]),(68,.agg #[i6 q.epoch,i6 q.seq])],(rap_b4 r q w z4),[],z4 + 1⟩ ?_
    refine hcp (.bool (beforeM r.de r.ds q.epoch q.seq)) 32 [.agg #[i6 r.de,i6 r.ds],.agg #[i6 q.epoch,i6 q.seq]] (some 69) [] tI rfl (fun wx hm=>refBefore_any _ _ _ _ wx) fun z24 hz24=>?_
    replace hz24:z4 + 1 ≤ z24:=hz24
    refine hgE 13 [oh0,oh0,oh0,(oA 1 0 1),oh0] [2,3,4,5,8,9,73] [] [(w.heap.size + 1,0,1)] [.code [1,1,1,1,1,1,1,1,0,1],.code rap_n41] ⟨[(2,(pt w.heap.size 0)),(3,(pt (w.heap.size + 1) 0)),(4,(pt (w.heap.size + 2) 0)),(5,(pt (w.heap.size + 3) 0)),(8,(pt z4 0)),(9,.bool (!(beforeM r.de r.ds q.epoch q.seq))),(73,.bool (q.kind == 7))],(rap_b4 r q w z4),[],z24⟩ ?_
    rcases Bool.eq_false_or_eq_true (q.kind == 7) with d5 | d5
    ·skip
     refine hgE 10 [oh1,oh0,(oA 0 0 1),oh0] [2,3,4,5,8,9,76] [eD d5] [(w.heap.size,0,1)] [.ops [1,1,1,1,1,1,1,1,0,1,0,0,0] [3,4,5,6,7],.code [1,1,1,1,1,1,1,1,0,1,0,0,1],.code rap_n5,.code rap_n41] ⟨[(2,(pt w.heap.size 0)),(3,(pt (w.heap.size + 1) 0)),(4,(pt (w.heap.size + 2) 0)),(5,(pt (w.heap.size + 3) 0)),(8,(pt z4 0)),(9,.bool (!(beforeM r.de r.ds q.epoch q.seq))),(76,.bool r.used)],(rap_b4 r q w z4),[],z24⟩ ?_
     rcases Bool.eq_false_or_eq_true (r.used) with d6 | d6
     ·skip
      refine hgE 9 [oh1,⟨true,0,[⟨false,0,2,2⟩]⟩,⟨true,0,[⟨false,4,0,2⟩]⟩,⟨true,1,[]⟩,oh3] [2,3,4,5,8,9,81] [eD d6,eD d6,eD d6,eD d6,vV,eD d6] [(w.heap.size,2,2),(z4,0,2)] [.code [1,1,1,1,1,1,1,1,0,1,0,0,1],.code rap_n5,.code rap_n41] ⟨[(2,(pt w.heap.size 0)),(3,(pt (w.heap.size + 1) 0)),(4,(pt (w.heap.size + 2) 0)),(5,(pt (w.heap.size + 3) 0)),(8,(pt z4 0)),(9,.bool (!(beforeM r.de r.ds q.epoch q.seq))),(81,.bool (((r.de:Int) == q.epoch) && (((r.ds:Int) == q.seq) && true)))],(rap_b4 r q w z4),[],z24⟩ ?_
      rcases Bool.eq_false_or_eq_true ((((r.de:Int) == q.epoch) && (((r.ds:Int) == q.seq) && true))) with d7 | d7
      ·skip
       refine hgE 7 rap_n44 [2,3,4,5,8,9,82] [eD d7] [(w.heap.size,0,10)] [.ops [1,1,1,1,1,1,1,1,0,1,0,0,1,0,0] [1,2,3,4,5],.code [1,1,1,1,1,1,1,1,0,1,0,0,1,0,1],.code rap_n5,.code rap_n41] ⟨[(2,(pt w.heap.size 0)),(3,(pt (w.heap.size + 1) 0)),(4,(pt (w.heap.size + 2) 0)),(5,(pt (w.heap.size + 3) 0)),(8,(pt z4 0)),(9,.bool (!(beforeM r.de r.ds q.epoch q.seq))),(82,.agg (List.toArray (rap_v6 r)))],(rap_b4 r q w z4),[],z24⟩ ?_
       refine hcp (.tuple #[.agg (List.toArray (rap_v6 r)),.agg (List.toArray (rap_v11 r))]) 31 [.agg (List.toArray (rap_v6 r)),i6 1] (some 83) [] tI rfl (fun wx hm=>refSay_any (⟨r.used,r.fence,r.de,r.ds,r.block,r.op,r.ie,r.is,r.mask,r.staged⟩:RecM) 1 wx) fun z29 hz29=>?_
       replace hz29:z24 ≤ z29:=hz29
       refine hgE 8 rap_n42 [2,3,4,5,8,9] [] [(w.heap.size + 2,0,10),(w.heap.size + 3,0,13)] [.code [1,1,1,1,1,1,1,1,0,1,0,0,1,0,1],.code rap_n5,.code rap_n41] ⟨[(2,(pt w.heap.size 0)),(3,(pt (w.heap.size + 1) 0)),(4,(pt (w.heap.size + 2) 0)),(5,(pt (w.heap.size + 3) 0)),(8,(pt z4 0)),(9,.bool (!(beforeM r.de r.ds q.epoch q.seq)))],(rap_b9 r q w z4),[],z29⟩ ?_
       refine hrt [[⟨false,2,0,10⟩],[⟨false,3,0,13⟩]] [.agg (List.toArray (rap_v6 r)),.agg (List.toArray (rap_v11 r))] [(w.heap.size + 2,0,10),(w.heap.size + 3,0,13)] ?_
       intro wx hm
       refine ⟨?_,hm.kept⟩
       simp only [applyM,turnM,chosenF,putM,tagEq,d1,d2,d4,d5,d6,d7,cond_true,cond_false]
       show _ = Ending.returned (outV _)
       rfl
      ·skip
       refine hgE 14 [oh0,oh0,(oA 0 0 1),oh0,oh1,oh3] [2,3,4,5,8,9,90] [eD d7,eD d6,eD d6] [(w.heap.size,0,1)] [.code [1,1,1,1,1,1,1,1,0,1,0,1,0,1],.code rap_n4,.code rap_n41] ⟨[(2,(pt w.heap.size 0)),(3,(pt (w.heap.size + 1) 0)),(4,(pt (w.heap.size + 2) 0)),(5,(pt (w.heap.size + 3) 0)),(8,(pt z4 0)),(9,.bool (!(beforeM r.de r.ds q.epoch q.seq))),(90,.bool (!(beforeM r.de r.ds q.epoch q.seq)))],(rap_b4 r q w z4),[],z24⟩ ?_
       rcases Bool.eq_false_or_eq_true (beforeM r.de r.ds q.epoch q.seq) with d8 | d8
       ·skip
        refine hgE 13 [oh0,oh0,(oA 0 1 1),(oA 4 0 2),oh0,(oA 1 8 1),oh0] [2,3,4,5,8,9,100] [eD (nF d8)] [(w.heap.size,1,1),(z4,0,2),(w.heap.size + 1,8,1)] [.ops [1,1,1,1,1,1,1,1,0,1,0,1,1,0] [6,7,8,9,10],.code rap_n3,.code rap_n41] ⟨[(2,(pt w.heap.size 0)),(3,(pt (w.heap.size + 1) 0)),(4,(pt (w.heap.size + 2) 0)),(5,(pt (w.heap.size + 3) 0)),(8,(pt z4 0)),(9,.bool (!(beforeM r.de r.ds q.epoch q.seq))),(100,.agg (List.toArray (rap_v12 r q)))],(rap_b4 r q w z4),[],z24⟩ ?_
        refine hcp (.tuple #[.agg (List.toArray (rap_v12 r q)),.agg (List.toArray (rap_v11 r))]) 31 [.agg (List.toArray (rap_v12 r q)),i6 1] (some 101) [] tI rfl (fun wx hm=>refSay_any (⟨true,r.fence,q.epoch,q.seq,q.block,false,0,0,0,⟨#[]⟩⟩:RecM) 1 wx) fun z34 hz34=>?_
        replace hz34:z24 ≤ z34:=hz34
        refine hgE 8 rap_n42 [2,3,4,5,8,9] [] [(w.heap.size + 2,0,10),(w.heap.size + 3,0,13)] [.code rap_n3,.code rap_n41] ⟨[(2,(pt w.heap.size 0)),(3,(pt (w.heap.size + 1) 0)),(4,(pt (w.heap.size + 2) 0)),(5,(pt (w.heap.size + 3) 0)),(8,(pt z4 0)),(9,.bool (!(beforeM r.de r.ds q.epoch q.seq)))],(rap_b10 r q w z4),[],z34⟩ ?_
        refine hrt [[⟨false,2,0,10⟩],[⟨false,3,0,13⟩]] [.agg (List.toArray (rap_v12 r q)),.agg (List.toArray (rap_v11 r))] [(w.heap.size + 2,0,10),(w.heap.size + 3,0,13)] ?_
        intro wx hm
        refine ⟨?_,hm.kept⟩
        simp only [applyM,turnM,chosenF,putM,tagEq,d1,d2,d4,d5,d6,d7,d8,cond_true,cond_false]
        show _ = Ending.returned (outV _)
        rfl
       ·skip
        refine hgE 7 rap_n44 [2,3,4,5,8,9,91] [eD (nT d8)] [(w.heap.size,0,10)] [.ops [1,1,1,1,1,1,1,1,0,1,0,1,0,1,0,0] [1,2,3,4,5],.code [1,1,1,1,1,1,1,1,0,1,0,1,0,1,0,1],.code rap_n4,.code rap_n41] ⟨[(2,(pt w.heap.size 0)),(3,(pt (w.heap.size + 1) 0)),(4,(pt (w.heap.size + 2) 0)),(5,(pt (w.heap.size + 3) 0)),(8,(pt z4 0)),(9,.bool (!(beforeM r.de r.ds q.epoch q.seq))),(91,.agg (List.toArray (rap_v6 r)))],(rap_b4 r q w z4),[],z24⟩ ?_
        refine hcp (.tuple #[.agg (List.toArray (rap_v6 r)),.agg (List.toArray (rap_v13 r))]) 31 [.agg (List.toArray (rap_v6 r)),i6 4] (some 92) [] tI rfl (fun wx hm=>refSay_any (⟨r.used,r.fence,r.de,r.ds,r.block,r.op,r.ie,r.is,r.mask,r.staged⟩:RecM) 4 wx) fun z38 hz38=>?_
        replace hz38:z24 ≤ z38:=hz38
        refine hgE 8 rap_n42 [2,3,4,5,8,9] [] [(w.heap.size + 2,0,10),(w.heap.size + 3,0,13)] [.code [1,1,1,1,1,1,1,1,0,1,0,1,0,1,0,1],.code rap_n4,.code rap_n41] ⟨[(2,(pt w.heap.size 0)),(3,(pt (w.heap.size + 1) 0)),(4,(pt (w.heap.size + 2) 0)),(5,(pt (w.heap.size + 3) 0)),(8,(pt z4 0)),(9,.bool (!(beforeM r.de r.ds q.epoch q.seq)))],(rap_b11 r q w z4),[],z38⟩ ?_
        refine hrt [[⟨false,2,0,10⟩],[⟨false,3,0,13⟩]] [.agg (List.toArray (rap_v6 r)),.agg (List.toArray (rap_v13 r))] [(w.heap.size + 2,0,10),(w.heap.size + 3,0,13)] ?_
        intro wx hm
        refine ⟨?_,hm.kept⟩
        simp only [applyM,turnM,chosenF,putM,tagEq,d1,d2,d4,d5,d6,d7,d8,cond_true,cond_false]
        show _ = Ending.returned (outV _)
        rfl
     ·skip
      refine hgE 30 [oh0,oh0,oh0,oh0,⟨false,3,[]⟩,oh0,oh0,(oA 0 0 1),oh0,oh0,⟨false,3,[]⟩,oh0,oh0,(oA 0 1 1),(oA 4 0 2),oh0,(oA 1 8 1),oh0] [2,3,4,5,8,9,100] [eD d6,eD d6,eD d6,eD d6,eD d6,fF,eD d6,eD d6,fF] [(w.heap.size,0,1),(w.heap.size,1,1),(z4,0,2),(w.heap.size + 1,8,1)] [.ops [1,1,1,1,1,1,1,1,0,1,0,1,1,0] [6,7,8,9,10],.code rap_n3,.code rap_n41] ⟨[(2,(pt w.heap.size 0)),(3,(pt (w.heap.size + 1) 0)),(4,(pt (w.heap.size + 2) 0)),(5,(pt (w.heap.size + 3) 0)),(8,(pt z4 0)),(9,.bool (!(beforeM r.de r.ds q.epoch q.seq))),(100,.agg (List.toArray (rap_v12 r q)))],(rap_b4 r q w z4),[],z24⟩ ?_
      refine hcp (.tuple #[.agg (List.toArray (rap_v12 r q)),.agg (List.toArray (rap_v11 r))]) 31 [.agg (List.toArray (rap_v12 r q)),i6 1] (some 101) [] tI rfl (fun wx hm=>refSay_any (⟨true,r.fence,q.epoch,q.seq,q.block,false,0,0,0,⟨#[]⟩⟩:RecM) 1 wx) fun z42 hz42=>?_
      replace hz42:z24 ≤ z42:=hz42
      refine hgE 8 rap_n42 [2,3,4,5,8,9] [] [(w.heap.size + 2,0,10),(w.heap.size + 3,0,13)] [.code rap_n3,.code rap_n41] ⟨[(2,(pt w.heap.size 0)),(3,(pt (w.heap.size + 1) 0)),(4,(pt (w.heap.size + 2) 0)),(5,(pt (w.heap.size + 3) 0)),(8,(pt z4 0)),(9,.bool (!(beforeM r.de r.ds q.epoch q.seq)))],(rap_b10 r q w z4),[],z42⟩ ?_
      refine hrt [[⟨false,2,0,10⟩],[⟨false,3,0,13⟩]] [.agg (List.toArray (rap_v12 r q)),.agg (List.toArray (rap_v11 r))] [(w.heap.size + 2,0,10),(w.heap.size + 3,0,13)] ?_
      intro wx hm
      refine ⟨?_,hm.kept⟩
      simp only [applyM,turnM,chosenF,putM,d1,d2,d4,d5,d6,cond_true,cond_false]
      show _ = Ending.returned (outV _)
      rfl
    ·skip
     refine hgE 12 [oh0,oh0,(oA 0 0 1),oh0] [2,3,4,5,8,9,106] [eD d5] [(w.heap.size,0,1)] [.code [1,1,1,1,1,1,1,1,1,0,1],.code rap_n40] ⟨[(2,(pt w.heap.size 0)),(3,(pt (w.heap.size + 1) 0)),(4,(pt (w.heap.size + 2) 0)),(5,(pt (w.heap.size + 3) 0)),(8,(pt z4 0)),(9,.bool (!(beforeM r.de r.ds q.epoch q.seq))),(106,.bool (!r.used))],(rap_b4 r q w z4),[],z24⟩ ?_
     rcases Bool.eq_false_or_eq_true (r.used) with d9 | d9
     ·skip
      refine hgE 17 [oh0,oh0,(oA 1 0 1),oh0,oh0] [2,3,4,5,8,9,112,113] [eD (nF d9)] [(w.heap.size + 1,0,1)] [.code [1,1,1,1,1,1,1,1,1,1,0,1,0,1],.blk 0,.code rap_n39] ⟨[(2,(pt w.heap.size 0)),(3,(pt (w.heap.size + 1) 0)),(4,(pt (w.heap.size + 2) 0)),(5,(pt (w.heap.size + 3) 0)),(8,(pt z4 0)),(9,.bool (!(beforeM r.de r.ds q.epoch q.seq))),(112,i6 q.kind),(113,.bool (q.kind == 2))],(rap_b4 r q w z4),[],z24⟩ ?_
      rcases Bool.eq_false_or_eq_true (q.kind == 2) with d10 | d10
      ·skip
       refine hgE 5 [oh1] [2,4,5] [eD d10] [] [.code rap_n6,.code rap_n7,.blk 0,.code rap_n39] ⟨[(2,(pt w.heap.size 0)),(4,(pt (w.heap.size + 2) 0)),(5,(pt (w.heap.size + 3) 0))],(rap_b4 r q w z4),[],z24⟩ ?_
       have rap_g48_c4:rap_g48C r q w z4 z24 4:=cert_call (v:=.agg (List.toArray (rap_v7 r))) (by kernel_rfl) (by kernel_rfl) (rap_g48_4 r w) trivial (fun j wx _ hm=>refClosed_any (⟨r.used,r.fence,r.de,r.ds,r.block,r.op,r.ie,r.is,r.mask,r.staged⟩:RecM) wx)
       have rap_g48_c6:rap_g48C r q w z4 z24 6:=cert_store (s:=0) (v:=undef) (by kernel_rfl) (by kernel_rfl) (by kernel_rfl) (by kernel_rfl) (by kernel_rfl) (rap_g48_6 r q w z4) trivial
       have rap_g48_c7:rap_g48C r q w z4 z24 7:=cert_store (s:=1) (v:=undef) (by kernel_rfl) (by kernel_rfl) (by kernel_rfl) (by kernel_rfl) (by kernel_rfl) (rap_g48_7 r q w z4) trivial
       have rap_g48_R:∀ e_ ∈ (rZs [1,5] ++ [⟨0,⟨false,0,[⟨false,0,0,10⟩]⟩,[],[(w.heap.size,0,10)]⟩,⟨2,⟨false,0,[⟨false,0,1,1⟩]⟩,[],[(w.heap.size,1,1)]⟩,⟨3,⟨false,0,[⟨false,0,0,10⟩]⟩,[],[(w.heap.size,0,10)]⟩]:List RegE),rap_g48C r q w z4 z24 e_.i:=certs_reg (by kernel_rfl) _ (fun sz=>by kernel_rfl)
       refine holds_mixG (vs:=(rap_g48v r w)) (ms:=(rap_g48m r q w z4)) (stg:=(rap_g48t)) (J:=2) (sl':=[(2,(pt w.heap.size 0)),(4,(pt (w.heap.size + 2) 0)),(5,(pt (w.heap.size + 3) 0))]) (bk':=(rap_b6 r q w z4)) (fun _ _ _=>False) [2,4,5] (by kernel_rfl) (by kernel_rfl) (by kernel_rfl) (fun _ _ _ _ h=>h.elim) (certs_mix rap_g48_R [4,6,7] ⟨rap_g48_c4,rap_g48_c6,rap_g48_c7,tI⟩ (by kernel_rfl)) (by kernel_rfl) (by kernel_rfl) (by kernel_rfl) (fun z48 hz48=>?_)
       replace hz48:z24 ≤ z48:=hz48
       refine hgE 3 [] [2,4,5] [] [] [.code rap_n7,.blk 0,.code rap_n39] ⟨[(2,(pt w.heap.size 0)),(4,(pt (w.heap.size + 2) 0)),(5,(pt (w.heap.size + 3) 0))],(rap_b6 r q w z4),[],z48⟩ ?_
       refine hrt [[⟨false,2,0,10⟩],[⟨false,3,0,13⟩]] [.agg (List.toArray (rap_v6 r)),.agg (List.toArray (rap_v8 r))] [(w.heap.size + 2,0,10),(w.heap.size + 3,0,13)] ?_
       intro wx hm
       refine ⟨?_,hm.kept⟩
       simp only [applyM,turnM,chosenF,d1,d2,d4,d5,d9,d10,cond_true,cond_false]
       show _ = Ending.returned (outV _)
       have hu:r.used = true:=d9
       obtain ⟨r1,r2,r3,r4,r5,r6,r7,r8,r9,r0⟩:=r
       dsimp only at hu
       subst hu
       rfl
      ·skip
       refine hgE 9 [oh0,oh0,oh0] [2,3,4,5,8,9,112,121] [eD d10] [] [.code [1,1,1,1,1,1,1,1,1,1,0,1,0,1,1,1],.blk 0,.code rap_n39] ⟨[(2,(pt w.heap.size 0)),(3,(pt (w.heap.size + 1) 0)),(4,(pt (w.heap.size + 2) 0)),(5,(pt (w.heap.size + 3) 0)),(8,(pt z4 0)),(9,.bool (!(beforeM r.de r.ds q.epoch q.seq))),(112,i6 q.kind),(121,.bool (q.kind == 4))],(rap_b4 r q w z4),[],z24⟩ ?_
       rcases Bool.eq_false_or_eq_true (q.kind == 4) with d11 | d11
       ·skip
        refine hgE 12 [oh1,oh0,(oA 0 2 2),(oA 4 0 2),oh2,oh0] [2,3,4,5,8,9,127] [eD d11,vV] [(w.heap.size,2,2),(z4,0,2)] [.ops rap_n8 [5,6,7,8,9,10,11,12,13,14,15,16,17],.code rap_n11,.code rap_n19,.blk 0,.code rap_n39] ⟨[(2,(pt w.heap.size 0)),(3,(pt (w.heap.size + 1) 0)),(4,(pt (w.heap.size + 2) 0)),(5,(pt (w.heap.size + 3) 0)),(8,(pt z4 0)),(9,.bool (!(beforeM r.de r.ds q.epoch q.seq))),(127,.bool (((r.de:Int) == q.epoch) && (((r.ds:Int) == q.seq) && true)))],(rap_b4 r q w z4),[],z24⟩ ?_
        rcases Bool.eq_false_or_eq_true ((((r.de:Int) == q.epoch) && (((r.ds:Int) == q.seq) && true))) with d12 | d12
        ·skip
         refine hgE 21 [oh1,oh1,oh1,oh0,oh0,oh0,oh0,oh1,oh1,oh0,oh0,oh1,oh3,oh1,(oA 0 0 10)] [2,3,4,5,8,9,141] [eD d12,eD d12,eD d12,eD d12,eD d12,eD d12,eD d12,tT] [(w.heap.size,0,10)] [.ops rap_n9 [1,2,3,4,5],.code rap_n10,.code rap_n19,.blk 0,.code rap_n39] ⟨[(2,(pt w.heap.size 0)),(3,(pt (w.heap.size + 1) 0)),(4,(pt (w.heap.size + 2) 0)),(5,(pt (w.heap.size + 3) 0)),(8,(pt z4 0)),(9,.bool (!(beforeM r.de r.ds q.epoch q.seq))),(141,.agg (List.toArray (rap_v6 r)))],(rap_b4 r q w z4),[],z24⟩ ?_
         refine hcp (.tuple #[.agg (List.toArray (rap_v6 r)),.agg (List.toArray (rap_v11 r))]) 31 [.agg (List.toArray (rap_v6 r)),i6 1] (some 142) [] tI rfl (fun wx hm=>refSay_any (⟨r.used,r.fence,r.de,r.ds,r.block,r.op,r.ie,r.is,r.mask,r.staged⟩:RecM) 1 wx) fun z54 hz54=>?_
         replace hz54:z24 ≤ z54:=hz54
         refine hgE 8 rap_n42 [2,3,4,5,8,9] [] [(w.heap.size + 2,0,10),(w.heap.size + 3,0,13)] [.code rap_n10,.code rap_n19,.blk 0,.code rap_n39] ⟨[(2,(pt w.heap.size 0)),(3,(pt (w.heap.size + 1) 0)),(4,(pt (w.heap.size + 2) 0)),(5,(pt (w.heap.size + 3) 0)),(8,(pt z4 0)),(9,.bool (!(beforeM r.de r.ds q.epoch q.seq)))],(rap_b9 r q w z4),[],z54⟩ ?_
         refine hrt [[⟨false,2,0,10⟩],[⟨false,3,0,13⟩]] [.agg (List.toArray (rap_v6 r)),.agg (List.toArray (rap_v11 r))] [(w.heap.size + 2,0,10),(w.heap.size + 3,0,13)] ?_
         intro wx hm
         refine ⟨?_,hm.kept⟩
         simp only [applyM,turnM,chosenF,prepareM,tagEq,d1,d2,d4,d5,d9,d10,d11,d12,cond_true,cond_false]
         show _ = Ending.returned (outV _)
         have hu:r.used = true:=d9
         obtain ⟨r1,r2,r3,r4,r5,r6,r7,r8,r9,r0⟩:=r
         dsimp only at hu
         subst hu
         rfl
        ·skip
         refine hgE 6 [oh0,(oA 0 5 1),oh0] [2,3,4,5,8,9,127,130] [eD d12,eD d12,eD d12] [(w.heap.size,5,1)] [.ops rap_n8 [8,9,10,11,12,13,14,15,16,17],.code rap_n11,.code rap_n19,.blk 0,.code rap_n39] ⟨[(2,(pt w.heap.size 0)),(3,(pt (w.heap.size + 1) 0)),(4,(pt (w.heap.size + 2) 0)),(5,(pt (w.heap.size + 3) 0)),(8,(pt z4 0)),(9,.bool (!(beforeM r.de r.ds q.epoch q.seq))),(127,.bool (((r.de:Int) == q.epoch) && (((r.ds:Int) == q.seq) && true))),(130,.bool r.op)],(rap_b4 r q w z4),[],z24⟩ ?_
         rcases Bool.eq_false_or_eq_true (r.op) with d13 | d13
         ·skip
          refine hgE 9 [oh1,⟨true,0,[⟨false,0,6,2⟩]⟩,⟨true,0,[⟨false,4,0,2⟩]⟩,⟨true,1,[]⟩,oh3,oh0] [2,3,4,5,8,9,127,136] [eD d13,eD d13,eD d13,eD d13,vV,eD d12,eD d13,eD d12] [(w.heap.size,6,2),(z4,0,2)] [.ops rap_n8 [14,15,16,17],.code rap_n11,.code rap_n19,.blk 0,.code rap_n39] ⟨[(2,(pt w.heap.size 0)),(3,(pt (w.heap.size + 1) 0)),(4,(pt (w.heap.size + 2) 0)),(5,(pt (w.heap.size + 3) 0)),(8,(pt z4 0)),(9,.bool (!(beforeM r.de r.ds q.epoch q.seq))),(127,.bool (((r.de:Int) == q.epoch) && (((r.ds:Int) == q.seq) && true))),(136,.bool (((r.ie:Int) == q.epoch) && (((r.is:Int) == q.seq) && true)))],(rap_b4 r q w z4),[],z24⟩ ?_
          rcases Bool.eq_false_or_eq_true ((((r.ie:Int) == q.epoch) && (((r.is:Int) == q.seq) && true))) with d14 | d14
          ·skip
           refine hgE 8 [oh1,oh1,oh3,⟨false,3,[]⟩] [2,3,4,5,8,9,140] [eD d14,eD d14,eD d12,eD d14,eD d12] [] [.code rap_n11,.code rap_n19,.blk 0,.code rap_n39] ⟨[(2,(pt w.heap.size 0)),(3,(pt (w.heap.size + 1) 0)),(4,(pt (w.heap.size + 2) 0)),(5,(pt (w.heap.size + 3) 0)),(8,(pt z4 0)),(9,.bool (!(beforeM r.de r.ds q.epoch q.seq))),(140,.bool (!(!(beforeM r.de r.ds q.epoch q.seq))))],(rap_b4 r q w z4),[],z24⟩ ?_
           rcases Bool.eq_false_or_eq_true (beforeM r.de r.ds q.epoch q.seq) with d15 | d15
           ·skip
            refine hgE 7 rap_n44 [2,3,4,5,8,9,141] [oE ((!(!(beforeM r.de r.ds q.epoch q.seq))) = true) (by rw [show (!(beforeM r.de r.ds q.epoch q.seq)) = false from (by rw [d15]; rfl)]; rfl)] [(w.heap.size,0,10)] [.ops rap_n9 [1,2,3,4,5],.code rap_n10,.code rap_n19,.blk 0,.code rap_n39] ⟨[(2,(pt w.heap.size 0)),(3,(pt (w.heap.size + 1) 0)),(4,(pt (w.heap.size + 2) 0)),(5,(pt (w.heap.size + 3) 0)),(8,(pt z4 0)),(9,.bool (!(beforeM r.de r.ds q.epoch q.seq))),(141,.agg (List.toArray (rap_v6 r)))],(rap_b4 r q w z4),[],z24⟩ ?_
            refine hcp (.tuple #[.agg (List.toArray (rap_v6 r)),.agg (List.toArray (rap_v11 r))]) 31 [.agg (List.toArray (rap_v6 r)),i6 1] (some 142) [] tI rfl (fun wx hm=>refSay_any (⟨r.used,r.fence,r.de,r.ds,r.block,r.op,r.ie,r.is,r.mask,r.staged⟩:RecM) 1 wx) fun z61 hz61=>?_
            replace hz61:z24 ≤ z61:=hz61
            refine hgE 8 rap_n42 [2,3,4,5,8,9] [] [(w.heap.size + 2,0,10),(w.heap.size + 3,0,13)] [.code rap_n10,.code rap_n19,.blk 0,.code rap_n39] ⟨[(2,(pt w.heap.size 0)),(3,(pt (w.heap.size + 1) 0)),(4,(pt (w.heap.size + 2) 0)),(5,(pt (w.heap.size + 3) 0)),(8,(pt z4 0)),(9,.bool (!(beforeM r.de r.ds q.epoch q.seq)))],(rap_b9 r q w z4),[],z61⟩ ?_
            refine hrt [[⟨false,2,0,10⟩],[⟨false,3,0,13⟩]] [.agg (List.toArray (rap_v6 r)),.agg (List.toArray (rap_v11 r))] [(w.heap.size + 2,0,10),(w.heap.size + 3,0,13)] ?_
            intro wx hm
            refine ⟨?_,hm.kept⟩
            simp only [applyM,turnM,chosenF,prepareM,tagEq,d1,d2,d4,d5,d9,d10,d11,d12,d15,d13,d14,cond_true,cond_false]
            show _ = Ending.returned (outV _)
            have hu:r.used = true:=d9
            obtain ⟨r1,r2,r3,r4,r5,r6,r7,r8,r9,r0⟩:=r
            dsimp only at hu
            subst hu
            rfl
           ·skip
            refine hgE 14 [oh0,oh0,oh1,(oA 0 0 10)] [2,3,4,5,8,146] [oE ((!(!(beforeM r.de r.ds q.epoch q.seq))) = false) (by rw [show (!(beforeM r.de r.ds q.epoch q.seq)) = true from (by rw [d15]; rfl)]; rfl),eD (nT d15)] [(w.heap.size,0,10)] [.ops rap_n12 [1,2,3,4,5],.code rap_n13,.code rap_n18,.blk 0,.code rap_n39] ⟨[(2,(pt w.heap.size 0)),(3,(pt (w.heap.size + 1) 0)),(4,(pt (w.heap.size + 2) 0)),(5,(pt (w.heap.size + 3) 0)),(8,(pt z4 0)),(146,.agg (List.toArray (rap_v6 r)))],(rap_b4 r q w z4),[],z24⟩ ?_
            refine hcp (.tuple #[.agg (List.toArray (rap_v6 r)),.agg (List.toArray (rap_v13 r))]) 31 [.agg (List.toArray (rap_v6 r)),i6 4] (some 147) [] tI rfl (fun wx hm=>refSay_any (⟨r.used,r.fence,r.de,r.ds,r.block,r.op,r.ie,r.is,r.mask,r.staged⟩:RecM) 4 wx) fun z65 hz65=>?_
            replace hz65:z24 ≤ z65:=hz65
            refine hgE 8 rap_n42 [2,3,4,5,8] [] [(w.heap.size + 2,0,10),(w.heap.size + 3,0,13)] [.code rap_n13,.code rap_n18,.blk 0,.code rap_n39] ⟨[(2,(pt w.heap.size 0)),(3,(pt (w.heap.size + 1) 0)),(4,(pt (w.heap.size + 2) 0)),(5,(pt (w.heap.size + 3) 0)),(8,(pt z4 0))],(rap_b11 r q w z4),[],z65⟩ ?_
            refine hrt [[⟨false,2,0,10⟩],[⟨false,3,0,13⟩]] [.agg (List.toArray (rap_v6 r)),.agg (List.toArray (rap_v13 r))] [(w.heap.size + 2,0,10),(w.heap.size + 3,0,13)] ?_
            intro wx hm
            refine ⟨?_,hm.kept⟩
            simp only [applyM,turnM,chosenF,prepareM,tagEq,d1,d2,d4,d5,d9,d10,d11,d12,d15,cond_true,cond_false]
            show _ = Ending.returned (outV _)
            have hu:r.used = true:=d9
            obtain ⟨r1,r2,r3,r4,r5,r6,r7,r8,r9,r0⟩:=r
            dsimp only at hu
            subst hu
            rfl
          ·skip
           refine hgE 15 [oh0,oh0,⟨false,3,[]⟩,⟨false,3,[]⟩,oh0,oh0] [2,3,4,5,8,145] [eD d14,eD d14,eD d12,eD d14,eD d12,fF] [] [.code rap_n14,.code rap_n18,.blk 0,.code rap_n39] ⟨[(2,(pt w.heap.size 0)),(3,(pt (w.heap.size + 1) 0)),(4,(pt (w.heap.size + 2) 0)),(5,(pt (w.heap.size + 3) 0)),(8,(pt z4 0)),(145,.bool (!(beforeM r.de r.ds q.epoch q.seq)))],(rap_b4 r q w z4),[],z24⟩ ?_
           rcases Bool.eq_false_or_eq_true (beforeM r.de r.ds q.epoch q.seq) with d16 | d16
           ·skip
            refine hgE 15 [oh0,oh0,(oA 0 5 1),oh1,(oA 0 0 10)] [2,3,4,5,8,152] [eD (nF d16),eD d13] [(w.heap.size,5,1),(w.heap.size,0,10)] [.ops [1,1,1,1,1,1,1,1,1,1,0,1,0,1,1,1,0,1,1,0,1,0,0] [1,2,3,4,5],.code rap_n15,.code rap_n17,.blk 0,.code rap_n39] ⟨[(2,(pt w.heap.size 0)),(3,(pt (w.heap.size + 1) 0)),(4,(pt (w.heap.size + 2) 0)),(5,(pt (w.heap.size + 3) 0)),(8,(pt z4 0)),(152,.agg (List.toArray (rap_v6 r)))],(rap_b4 r q w z4),[],z24⟩ ?_
            refine hcp (.tuple #[.agg (List.toArray (rap_v6 r)),.agg (List.toArray (rap_v14 r))]) 31 [.agg (List.toArray (rap_v6 r)),i6 3] (some 153) [] tI rfl (fun wx hm=>refSay_any (⟨r.used,r.fence,r.de,r.ds,r.block,r.op,r.ie,r.is,r.mask,r.staged⟩:RecM) 3 wx) fun z70 hz70=>?_
            replace hz70:z24 ≤ z70:=hz70
            refine hgE 8 rap_n42 [2,3,4,5,8] [] [(w.heap.size + 2,0,10),(w.heap.size + 3,0,13)] [.code rap_n15,.code rap_n17,.blk 0,.code rap_n39] ⟨[(2,(pt w.heap.size 0)),(3,(pt (w.heap.size + 1) 0)),(4,(pt (w.heap.size + 2) 0)),(5,(pt (w.heap.size + 3) 0)),(8,(pt z4 0))],[⟨w.heap.size,43,true,(rap_v6 r)⟩,⟨w.heap.size + 1,35,true,(rap_v3 q)⟩,⟨w.heap.size + 2,43,true,(rap_v6 r)⟩,⟨w.heap.size + 3,45,true,(rap_v14 r)⟩,⟨z4,33,true,[i6 q.epoch,i6 q.seq]⟩],[],z70⟩ ?_
            refine hrt [[⟨false,2,0,10⟩],[⟨false,3,0,13⟩]] [.agg (List.toArray (rap_v6 r)),.agg (List.toArray (rap_v14 r))] [(w.heap.size + 2,0,10),(w.heap.size + 3,0,13)] ?_
            intro wx hm
            refine ⟨?_,hm.kept⟩
            simp only [applyM,turnM,chosenF,prepareM,tagEq,d1,d2,d4,d5,d9,d10,d11,d12,d16,d13,d14,cond_true,cond_false]
            show _ = Ending.returned (outV _)
            have hu:r.used = true:=d9
            obtain ⟨r1,r2,r3,r4,r5,r6,r7,r8,r9,r0⟩:=r
            dsimp only at hu
            subst hu
            rfl
           ·skip
            refine hgE 7 rap_n44 [2,3,4,5,8,146] [eD (nT d16)] [(w.heap.size,0,10)] [.ops rap_n12 [1,2,3,4,5],.code rap_n13,.code rap_n18,.blk 0,.code rap_n39] ⟨[(2,(pt w.heap.size 0)),(3,(pt (w.heap.size + 1) 0)),(4,(pt (w.heap.size + 2) 0)),(5,(pt (w.heap.size + 3) 0)),(8,(pt z4 0)),(146,.agg (List.toArray (rap_v6 r)))],(rap_b4 r q w z4),[],z24⟩ ?_
            refine hcp (.tuple #[.agg (List.toArray (rap_v6 r)),.agg (List.toArray (rap_v13 r))]) 31 [.agg (List.toArray (rap_v6 r)),i6 4] (some 147) [] tI rfl (fun wx hm=>refSay_any (⟨r.used,r.fence,r.de,r.ds,r.block,r.op,r.ie,r.is,r.mask,r.staged⟩:RecM) 4 wx) fun z74 hz74=>?_
            replace hz74:z24 ≤ z74:=hz74
            refine hgE 8 rap_n42 [2,3,4,5,8] [] [(w.heap.size + 2,0,10),(w.heap.size + 3,0,13)] [.code rap_n13,.code rap_n18,.blk 0,.code rap_n39] ⟨[(2,(pt w.heap.size 0)),(3,(pt (w.heap.size + 1) 0)),(4,(pt (w.heap.size + 2) 0)),(5,(pt (w.heap.size + 3) 0)),(8,(pt z4 0))],(rap_b11 r q w z4),[],z74⟩ ?_
            refine hrt [[⟨false,2,0,10⟩],[⟨false,3,0,13⟩]] [.agg (List.toArray (rap_v6 r)),.agg (List.toArray (rap_v13 r))] [(w.heap.size + 2,0,10),(w.heap.size + 3,0,13)] ?_
            intro wx hm
            refine ⟨?_,hm.kept⟩
            simp only [applyM,turnM,chosenF,prepareM,tagEq,d1,d2,d4,d5,d9,d10,d11,d12,d16,cond_true,cond_false]
            show _ = Ending.returned (outV _)
            have hu:r.used = true:=d9
            obtain ⟨r1,r2,r3,r4,r5,r6,r7,r8,r9,r0⟩:=r
            dsimp only at hu
            subst hu
            rfl
         ·skip
          refine hgE 21 [oh0,oh0,oh0,oh0,⟨false,3,[]⟩,oh0,oh0,oh0,⟨false,3,[]⟩,⟨false,3,[]⟩,oh0,oh0] [2,3,4,5,8,145] [eD d13,eD d13,eD d13,eD d13,eD d12,eD d13,eD d12,fF,fF,eD d12,fF,eD d12,fF] [] [.code rap_n14,.code rap_n18,.blk 0,.code rap_n39] ⟨[(2,(pt w.heap.size 0)),(3,(pt (w.heap.size + 1) 0)),(4,(pt (w.heap.size + 2) 0)),(5,(pt (w.heap.size + 3) 0)),(8,(pt z4 0)),(145,.bool (!(beforeM r.de r.ds q.epoch q.seq)))],(rap_b4 r q w z4),[],z24⟩ ?_
          rcases Bool.eq_false_or_eq_true (beforeM r.de r.ds q.epoch q.seq) with d17 | d17
          ·skip
           refine hgE 41 [oh0,oh0,(oA 0 5 1),oh0,oh0,(oA 0 5 1),(oA 4 0 2),oh0,(oA 0 6 2),oh0,(oA 1 4 1),oh0,(oA 0 8 1),oh0,(oA 1 8 1),oh0,(oA 0 9 1),(oA 0 0 10)] [2,4,5,165] [eD (nF d17),eD d13] [(w.heap.size,5,1),(w.heap.size,5,1),(z4,0,2),(w.heap.size,6,2),(w.heap.size + 1,4,1),(w.heap.size,8,1),(w.heap.size + 1,8,1),(w.heap.size,9,1),(w.heap.size,0,10)] [.ops [1,1,1,1,1,1,1,1,1,1,0,1,0,1,1,1,0,1,1,1,1,1,1,1,0] [1,2,3,4,5],.code rap_n16,.blk 0,.code rap_n39] ⟨[(2,(pt w.heap.size 0)),(4,(pt (w.heap.size + 2) 0)),(5,(pt (w.heap.size + 3) 0)),(165,.agg (List.toArray (rap_v15 r q)))],[⟨w.heap.size,43,true,(rap_v15 r q)⟩,⟨w.heap.size + 1,35,true,(rap_v3 q)⟩,⟨w.heap.size + 2,43,true,(rap_v4)⟩,⟨w.heap.size + 3,45,true,(rap_v5)⟩,⟨z4,33,true,[i6 q.epoch,i6 q.seq]⟩],[],z24⟩ ?_
           refine hcp (.tuple #[.agg (List.toArray (rap_v15 r q)),.agg (List.toArray (rap_v11 r))]) 31 [.agg (List.toArray (rap_v15 r q)),i6 1] (some 166) [] tI rfl (fun wx hm=>refSay_any (⟨r.used,r.fence,r.de,r.ds,r.block,true,q.epoch,q.seq,q.mask,q.block⟩:RecM) 1 wx) fun z79 hz79=>?_
           replace hz79:z24 ≤ z79:=hz79
           refine hgE 8 rap_n42 [2,4,5] [] [(w.heap.size + 2,0,10),(w.heap.size + 3,0,13)] [.code rap_n16,.blk 0,.code rap_n39] ⟨[(2,(pt w.heap.size 0)),(4,(pt (w.heap.size + 2) 0)),(5,(pt (w.heap.size + 3) 0))],[⟨w.heap.size,43,true,(rap_v15 r q)⟩,⟨w.heap.size + 1,35,true,(rap_v3 q)⟩,⟨w.heap.size + 2,43,true,(rap_v15 r q)⟩,⟨w.heap.size + 3,45,true,(rap_v11 r)⟩,⟨z4,33,true,[i6 q.epoch,i6 q.seq]⟩],[],z79⟩ ?_
           refine hrt [[⟨false,2,0,10⟩],[⟨false,3,0,13⟩]] [.agg (List.toArray (rap_v15 r q)),.agg (List.toArray (rap_v11 r))] [(w.heap.size + 2,0,10),(w.heap.size + 3,0,13)] ?_
           intro wx hm
           refine ⟨?_,hm.kept⟩
           simp only [applyM,turnM,chosenF,prepareM,tagEq,d1,d2,d4,d5,d9,d10,d11,d12,d17,d13,cond_true,cond_false]
           show _ = Ending.returned (outV _)
           have hu:r.used = true:=d9
           obtain ⟨r1,r2,r3,r4,r5,r6,r7,r8,r9,r0⟩:=r
           dsimp only at hu
           subst hu
           rfl
          ·skip
           refine hgE 7 rap_n44 [2,3,4,5,8,146] [eD (nT d17)] [(w.heap.size,0,10)] [.ops rap_n12 [1,2,3,4,5],.code rap_n13,.code rap_n18,.blk 0,.code rap_n39] ⟨[(2,(pt w.heap.size 0)),(3,(pt (w.heap.size + 1) 0)),(4,(pt (w.heap.size + 2) 0)),(5,(pt (w.heap.size + 3) 0)),(8,(pt z4 0)),(146,.agg (List.toArray (rap_v6 r)))],(rap_b4 r q w z4),[],z24⟩ ?_
           refine hcp (.tuple #[.agg (List.toArray (rap_v6 r)),.agg (List.toArray (rap_v13 r))]) 31 [.agg (List.toArray (rap_v6 r)),i6 4] (some 147) [] tI rfl (fun wx hm=>refSay_any (⟨r.used,r.fence,r.de,r.ds,r.block,r.op,r.ie,r.is,r.mask,r.staged⟩:RecM) 4 wx) fun z83 hz83=>?_
           replace hz83:z24 ≤ z83:=hz83
           refine hgE 8 rap_n42 [2,3,4,5,8] [] [(w.heap.size + 2,0,10),(w.heap.size + 3,0,13)] [.code rap_n13,.code rap_n18,.blk 0,.code rap_n39] ⟨[(2,(pt w.heap.size 0)),(3,(pt (w.heap.size + 1) 0)),(4,(pt (w.heap.size + 2) 0)),(5,(pt (w.heap.size + 3) 0)),(8,(pt z4 0))],(rap_b11 r q w z4),[],z83⟩ ?_
           refine hrt [[⟨false,2,0,10⟩],[⟨false,3,0,13⟩]] [.agg (List.toArray (rap_v6 r)),.agg (List.toArray (rap_v13 r))] [(w.heap.size + 2,0,10),(w.heap.size + 3,0,13)] ?_
           intro wx hm
           refine ⟨?_,hm.kept⟩
           simp only [applyM,turnM,chosenF,prepareM,tagEq,d1,d2,d4,d5,d9,d10,d11,d12,d17,cond_true,cond_false]
           show _ = Ending.returned (outV _)
           have hu:r.used = true:=d9
           obtain ⟨r1,r2,r3,r4,r5,r6,r7,r8,r9,r0⟩:=r
           dsimp only at hu
           subst hu
           rfl
       ·skip
        refine hgE 9 [oh0,oh0,oh0] [2,3,4,5,8,112,169] [eD d11] [] [.code [1,1,1,1,1,1,1,1,1,1,0,1,0,1,1,1,1,1],.blk 0,.code rap_n39] ⟨[(2,(pt w.heap.size 0)),(3,(pt (w.heap.size + 1) 0)),(4,(pt (w.heap.size + 2) 0)),(5,(pt (w.heap.size + 3) 0)),(8,(pt z4 0)),(112,i6 q.kind),(169,.bool (q.kind == 5))],(rap_b4 r q w z4),[],z24⟩ ?_
        rcases Bool.eq_false_or_eq_true (q.kind == 5) with d18 | d18
        ·skip
         refine hgE 10 [oh1,oh0,(oA 0 5 1),oh0] [2,4,5,8,173] [eD d18] [(w.heap.size,5,1)] [.ops [1,1,1,1,1,1,1,1,1,1,0,1,0,1,1,1,1,1,0,0,0] [3,4,5,6,7],.code rap_n22,.code rap_n29,.blk 0,.code rap_n39] ⟨[(2,(pt w.heap.size 0)),(4,(pt (w.heap.size + 2) 0)),(5,(pt (w.heap.size + 3) 0)),(8,(pt z4 0)),(173,.bool r.op)],(rap_b4 r q w z4),[],z24⟩ ?_
         rcases Bool.eq_false_or_eq_true (r.op) with d19 | d19
         ·skip
          refine hgE 9 [oh1,⟨true,0,[⟨false,0,6,2⟩]⟩,⟨true,0,[⟨false,4,0,2⟩]⟩,⟨true,1,[]⟩,oh3] [2,4,5,8,178] [eD d19,eD d19,eD d19,eD d19,vV,eD d19] [(w.heap.size,6,2),(z4,0,2)] [.code rap_n22,.code rap_n29,.blk 0,.code rap_n39] ⟨[(2,(pt w.heap.size 0)),(4,(pt (w.heap.size + 2) 0)),(5,(pt (w.heap.size + 3) 0)),(8,(pt z4 0)),(178,.bool (((r.ie:Int) == q.epoch) && (((r.is:Int) == q.seq) && true)))],(rap_b4 r q w z4),[],z24⟩ ?_
          rcases Bool.eq_false_or_eq_true ((((r.ie:Int) == q.epoch) && (((r.is:Int) == q.seq) && true))) with d20 | d20
          ·skip
           refine hgE 7 rap_n44 [2,4,5,8,179] [eD d20] [(w.heap.size,0,10)] [.ops rap_n20 [1,2,3,4,5,6],.code rap_n21,.code rap_n29,.blk 0,.code rap_n39] ⟨[(2,(pt w.heap.size 0)),(4,(pt (w.heap.size + 2) 0)),(5,(pt (w.heap.size + 3) 0)),(8,(pt z4 0)),(179,.agg (List.toArray (rap_v6 r)))],(rap_b4 r q w z4),[],z24⟩ ?_
           refine hcp (.agg (List.toArray (rap_v16 r))) 34 [.agg (List.toArray (rap_v6 r))] (some 180) [] tI rfl (fun wx hm=>refDone_any (⟨r.used,r.fence,r.de,r.ds,r.block,r.op,r.ie,r.is,r.mask,r.staged⟩:RecM) wx) fun z90 hz90=>?_
           replace hz90:z24 ≤ z90:=hz90
           refine hgE 3 [] [2,4,5,8,180] [] [] [.ops rap_n20 [2,3,4,5,6],.code rap_n21,.code rap_n29,.blk 0,.code rap_n39] ⟨[(2,(pt w.heap.size 0)),(4,(pt (w.heap.size + 2) 0)),(5,(pt (w.heap.size + 3) 0)),(8,(pt z4 0)),(180,.agg (List.toArray (rap_v16 r)))],(rap_b4 r q w z4),[],z90⟩ ?_
           refine hcp (.tuple #[.agg (List.toArray (rap_v16 r)),.agg (List.toArray (rap_v11 r))]) 31 [.agg (List.toArray (rap_v16 r)),i6 1] (some 181) [] tI rfl (fun wx hm=>refSay_any (⟨true,r.fence,r.ie,r.is,r.staged,false,0,0,0,⟨#[]⟩⟩:RecM) 1 wx) fun z92 hz92=>?_
           replace hz92:z90 ≤ z92:=hz92
           refine hgE 8 rap_n42 [2,4,5,8] [] [(w.heap.size + 2,0,10),(w.heap.size + 3,0,13)] [.code rap_n21,.code rap_n29,.blk 0,.code rap_n39] ⟨[(2,(pt w.heap.size 0)),(4,(pt (w.heap.size + 2) 0)),(5,(pt (w.heap.size + 3) 0)),(8,(pt z4 0))],(rap_b12 r q w z4),[],z92⟩ ?_
           refine hrt [[⟨false,2,0,10⟩],[⟨false,3,0,13⟩]] [.agg (List.toArray (rap_v16 r)),.agg (List.toArray (rap_v11 r))] [(w.heap.size + 2,0,10),(w.heap.size + 3,0,13)] ?_
           intro wx hm
           refine ⟨?_,hm.kept⟩
           simp only [applyM,turnM,chosenF,commitM,tagEq,d1,d2,d4,d5,d9,d10,d11,d18,d19,d20,cond_true,cond_false]
           show _ = Ending.returned (outV _)
           have hu:r.used = true:=d9
           obtain ⟨r1,r2,r3,r4,r5,r6,r7,r8,r9,r0⟩:=r
           dsimp only at hu
           subst hu
           rfl
          ·skip
           refine hgE 13 [oh0,oh0,(oA 0 2 2),(oA 4 0 2),oh2] [2,4,5,187] [eD d20,vV] [(w.heap.size,2,2),(z4,0,2)] [.code rap_n25,.code rap_n28,.blk 0,.code rap_n39] ⟨[(2,(pt w.heap.size 0)),(4,(pt (w.heap.size + 2) 0)),(5,(pt (w.heap.size + 3) 0)),(187,.bool (((r.de:Int) == q.epoch) && (((r.ds:Int) == q.seq) && true)))],(rap_b4 r q w z4),[],z24⟩ ?_
           rcases Bool.eq_false_or_eq_true ((((r.de:Int) == q.epoch) && (((r.ds:Int) == q.seq) && true))) with d21 | d21
           ·skip
            refine hgE 7 rap_n44 [2,4,5,188] [eD d21] [(w.heap.size,0,10)] [.ops rap_n23 [1,2,3,4,5],.code rap_n24,.code rap_n28,.blk 0,.code rap_n39] ⟨[(2,(pt w.heap.size 0)),(4,(pt (w.heap.size + 2) 0)),(5,(pt (w.heap.size + 3) 0)),(188,.agg (List.toArray (rap_v6 r)))],(rap_b4 r q w z4),[],z24⟩ ?_
            refine hcp (.tuple #[.agg (List.toArray (rap_v6 r)),.agg (List.toArray (rap_v11 r))]) 31 [.agg (List.toArray (rap_v6 r)),i6 1] (some 189) [] tI rfl (fun wx hm=>refSay_any (⟨r.used,r.fence,r.de,r.ds,r.block,r.op,r.ie,r.is,r.mask,r.staged⟩:RecM) 1 wx) fun z97 hz97=>?_
            replace hz97:z24 ≤ z97:=hz97
            refine hgE 8 rap_n42 [2,4,5] [] [(w.heap.size + 2,0,10),(w.heap.size + 3,0,13)] [.code rap_n24,.code rap_n28,.blk 0,.code rap_n39] ⟨[(2,(pt w.heap.size 0)),(4,(pt (w.heap.size + 2) 0)),(5,(pt (w.heap.size + 3) 0))],(rap_b9 r q w z4),[],z97⟩ ?_
            refine hrt [[⟨false,2,0,10⟩],[⟨false,3,0,13⟩]] [.agg (List.toArray (rap_v6 r)),.agg (List.toArray (rap_v11 r))] [(w.heap.size + 2,0,10),(w.heap.size + 3,0,13)] ?_
            intro wx hm
            refine ⟨?_,hm.kept⟩
            simp only [applyM,turnM,chosenF,commitM,tagEq,d1,d2,d4,d5,d9,d10,d11,d18,d19,d20,d21,cond_true,cond_false]
            show _ = Ending.returned (outV _)
            have hu:r.used = true:=d9
            obtain ⟨r1,r2,r3,r4,r5,r6,r7,r8,r9,r0⟩:=r
            dsimp only at hu
            subst hu
            rfl
           ·skip
            refine hgE 8 rap_n43 [2,4,5,192] [eD d21] [(w.heap.size,0,10)] [.ops rap_n26 [1,2,3,4,5],.code rap_n27,.blk 0,.code rap_n39] ⟨[(2,(pt w.heap.size 0)),(4,(pt (w.heap.size + 2) 0)),(5,(pt (w.heap.size + 3) 0)),(192,.agg (List.toArray (rap_v6 r)))],(rap_b4 r q w z4),[],z24⟩ ?_
            refine hcp (.tuple #[.agg (List.toArray (rap_v6 r)),.agg (List.toArray (rap_v13 r))]) 31 [.agg (List.toArray (rap_v6 r)),i6 4] (some 193) [] tI rfl (fun wx hm=>refSay_any (⟨r.used,r.fence,r.de,r.ds,r.block,r.op,r.ie,r.is,r.mask,r.staged⟩:RecM) 4 wx) fun z101 hz101=>?_
            replace hz101:z24 ≤ z101:=hz101
            refine hgE 8 rap_n42 [2,4,5] [] [(w.heap.size + 2,0,10),(w.heap.size + 3,0,13)] [.code rap_n27,.blk 0,.code rap_n39] ⟨[(2,(pt w.heap.size 0)),(4,(pt (w.heap.size + 2) 0)),(5,(pt (w.heap.size + 3) 0))],(rap_b11 r q w z4),[],z101⟩ ?_
            refine hrt [[⟨false,2,0,10⟩],[⟨false,3,0,13⟩]] [.agg (List.toArray (rap_v6 r)),.agg (List.toArray (rap_v13 r))] [(w.heap.size + 2,0,10),(w.heap.size + 3,0,13)] ?_
            intro wx hm
            refine ⟨?_,hm.kept⟩
            simp only [applyM,turnM,chosenF,commitM,tagEq,d1,d2,d4,d5,d9,d10,d11,d18,d19,d20,d21,cond_true,cond_false]
            show _ = Ending.returned (outV _)
            have hu:r.used = true:=d9
            obtain ⟨r1,r2,r3,r4,r5,r6,r7,r8,r9,r0⟩:=r
            dsimp only at hu
            subst hu
            rfl
         ·skip
          refine hgE 19 [oh0,oh0,oh0,oh0,⟨false,3,[]⟩,oh0,oh0,(oA 0 2 2),(oA 4 0 2),oh2] [2,4,5,187] [eD d19,eD d19,eD d19,eD d19,eD d19,fF,vV] [(w.heap.size,2,2),(z4,0,2)] [.code rap_n25,.code rap_n28,.blk 0,.code rap_n39] ⟨[(2,(pt w.heap.size 0)),(4,(pt (w.heap.size + 2) 0)),(5,(pt (w.heap.size + 3) 0)),(187,.bool (((r.de:Int) == q.epoch) && (((r.ds:Int) == q.seq) && true)))],(rap_b4 r q w z4),[],z24⟩ ?_
          rcases Bool.eq_false_or_eq_true ((((r.de:Int) == q.epoch) && (((r.ds:Int) == q.seq) && true))) with d22 | d22
          ·skip
           refine hgE 7 rap_n44 [2,4,5,188] [eD d22] [(w.heap.size,0,10)] [.ops rap_n23 [1,2,3,4,5],.code rap_n24,.code rap_n28,.blk 0,.code rap_n39] ⟨[(2,(pt w.heap.size 0)),(4,(pt (w.heap.size + 2) 0)),(5,(pt (w.heap.size + 3) 0)),(188,.agg (List.toArray (rap_v6 r)))],(rap_b4 r q w z4),[],z24⟩ ?_
           refine hcp (.tuple #[.agg (List.toArray (rap_v6 r)),.agg (List.toArray (rap_v11 r))]) 31 [.agg (List.toArray (rap_v6 r)),i6 1] (some 189) [] tI rfl (fun wx hm=>refSay_any (⟨r.used,r.fence,r.de,r.ds,r.block,r.op,r.ie,r.is,r.mask,r.staged⟩:RecM) 1 wx) fun z106 hz106=>?_
           replace hz106:z24 ≤ z106:=hz106
           refine hgE 8 rap_n42 [2,4,5] [] [(w.heap.size + 2,0,10),(w.heap.size + 3,0,13)] [.code rap_n24,.code rap_n28,.blk 0,.code rap_n39] ⟨[(2,(pt w.heap.size 0)),(4,(pt (w.heap.size + 2) 0)),(5,(pt (w.heap.size + 3) 0))],(rap_b9 r q w z4),[],z106⟩ ?_
           refine hrt [[⟨false,2,0,10⟩],[⟨false,3,0,13⟩]] [.agg (List.toArray (rap_v6 r)),.agg (List.toArray (rap_v11 r))] [(w.heap.size + 2,0,10),(w.heap.size + 3,0,13)] ?_
           intro wx hm
           refine ⟨?_,hm.kept⟩
           simp only [applyM,turnM,chosenF,commitM,tagEq,d1,d2,d4,d5,d9,d10,d11,d18,d19,d22,cond_true,cond_false]
           show _ = Ending.returned (outV _)
           have hu:r.used = true:=d9
           obtain ⟨r1,r2,r3,r4,r5,r6,r7,r8,r9,r0⟩:=r
           dsimp only at hu
           subst hu
           rfl
          ·skip
           refine hgE 8 rap_n43 [2,4,5,192] [eD d22] [(w.heap.size,0,10)] [.ops rap_n26 [1,2,3,4,5],.code rap_n27,.blk 0,.code rap_n39] ⟨[(2,(pt w.heap.size 0)),(4,(pt (w.heap.size + 2) 0)),(5,(pt (w.heap.size + 3) 0)),(192,.agg (List.toArray (rap_v6 r)))],(rap_b4 r q w z4),[],z24⟩ ?_
           refine hcp (.tuple #[.agg (List.toArray (rap_v6 r)),.agg (List.toArray (rap_v13 r))]) 31 [.agg (List.toArray (rap_v6 r)),i6 4] (some 193) [] tI rfl (fun wx hm=>refSay_any (⟨r.used,r.fence,r.de,r.ds,r.block,r.op,r.ie,r.is,r.mask,r.staged⟩:RecM) 4 wx) fun z110 hz110=>?_
           replace hz110:z24 ≤ z110:=hz110
           refine hgE 8 rap_n42 [2,4,5] [] [(w.heap.size + 2,0,10),(w.heap.size + 3,0,13)] [.code rap_n27,.blk 0,.code rap_n39] ⟨[(2,(pt w.heap.size 0)),(4,(pt (w.heap.size + 2) 0)),(5,(pt (w.heap.size + 3) 0))],(rap_b11 r q w z4),[],z110⟩ ?_
           refine hrt [[⟨false,2,0,10⟩],[⟨false,3,0,13⟩]] [.agg (List.toArray (rap_v6 r)),.agg (List.toArray (rap_v13 r))] [(w.heap.size + 2,0,10),(w.heap.size + 3,0,13)] ?_
           intro wx hm
           refine ⟨?_,hm.kept⟩
           simp only [applyM,turnM,chosenF,commitM,tagEq,d1,d2,d4,d5,d9,d10,d11,d18,d19,d22,cond_true,cond_false]
           show _ = Ending.returned (outV _)
           have hu:r.used = true:=d9
           obtain ⟨r1,r2,r3,r4,r5,r6,r7,r8,r9,r0⟩:=r
           dsimp only at hu
           subst hu
           rfl
        ·skip
         refine hgE 9 [oh0,oh0,oh0] [2,3,4,5,196] [eD d18] [] [.code [1,1,1,1,1,1,1,1,1,1,0,1,0,1,1,1,1,1,1,1],.blk 0,.code rap_n39] ⟨[(2,(pt w.heap.size 0)),(3,(pt (w.heap.size + 1) 0)),(4,(pt (w.heap.size + 2) 0)),(5,(pt (w.heap.size + 3) 0)),(196,.bool (q.kind == 6))],(rap_b4 r q w z4),[],z24⟩ ?_
         rcases Bool.eq_false_or_eq_true (q.kind == 6) with d23 | d23
         ·skip
          refine hgE 10 [oh1,oh0,(oA 0 5 1),oh0] [2,3,4,5,200] [eD d23] [(w.heap.size,5,1)] [.ops rap_n30 [3,4,5,6,7,8,9,10,11,12,13],.code rap_n33,.code rap_n36,.blk 0,.code rap_n39] ⟨[(2,(pt w.heap.size 0)),(3,(pt (w.heap.size + 1) 0)),(4,(pt (w.heap.size + 2) 0)),(5,(pt (w.heap.size + 3) 0)),(200,.bool r.op)],(rap_b4 r q w z4),[],z24⟩ ?_
          rcases Bool.eq_false_or_eq_true (r.op) with d24 | d24
          ·skip
           refine hgE 10 [oh1,⟨true,0,[⟨false,0,6,2⟩]⟩,oh1,⟨true,0,[⟨false,1,6,2⟩]⟩,⟨true,1,[]⟩,oh3,oh0] [2,3,4,5,207] [eD d24,eD d24,eD d24,eD d24,eD d24,vV,eD d24] [(w.heap.size,6,2),(w.heap.size + 1,6,2)] [.ops rap_n30 [10,11,12,13],.code rap_n33,.code rap_n36,.blk 0,.code rap_n39] ⟨[(2,(pt w.heap.size 0)),(3,(pt (w.heap.size + 1) 0)),(4,(pt (w.heap.size + 2) 0)),(5,(pt (w.heap.size + 3) 0)),(207,.bool (((r.ie:Int) == q.oe) && (((r.is:Int) == q.os) && true)))],(rap_b4 r q w z4),[],z24⟩ ?_
           rcases Bool.eq_false_or_eq_true ((((r.ie:Int) == q.oe) && (((r.is:Int) == q.os) && true))) with d25 | d25
           ·skip
            refine hgE 8 [oh1,⟨true,0,[⟨false,1,4,1⟩]⟩,oh1,oh3] [2,3,4,5,211] [eD d25,eD d25,eD d25,eD d25] [(w.heap.size + 1,4,1)] [.code rap_n33,.code rap_n36,.blk 0,.code rap_n39] ⟨[(2,(pt w.heap.size 0)),(3,(pt (w.heap.size + 1) 0)),(4,(pt (w.heap.size + 2) 0)),(5,(pt (w.heap.size + 3) 0)),(211,.bool (q.mask == 1))],(rap_b4 r q w z4),[],z24⟩ ?_
            rcases Bool.eq_false_or_eq_true (q.mask == 1) with d26 | d26
            ·skip
             refine hgE 7 rap_n44 [2,3,4,5,212] [eD d26] [(w.heap.size,0,10)] [.ops rap_n31 [1,2,3,4,5,6],.code rap_n32,.code rap_n36,.blk 0,.code rap_n39] ⟨[(2,(pt w.heap.size 0)),(3,(pt (w.heap.size + 1) 0)),(4,(pt (w.heap.size + 2) 0)),(5,(pt (w.heap.size + 3) 0)),(212,.agg (List.toArray (rap_v6 r)))],(rap_b4 r q w z4),[],z24⟩ ?_
             refine hcp (.agg (List.toArray (rap_v16 r))) 34 [.agg (List.toArray (rap_v6 r))] (some 213) [] tI rfl (fun wx hm=>refDone_any (⟨r.used,r.fence,r.de,r.ds,r.block,r.op,r.ie,r.is,r.mask,r.staged⟩:RecM) wx) fun z118 hz118=>?_
             replace hz118:z24 ≤ z118:=hz118
             refine hgE 3 [] [2,3,4,5,213] [] [] [.ops rap_n31 [2,3,4,5,6],.code rap_n32,.code rap_n36,.blk 0,.code rap_n39] ⟨[(2,(pt w.heap.size 0)),(3,(pt (w.heap.size + 1) 0)),(4,(pt (w.heap.size + 2) 0)),(5,(pt (w.heap.size + 3) 0)),(213,.agg (List.toArray (rap_v16 r)))],(rap_b4 r q w z4),[],z118⟩ ?_
             refine hcp (.tuple #[.agg (List.toArray (rap_v16 r)),.agg (List.toArray (rap_v11 r))]) 31 [.agg (List.toArray (rap_v16 r)),i6 1] (some 214) [] tI rfl (fun wx hm=>refSay_any (⟨true,r.fence,r.ie,r.is,r.staged,false,0,0,0,⟨#[]⟩⟩:RecM) 1 wx) fun z120 hz120=>?_
             replace hz120:z118 ≤ z120:=hz120
             refine hgE 8 rap_n42 [2,3,4,5] [] [(w.heap.size + 2,0,10),(w.heap.size + 3,0,13)] [.code rap_n32,.code rap_n36,.blk 0,.code rap_n39] ⟨[(2,(pt w.heap.size 0)),(3,(pt (w.heap.size + 1) 0)),(4,(pt (w.heap.size + 2) 0)),(5,(pt (w.heap.size + 3) 0))],(rap_b12 r q w z4),[],z120⟩ ?_
             refine hrt [[⟨false,2,0,10⟩],[⟨false,3,0,13⟩]] [.agg (List.toArray (rap_v16 r)),.agg (List.toArray (rap_v11 r))] [(w.heap.size + 2,0,10),(w.heap.size + 3,0,13)] ?_
             intro wx hm
             refine ⟨?_,hm.kept⟩
             simp only [applyM,turnM,chosenF,settleM,tagEq,d1,d2,d4,d5,d9,d10,d11,d18,d23,d24,d25,d26,cond_true,cond_false]
             show _ = Ending.returned (outV _)
             have hu:r.used = true:=d9
             obtain ⟨r1,r2,r3,r4,r5,r6,r7,r8,r9,r0⟩:=r
             dsimp only at hu
             subst hu
             rfl
            ·skip
             refine hgE 21 [oh0,oh0,(oA 0 5 1),oh0,oh1,⟨true,0,[⟨false,0,6,2⟩]⟩,oh1,⟨true,0,[⟨false,1,6,2⟩]⟩,⟨true,1,[]⟩,oh3,oh1,(oA 0 0 10)] [2,4,5,226] [eD d26,eD d24,eD d24,eD d24,eD d24,eD d24,vV,eD d24,eD d25] [(w.heap.size,5,1),(w.heap.size,6,2),(w.heap.size + 1,6,2),(w.heap.size,0,10)] [.ops rap_n34 [1,2,3,4,5,6],.code rap_n35,.blk 0,.code rap_n39] ⟨[(2,(pt w.heap.size 0)),(4,(pt (w.heap.size + 2) 0)),(5,(pt (w.heap.size + 3) 0)),(226,.agg (List.toArray (rap_v6 r)))],(rap_b4 r q w z4),[],z24⟩ ?_
             refine hcp (.agg (List.toArray (rap_v7 r))) 33 [.agg (List.toArray (rap_v6 r))] (some 227) [] tI rfl (fun wx hm=>refClosed_any (⟨r.used,r.fence,r.de,r.ds,r.block,r.op,r.ie,r.is,r.mask,r.staged⟩:RecM) wx) fun z124 hz124=>?_
             replace hz124:z24 ≤ z124:=hz124
             refine hgE 3 [] [2,4,5,227] [] [] [.ops rap_n34 [2,3,4,5,6],.code rap_n35,.blk 0,.code rap_n39] ⟨[(2,(pt w.heap.size 0)),(4,(pt (w.heap.size + 2) 0)),(5,(pt (w.heap.size + 3) 0)),(227,.agg (List.toArray (rap_v7 r)))],(rap_b4 r q w z4),[],z124⟩ ?_
             refine hcp (.tuple #[.agg (List.toArray (rap_v7 r)),.agg (List.toArray (rap_v11 r))]) 31 [.agg (List.toArray (rap_v7 r)),i6 1] (some 228) [] tI rfl (fun wx hm=>refSay_any (⟨true,r.fence,r.de,r.ds,r.block,false,0,0,0,⟨#[]⟩⟩:RecM) 1 wx) fun z126 hz126=>?_
             replace hz126:z124 ≤ z126:=hz126
             refine hgE 8 rap_n42 [2,4,5] [] [(w.heap.size + 2,0,10),(w.heap.size + 3,0,13)] [.code rap_n35,.blk 0,.code rap_n39] ⟨[(2,(pt w.heap.size 0)),(4,(pt (w.heap.size + 2) 0)),(5,(pt (w.heap.size + 3) 0))],[⟨w.heap.size,43,true,(rap_v6 r)⟩,⟨w.heap.size + 1,35,true,(rap_v3 q)⟩,⟨w.heap.size + 2,43,true,(rap_v7 r)⟩,⟨w.heap.size + 3,45,true,(rap_v11 r)⟩,⟨z4,33,true,[i6 q.epoch,i6 q.seq]⟩],[],z126⟩ ?_
             refine hrt [[⟨false,2,0,10⟩],[⟨false,3,0,13⟩]] [.agg (List.toArray (rap_v7 r)),.agg (List.toArray (rap_v11 r))] [(w.heap.size + 2,0,10),(w.heap.size + 3,0,13)] ?_
             intro wx hm
             refine ⟨?_,hm.kept⟩
             simp only [applyM,turnM,chosenF,settleM,tagEq,d1,d2,d4,d5,d9,d10,d11,d18,d23,d24,d25,d26,cond_true,cond_false]
             show _ = Ending.returned (outV _)
             have hu:r.used = true:=d9
             obtain ⟨r1,r2,r3,r4,r5,r6,r7,r8,r9,r0⟩:=r
             dsimp only at hu
             subst hu
             rfl
           ·skip
            refine hgE 28 [oh0,oh0,oh0,⟨false,3,[]⟩,oh0,oh0,(oA 0 5 1),oh0,oh1,⟨true,0,[⟨false,0,6,2⟩]⟩,oh1,⟨true,0,[⟨false,1,6,2⟩]⟩,⟨true,1,[]⟩,oh3,oh0,(oA 0 0 10)] [4,5,231] [eD d25,eD d25,eD d25,eD d25,fF,eD d24,eD d24,eD d24,eD d24,eD d24,vV,eD d24,eD d25] [(w.heap.size,5,1),(w.heap.size,6,2),(w.heap.size + 1,6,2),(w.heap.size,0,10)] [.ops rap_n37 [1,2,3,4,5],.code rap_n38] ⟨[(4,(pt (w.heap.size + 2) 0)),(5,(pt (w.heap.size + 3) 0)),(231,.agg (List.toArray (rap_v6 r)))],(rap_b4 r q w z4),[],z24⟩ ?_
            refine hcp (.tuple #[.agg (List.toArray (rap_v6 r)),.agg (List.toArray (rap_v11 r))]) 31 [.agg (List.toArray (rap_v6 r)),i6 1] (some 232) [] tI rfl (fun wx hm=>refSay_any (⟨r.used,r.fence,r.de,r.ds,r.block,r.op,r.ie,r.is,r.mask,r.staged⟩:RecM) 1 wx) fun z130 hz130=>?_
            replace hz130:z24 ≤ z130:=hz130
            refine hgE 8 rap_n42 [4,5] [] [(w.heap.size + 2,0,10),(w.heap.size + 3,0,13)] [.code rap_n38] ⟨[(4,(pt (w.heap.size + 2) 0)),(5,(pt (w.heap.size + 3) 0))],(rap_b9 r q w z4),[],z130⟩ ?_
            refine hrt [[⟨false,2,0,10⟩],[⟨false,3,0,13⟩]] [.agg (List.toArray (rap_v6 r)),.agg (List.toArray (rap_v11 r))] [(w.heap.size + 2,0,10),(w.heap.size + 3,0,13)] ?_
            intro wx hm
            refine ⟨?_,hm.kept⟩
            simp only [applyM,turnM,chosenF,settleM,tagEq,d1,d2,d4,d5,d9,d10,d11,d18,d23,d24,d25,cond_true,cond_false]
            show _ = Ending.returned (outV _)
            have hu:r.used = true:=d9
            obtain ⟨r1,r2,r3,r4,r5,r6,r7,r8,r9,r0⟩:=r
            dsimp only at hu
            subst hu
            rfl
          ·skip
           refine hgE 35 [oh0,oh0,oh0,oh0,oh0,⟨false,3,[]⟩,oh0,oh0,oh0,oh0,⟨false,3,[]⟩,oh0,oh0,(oA 0 5 1),oh0,oh0,oh0,oh0,oh0,oh0,⟨false,3,[]⟩,oh0,(oA 0 0 10)] [4,5,231] [eD d24,eD d24,eD d24,eD d24,eD d24,eD d24,fF,fF,fF,fF,fF,eD d24,eD d24,eD d24,eD d24,eD d24,eD d24,fF] [(w.heap.size,5,1),(w.heap.size,0,10)] [.ops rap_n37 [1,2,3,4,5],.code rap_n38] ⟨[(4,(pt (w.heap.size + 2) 0)),(5,(pt (w.heap.size + 3) 0)),(231,.agg (List.toArray (rap_v6 r)))],(rap_b4 r q w z4),[],z24⟩ ?_
           refine hcp (.tuple #[.agg (List.toArray (rap_v6 r)),.agg (List.toArray (rap_v11 r))]) 31 [.agg (List.toArray (rap_v6 r)),i6 1] (some 232) [] tI rfl (fun wx hm=>refSay_any (⟨r.used,r.fence,r.de,r.ds,r.block,r.op,r.ie,r.is,r.mask,r.staged⟩:RecM) 1 wx) fun z134 hz134=>?_
           replace hz134:z24 ≤ z134:=hz134
           refine hgE 8 rap_n42 [4,5] [] [(w.heap.size + 2,0,10),(w.heap.size + 3,0,13)] [.code rap_n38] ⟨[(4,(pt (w.heap.size + 2) 0)),(5,(pt (w.heap.size + 3) 0))],(rap_b9 r q w z4),[],z134⟩ ?_
           refine hrt [[⟨false,2,0,10⟩],[⟨false,3,0,13⟩]] [.agg (List.toArray (rap_v6 r)),.agg (List.toArray (rap_v11 r))] [(w.heap.size + 2,0,10),(w.heap.size + 3,0,13)] ?_
           intro wx hm
           refine ⟨?_,hm.kept⟩
           simp only [applyM,turnM,chosenF,settleM,d1,d2,d4,d5,d9,d10,d11,d18,d23,d24,cond_true,cond_false]
           show _ = Ending.returned (outV _)
           have hu:r.used = true:=d9
           obtain ⟨r1,r2,r3,r4,r5,r6,r7,r8,r9,r0⟩:=r
           dsimp only at hu
           subst hu
           rfl
         ·skip
          refine hgE 9 rap_n43 [4,5,231] [eD d23] [(w.heap.size,0,10)] [.ops rap_n37 [1,2,3,4,5],.code rap_n38] ⟨[(4,(pt (w.heap.size + 2) 0)),(5,(pt (w.heap.size + 3) 0)),(231,.agg (List.toArray (rap_v6 r)))],(rap_b4 r q w z4),[],z24⟩ ?_
          refine hcp (.tuple #[.agg (List.toArray (rap_v6 r)),.agg (List.toArray (rap_v11 r))]) 31 [.agg (List.toArray (rap_v6 r)),i6 1] (some 232) [] tI rfl (fun wx hm=>refSay_any (⟨r.used,r.fence,r.de,r.ds,r.block,r.op,r.ie,r.is,r.mask,r.staged⟩:RecM) 1 wx) fun z138 hz138=>?_
          replace hz138:z24 ≤ z138:=hz138
          refine hgE 8 rap_n42 [4,5] [] [(w.heap.size + 2,0,10),(w.heap.size + 3,0,13)] [.code rap_n38] ⟨[(4,(pt (w.heap.size + 2) 0)),(5,(pt (w.heap.size + 3) 0))],(rap_b9 r q w z4),[],z138⟩ ?_
          refine hrt [[⟨false,2,0,10⟩],[⟨false,3,0,13⟩]] [.agg (List.toArray (rap_v6 r)),.agg (List.toArray (rap_v11 r))] [(w.heap.size + 2,0,10),(w.heap.size + 3,0,13)] ?_
          intro wx hm
          refine ⟨?_,hm.kept⟩
          simp only [applyM,turnM,chosenF,d1,d2,d4,d5,d9,d10,d11,d18,d23,cond_true,cond_false]
          show _ = Ending.returned (outV _)
          have hu:r.used = true:=d9
          obtain ⟨r1,r2,r3,r4,r5,r6,r7,r8,r9,r0⟩:=r
          dsimp only at hu
          subst hu
          rfl
     ·skip
      refine hgE 7 rap_n44 [2,3,4,5,8,9,107] [eD (nT d9)] [(w.heap.size,0,10)] [.ops [1,1,1,1,1,1,1,1,1,0,1,0,0] [1,2,3,4,5],.code [1,1,1,1,1,1,1,1,1,0,1,0,1],.code rap_n40] ⟨[(2,(pt w.heap.size 0)),(3,(pt (w.heap.size + 1) 0)),(4,(pt (w.heap.size + 2) 0)),(5,(pt (w.heap.size + 3) 0)),(8,(pt z4 0)),(9,.bool (!(beforeM r.de r.ds q.epoch q.seq))),(107,.agg (List.toArray (rap_v6 r)))],(rap_b4 r q w z4),[],z24⟩ ?_
      refine hcp (.tuple #[.agg (List.toArray (rap_v6 r)),.agg (List.toArray (rap_v17 r))]) 31 [.agg (List.toArray (rap_v6 r)),i6 5] (some 108) [] tI rfl (fun wx hm=>refSay_any (⟨r.used,r.fence,r.de,r.ds,r.block,r.op,r.ie,r.is,r.mask,r.staged⟩:RecM) 5 wx) fun z142 hz142=>?_
      replace hz142:z24 ≤ z142:=hz142
      refine hgE 8 rap_n42 [2,3,4,5,8,9] [] [(w.heap.size + 2,0,10),(w.heap.size + 3,0,13)] [.code [1,1,1,1,1,1,1,1,1,0,1,0,1],.code rap_n40] ⟨[(2,(pt w.heap.size 0)),(3,(pt (w.heap.size + 1) 0)),(4,(pt (w.heap.size + 2) 0)),(5,(pt (w.heap.size + 3) 0)),(8,(pt z4 0)),(9,.bool (!(beforeM r.de r.ds q.epoch q.seq)))],[⟨w.heap.size,43,true,(rap_v6 r)⟩,⟨w.heap.size + 1,35,true,(rap_v3 q)⟩,⟨w.heap.size + 2,43,true,(rap_v6 r)⟩,⟨w.heap.size + 3,45,true,(rap_v17 r)⟩,⟨z4,33,true,[i6 q.epoch,i6 q.seq]⟩],[],z142⟩ ?_
      refine hrt [[⟨false,2,0,10⟩],[⟨false,3,0,13⟩]] [.agg (List.toArray (rap_v6 r)),.agg (List.toArray (rap_v17 r))] [(w.heap.size + 2,0,10),(w.heap.size + 3,0,13)] ?_
      intro wx hm
      refine ⟨?_,hm.kept⟩
      simp only [applyM,turnM,chosenF,d1,d2,d4,d5,d9,cond_false]
      show _ = Ending.returned (outV _)
      rfl
end Go.Proofs.Ytfiheghjhgnblaa
