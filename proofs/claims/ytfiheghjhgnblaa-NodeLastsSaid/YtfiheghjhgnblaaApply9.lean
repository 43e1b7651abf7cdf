import Derived.Test.YtfiheghjhgnblaaRuleW
import Derived.Test.YtfiheghjhgnblaaRight8
namespace Go.Proofs.Ytfiheghjhgnblaa
open Go.RowKit
def ar1_v1 (S:Int) (E:Int):List Value:=[i6 1,i6 S,i6 E] ++ rp 5 (i6 0) ++ [sT ⟨#[]⟩]
def ar1_v2:List Value:=rp 8 (.int .i64 0) ++ [.string ⟨#[]⟩]
set_option maxRecDepth 100000 in
set_option maxHeartbeats 4000000 in
theorem askRight_1 (S E:Int) (hS:0 ≤ S ∧ S ≤ 7) (hE:1 ≤ E ∧ E ≤ 100) (w:World) :
  Calls Try.prog 25 #[.agg #[.int .i64 1,.int .i64 S,.int .i64 E,.int .i64 0,.int .i64 0,.int .i64 0,.int .i64 0,.int .i64 0,.string ⟨#[]⟩]] w (RetK (.bool true) w):=by
 refine calls_of_holds (S:=(fun _=>False)) (l:=[.agg (List.toArray (ar1_v1 S E))]) (n:=120) Try.func25 (body_of (by kernel_rfl)) rfl (by simp) (MemOk.none w _) ?_
 refine hgE 13 [oh0,oh0,oh0,(oA 0 1 1)] [1,2,6] [] [(w.heap.size,1,1)] [.ops [1,0,0] [2,3],.code [1,0,1],.code [1,1]] ⟨[(1,(pt w.heap.size 0)),(2,.bool false),(6,i6 S)],[⟨w.heap.size,35,true,(ar1_v1 S E)⟩],[],w.heap.size + 1⟩ ?_
 refine hcp (.bool true) 38 [i6 S,i6 0,i6 7] (some 7) [] tI rfl (fun wx hm=>within_true _ _ _ (by omega) (by omega) wx) fun z2 hz2=>?_
 replace hz2:w.heap.size + 1 ≤ z2:=hz2
 refine hgE 40 [oh0,oh0,(oA 0 0 9),oh0,(oA 1 0 9),oh0,(oA 1 0 1),oh0,(oA 1 1 1),oh0,oh0,(oA 0 0 1),oh0,oh1,oh0,(oA 1 2 1),oh0,(oA 0 2 1)] [1,2,3,4,17] [fF,tT] [(w.heap.size,0,9),(z2,0,9),(z2,0,1),(z2,1,1),(w.heap.size,0,1),(z2,2,1),(w.heap.size,2,1)] [.ops [1,1,1,1,1,0,1,0,1] [2,3],.code [1,1,1,1,1,1]] ⟨[(1,(pt w.heap.size 0)),(2,.bool false),(3,(pt z2 0)),(4,.bool true),(17,i6 E)],[⟨w.heap.size,35,true,(ar1_v1 S E)⟩,⟨z2,35,true,(ar1_v2)⟩],[],z2 + 1⟩ ?_
 refine hcp (.bool true) 38 [i6 E,i6 1,i6 16777215] (some 18) [] tI rfl (fun wx hm=>within_true _ _ _ (by omega) (by omega) wx) fun z4 hz4=>?_
 replace hz4:z2 + 1 ≤ z4:=hz4
 refine hgE 33 [oh0,oh0,(oA 0 0 1),oh0,oh0,oh1,oh1,oh0,oh0,⟨true,0,[⟨false,1,0,9⟩]⟩,oh1,⟨true,1,[]⟩,oh3,oh0] [2] [tT,tT,tT,tT,tT,vV,tT] [(w.heap.size,0,1),(z2,0,9)] [.code [1,1,1,1,1,1,1,1]] ⟨[(2,.bool true)],[⟨w.heap.size,35,true,(ar1_v1 S E)⟩,⟨z2,35,true,(ar1_v2)⟩],[],z4⟩ ?_
 refine hrt [] [.bool true] [] ?_
 intro wx hm
 exact ⟨rfl,hm.kept⟩
def ar2_v1 (S:Int) (E:Int):List Value:=((ar1_v1 S E).set 0 (i6 2))
def ar2_v2:List Value:=ar1_v2
set_option maxRecDepth 100000 in
set_option maxHeartbeats 4000000 in
theorem askRight_2 (S E:Int) (hS:0 ≤ S ∧ S ≤ 7) (hE:1 ≤ E ∧ E ≤ 100) (w:World) :
  Calls Try.prog 25 #[.agg #[.int .i64 2,.int .i64 S,.int .i64 E,.int .i64 0,.int .i64 0,.int .i64 0,.int .i64 0,.int .i64 0,.string ⟨#[]⟩]] w (RetK (.bool true) w):=by
 refine calls_of_holds (S:=(fun _=>False)) (l:=[.agg (List.toArray (ar2_v1 S E))]) (n:=120) Try.func25 (body_of (by kernel_rfl)) rfl (by simp) (MemOk.none w _) ?_
 refine hgE 13 [oh0,oh0,oh0,(oA 0 1 1)] [1,2,6] [] [(w.heap.size,1,1)] [.ops [1,0,0] [2,3],.code [1,0,1],.code [1,1]] ⟨[(1,(pt w.heap.size 0)),(2,.bool false),(6,i6 S)],[⟨w.heap.size,35,true,(ar2_v1 S E)⟩],[],w.heap.size + 1⟩ ?_
 refine hcp (.bool true) 38 [i6 S,i6 0,i6 7] (some 7) [] tI rfl (fun wx hm=>within_true _ _ _ (by omega) (by omega) wx) fun z2 hz2=>?_
 replace hz2:w.heap.size + 1 ≤ z2:=hz2
 refine hgE 40 [oh0,oh0,(oA 0 0 9),oh0,(oA 1 0 9),oh0,(oA 1 0 1),oh0,(oA 1 1 1),oh0,oh0,(oA 0 0 1),oh0,oh1,oh0,(oA 1 2 1),oh0,(oA 0 2 1)] [1,2,3,4,17] [fF,tT] [(w.heap.size,0,9),(z2,0,9),(z2,0,1),(z2,1,1),(w.heap.size,0,1),(z2,2,1),(w.heap.size,2,1)] [.ops [1,1,1,1,1,0,1,0,1] [2,3],.code [1,1,1,1,1,1]] ⟨[(1,(pt w.heap.size 0)),(2,.bool false),(3,(pt z2 0)),(4,.bool true),(17,i6 E)],[⟨w.heap.size,35,true,(ar2_v1 S E)⟩,⟨z2,35,true,(ar2_v2)⟩],[],z2 + 1⟩ ?_
 refine hcp (.bool true) 38 [i6 E,i6 1,i6 16777215] (some 18) [] tI rfl (fun wx hm=>within_true _ _ _ (by omega) (by omega) wx) fun z4 hz4=>?_
 replace hz4:z2 + 1 ≤ z4:=hz4
 refine hgE 39 [oh0,oh0,(oA 0 0 1),oh0,oh0,oh0,oh0,oh0,oh1,oh1,oh0,oh0,⟨true,0,[⟨false,1,0,9⟩]⟩,oh1,⟨true,1,[]⟩,oh3,oh0] [2] [fF,tT,tT,tT,tT,tT,vV,tT] [(w.heap.size,0,1),(z2,0,9)] [.code [1,1,1,1,1,1,1,1]] ⟨[(2,.bool true)],[⟨w.heap.size,35,true,(ar2_v1 S E)⟩,⟨z2,35,true,(ar2_v2)⟩],[],z4⟩ ?_
 refine hrt [] [.bool true] [] ?_
 intro wx hm
 exact ⟨rfl,hm.kept⟩
def ar3_v1 (S:Int) (E:Int):List Value:=((ar1_v1 S E).set 0 (i6 3))
def ar3_v2:List Value:=ar1_v2
set_option maxRecDepth 100000 in
set_option maxHeartbeats 4000000 in
theorem askRight_3 (S E:Int) (hS:0 ≤ S ∧ S ≤ 7) (hE:1 ≤ E ∧ E ≤ 100) (w:World) :
  Calls Try.prog 25 #[.agg #[.int .i64 3,.int .i64 S,.int .i64 E,.int .i64 0,.int .i64 0,.int .i64 0,.int .i64 0,.int .i64 0,.string ⟨#[]⟩]] w (RetK (.bool true) w):=by
 refine calls_of_holds (S:=(fun _=>False)) (l:=[.agg (List.toArray (ar3_v1 S E))]) (n:=120) Try.func25 (body_of (by kernel_rfl)) rfl (by simp) (MemOk.none w _) ?_
 refine hgE 13 [oh0,oh0,oh0,(oA 0 1 1)] [1,2,6] [] [(w.heap.size,1,1)] [.ops [1,0,0] [2,3],.code [1,0,1],.code [1,1]] ⟨[(1,(pt w.heap.size 0)),(2,.bool false),(6,i6 S)],[⟨w.heap.size,35,true,(ar3_v1 S E)⟩],[],w.heap.size + 1⟩ ?_
 refine hcp (.bool true) 38 [i6 S,i6 0,i6 7] (some 7) [] tI rfl (fun wx hm=>within_true _ _ _ (by omega) (by omega) wx) fun z2 hz2=>?_
 replace hz2:w.heap.size + 1 ≤ z2:=hz2
 refine hgE 40 [oh0,oh0,(oA 0 0 9),oh0,(oA 1 0 9),oh0,(oA 1 0 1),oh0,(oA 1 1 1),oh0,oh0,(oA 0 0 1),oh0,oh1,oh0,(oA 1 2 1),oh0,(oA 0 2 1)] [1,2,3,4,17] [fF,tT] [(w.heap.size,0,9),(z2,0,9),(z2,0,1),(z2,1,1),(w.heap.size,0,1),(z2,2,1),(w.heap.size,2,1)] [.ops [1,1,1,1,1,0,1,0,1] [2,3],.code [1,1,1,1,1,1]] ⟨[(1,(pt w.heap.size 0)),(2,.bool false),(3,(pt z2 0)),(4,.bool true),(17,i6 E)],[⟨w.heap.size,35,true,(ar3_v1 S E)⟩,⟨z2,35,true,(ar3_v2)⟩],[],z2 + 1⟩ ?_
 refine hcp (.bool true) 38 [i6 E,i6 1,i6 16777215] (some 18) [] tI rfl (fun wx hm=>within_true _ _ _ (by omega) (by omega) wx) fun z4 hz4=>?_
 replace hz4:z2 + 1 ≤ z4:=hz4
 refine hgE 45 [oh0,oh0,(oA 0 0 1),oh0,oh0,oh0,oh0,oh0,oh0,oh0,oh0,oh1,oh1,oh0,oh0,⟨true,0,[⟨false,1,0,9⟩]⟩,oh1,⟨true,1,[]⟩,oh3,oh0] [2] [fF,fF,tT,tT,tT,tT,tT,vV,tT] [(w.heap.size,0,1),(z2,0,9)] [.code [1,1,1,1,1,1,1,1]] ⟨[(2,.bool true)],[⟨w.heap.size,35,true,(ar3_v1 S E)⟩,⟨z2,35,true,(ar3_v2)⟩],[],z4⟩ ?_
 refine hrt [] [.bool true] [] ?_
 intro wx hm
 exact ⟨rfl,hm.kept⟩
def ar4_v1 (S:Int) (E:Int) (Q:Int) (M:Int) (B:ByteArray):List Value:=[i6 4,i6 S,i6 E,i6 Q,i6 M,i6 0,i6 0,i6 0,sT B]
def ar4_v2:List Value:=ar1_v2
@[simp] def ar4_b1 (S:Int) (E:Int) (Q:Int) (M:Int) (B:ByteArray) (w:World) (z2:Nat):List Bk:=[⟨w.heap.size,35,true,(ar4_v1 S E Q M B)⟩,⟨z2,35,true,(ar4_v2)⟩]
set_option maxRecDepth 100000 in
set_option maxHeartbeats 4000000 in
theorem askRight_4 (S E Q M:Int) (B:ByteArray) (hS:0 ≤ S ∧ S ≤ 7) (hE:1 ≤ E ∧ E ≤ 100) (hQ:1 ≤ Q ∧ Q ≤ 6) (hM:1 ≤ M ∧ M ≤ 63) (hB:B.size = 16) (w:World) :
  Calls Try.prog 25 #[.agg #[.int .i64 4,.int .i64 S,.int .i64 E,.int .i64 Q,.int .i64 M,.int .i64 0,.int .i64 0,.int .i64 0,.string B]] w (RetK (.bool true) w):=by
 refine calls_of_holds (S:=(fun _=>False)) (l:=[.agg (List.toArray (ar4_v1 S E Q M B))]) (n:=120) Try.func25 (body_of (by kernel_rfl)) rfl (by simp) (MemOk.none w _) ?_
 refine hgE 13 [oh0,oh0,oh0,(oA 0 1 1)] [1,2,6] [] [(w.heap.size,1,1)] [.ops [1,0,0] [2,3],.code [1,0,1],.code [1,1]] ⟨[(1,(pt w.heap.size 0)),(2,.bool false),(6,i6 S)],[⟨w.heap.size,35,true,(ar4_v1 S E Q M B)⟩],[],w.heap.size + 1⟩ ?_
 refine hcp (.bool true) 38 [i6 S,i6 0,i6 7] (some 7) [] tI rfl (fun wx hm=>within_true _ _ _ (by omega) (by omega) wx) fun z2 hz2=>?_
 replace hz2:w.heap.size + 1 ≤ z2:=hz2
 refine hgE 40 [oh0,oh0,(oA 0 0 9),oh0,(oA 1 0 9),oh0,(oA 1 0 1),oh0,(oA 1 1 1),oh0,oh0,(oA 0 0 1),oh0,oh1,oh0,(oA 1 2 1),oh0,(oA 0 2 1)] [1,2,3,4,17] [fF,tT] [(w.heap.size,0,9),(z2,0,9),(z2,0,1),(z2,1,1),(w.heap.size,0,1),(z2,2,1),(w.heap.size,2,1)] [.ops [1,1,1,1,1,0,1,0,1] [2,3],.code [1,1,1,1,1,1]] ⟨[(1,(pt w.heap.size 0)),(2,.bool false),(3,(pt z2 0)),(4,.bool true),(17,i6 E)],[⟨w.heap.size,35,true,(ar4_v1 S E Q M B)⟩,⟨z2,35,true,[i6 0,i6 0,i6 0,i6 Q,i6 M,i6 0,i6 0,i6 0,sT B]⟩],[],z2 + 1⟩ ?_
 refine hcp (.bool true) 38 [i6 E,i6 1,i6 16777215] (some 18) [] tI rfl (fun wx hm=>within_true _ _ _ (by omega) (by omega) wx) fun z4 hz4=>?_
 replace hz4:z2 + 1 ≤ z4:=hz4
 refine hgE 62 [oh0,oh0,(oA 0 0 1),oh0,oh0,oh0,oh0,oh0,oh0,oh0,oh0,oh0,oh0,oh0,oh0,oh0,oh0,oh0,oh0,oh0,oh1,oh0,(oA 1 3 1),oh0,(oA 1 4 1),oh0,(oA 1 8 1),oh0,oh0,oh1,⟨true,0,[⟨false,0,3,1⟩]⟩] [1,2,3,4,33,35] [fF,fF,fF,fF,fF,tT,tT,tT] [(w.heap.size,0,1),(z2,3,1),(z2,4,1),(z2,8,1),(w.heap.size,3,1)] [.ops [1,1,1,1,1,1,0,1,0,1,1,1,0,1] [4,5,6,7,8,9,10,11,12,13,14,15,16,17],.blk 0,.code [1,1,1,1,1,1,1]] ⟨[(1,(pt w.heap.size 0)),(2,.bool false),(3,(pt z2 0)),(4,.bool true),(33,.bool true),(35,i6 Q)],(ar4_b1 S E Q M B w z2),[],z4⟩ ?_
 refine hcp (.bool true) 38 [i6 Q,i6 1,i6 16777215] (some 36) [true = true] ⟨rfl,tI⟩ rfl (fun wx hm=>within_true _ _ _ (by omega) (by omega) wx) fun z6 hz6=>?_
 replace hz6:z4 ≤ z6:=hz6
 refine hgE 7 [oh3,oh0,oh1,⟨true,0,[⟨false,0,4,1⟩]⟩] [1,2,3,4,38,40] [tT,tT,tT] [(w.heap.size,4,1)] [.ops [1,1,1,1,1,1,0,1,0,1,1,1,0,1] [9,10,11,12,13,14,15,16,17],.blk 0,.code [1,1,1,1,1,1,1]] ⟨[(1,(pt w.heap.size 0)),(2,.bool false),(3,(pt z2 0)),(4,.bool true),(38,.bool true),(40,i6 M)],(ar4_b1 S E Q M B w z2),[],z6⟩ ?_
 refine hcp (.bool true) 38 [i6 M,i6 1,i6 63] (some 41) [true = true] ⟨rfl,tI⟩ rfl (fun wx hm=>within_true _ _ _ (by omega) (by omega) wx) fun z8 hz8=>?_
 replace hz8:z6 ≤ z8:=hz8
 refine hgE 23 [oh3,oh0,oh1,⟨true,0,[⟨false,0,8,1⟩]⟩,oh1,oh1,oh3,oh0,oh0,oh0,⟨true,0,[⟨false,1,0,9⟩]⟩,oh1,⟨true,1,[]⟩,oh3,oh0] [2] [tT,tT,tT,tT,tT,tT,oE (((B.size:Int) == 16) = true) (by rw [hB]; rfl),oE (((B.size:Int) == 16) = true) (by rw [hB]; rfl),oE (((B.size:Int) == 16) = true) (by rw [hB]; rfl),vV,oE (((B.size:Int) == 16) = true) (by rw [hB]; rfl)] [(w.heap.size,8,1),(z2,0,9)] [.code [1,1,1,1,1,1,1,1]] ⟨[(2,.bool true)],(ar4_b1 S E Q M B w z2),[],z8⟩ ?_
 refine hrt [] [.bool true] [] ?_
 intro wx hm
 exact ⟨rfl,hm.kept⟩
def ar5_v1 (S:Int) (E:Int) (Q:Int):List Value:=(((ar1_v1 S E).set 0 (i6 5)).set 3 (i6 Q))
def ar5_v2:List Value:=ar1_v2
set_option maxRecDepth 100000 in
set_option maxHeartbeats 4000000 in
theorem askRight_5 (S E Q:Int) (hS:0 ≤ S ∧ S ≤ 7) (hE:1 ≤ E ∧ E ≤ 100) (hQ:1 ≤ Q ∧ Q ≤ 6) (w:World) :
  Calls Try.prog 25 #[.agg #[.int .i64 5,.int .i64 S,.int .i64 E,.int .i64 Q,.int .i64 0,.int .i64 0,.int .i64 0,.int .i64 0,.string ⟨#[]⟩]] w (RetK (.bool true) w):=by
 refine calls_of_holds (S:=(fun _=>False)) (l:=[.agg (List.toArray (ar5_v1 S E Q))]) (n:=120) Try.func25 (body_of (by kernel_rfl)) rfl (by simp) (MemOk.none w _) ?_
 refine hgE 13 [oh0,oh0,oh0,(oA 0 1 1)] [1,2,6] [] [(w.heap.size,1,1)] [.ops [1,0,0] [2,3],.code [1,0,1],.code [1,1]] ⟨[(1,(pt w.heap.size 0)),(2,.bool false),(6,i6 S)],[⟨w.heap.size,35,true,(ar5_v1 S E Q)⟩],[],w.heap.size + 1⟩ ?_
 refine hcp (.bool true) 38 [i6 S,i6 0,i6 7] (some 7) [] tI rfl (fun wx hm=>within_true _ _ _ (by omega) (by omega) wx) fun z2 hz2=>?_
 replace hz2:w.heap.size + 1 ≤ z2:=hz2
 refine hgE 40 [oh0,oh0,(oA 0 0 9),oh0,(oA 1 0 9),oh0,(oA 1 0 1),oh0,(oA 1 1 1),oh0,oh0,(oA 0 0 1),oh0,oh1,oh0,(oA 1 2 1),oh0,(oA 0 2 1)] [1,2,3,4,17] [fF,tT] [(w.heap.size,0,9),(z2,0,9),(z2,0,1),(z2,1,1),(w.heap.size,0,1),(z2,2,1),(w.heap.size,2,1)] [.ops [1,1,1,1,1,0,1,0,1] [2,3],.code [1,1,1,1,1,1]] ⟨[(1,(pt w.heap.size 0)),(2,.bool false),(3,(pt z2 0)),(4,.bool true),(17,i6 E)],[⟨w.heap.size,35,true,(ar5_v1 S E Q)⟩,⟨z2,35,true,[i6 0,i6 0,i6 0,i6 Q,i6 0,i6 0,i6 0,i6 0,sT ⟨#[]⟩]⟩],[],z2 + 1⟩ ?_
 refine hcp (.bool true) 38 [i6 E,i6 1,i6 16777215] (some 18) [] tI rfl (fun wx hm=>within_true _ _ _ (by omega) (by omega) wx) fun z4 hz4=>?_
 replace hz4:z2 + 1 ≤ z4:=hz4
 refine hgE 64 [oh0,oh0,(oA 0 0 1),oh0,oh0,oh0,oh0,oh0,oh0,oh0,oh0,oh0,oh0,oh0,oh0,oh0,oh0,oh0,oh0,oh0,oh0,oh0,oh0,oh1,oh0,(oA 1 3 1),oh0,oh0,oh1,⟨true,0,[⟨false,0,3,1⟩]⟩] [2,3,4,53,55] [fF,fF,fF,fF,fF,fF,tT,tT,tT] [(w.heap.size,0,1),(z2,3,1),(w.heap.size,3,1)] [.ops [1,1,1,1,1,1,0,1,0,1,1,1,1,1,0,1] [4,5,6],.blk 0,.code [1,1,1,1,1,1,1]] ⟨[(2,.bool false),(3,(pt z2 0)),(4,.bool true),(53,.bool true),(55,i6 Q)],[⟨w.heap.size,35,true,(ar5_v1 S E Q)⟩,⟨z2,35,true,(ar5_v2)⟩],[],z4⟩ ?_
 refine hcp (.bool true) 38 [i6 Q,i6 1,i6 16777215] (some 56) [true = true] ⟨rfl,tI⟩ rfl (fun wx hm=>within_true _ _ _ (by omega) (by omega) wx) fun z6 hz6=>?_
 replace hz6:z4 ≤ z6:=hz6
 refine hgE 17 [oh3,oh0,oh0,oh0,⟨true,0,[⟨false,1,0,9⟩]⟩,oh1,⟨true,1,[]⟩,oh3,oh0] [2] [tT,tT,tT,tT,vV,tT] [(z2,0,9)] [.code [1,1,1,1,1,1,1,1]] ⟨[(2,.bool true)],[⟨w.heap.size,35,true,(ar5_v1 S E Q)⟩,⟨z2,35,true,(ar5_v2)⟩],[],z6⟩ ?_
 refine hrt [] [.bool true] [] ?_
 intro wx hm
 exact ⟨rfl,hm.kept⟩
def ar6_v1 (S:Int) (E:Int) (M:Int) (OE:Int) (OS:Int):List Value:=[i6 6,i6 S,i6 E,i6 0,i6 M,i6 0,i6 OE,i6 OS,sT ⟨#[]⟩]
def ar6_v2:List Value:=ar1_v2
def ar6_n1:List Nat:=[1,1,1,1,1,1,0,1,0,1,1,1,1,1,1,1,1,1,0,1]
@[simp] def ar6_b1 (S:Int) (E:Int) (M:Int) (OE:Int) (OS:Int) (w:World) (z2:Nat):List Bk:=[⟨w.heap.size,35,true,(ar6_v1 S E M OE OS)⟩,⟨z2,35,true,(ar6_v2)⟩]
set_option maxRecDepth 100000 in
set_option maxHeartbeats 4000000 in
theorem askRight_6 (S E M OE OS:Int) (hS:0 ≤ S ∧ S ≤ 7) (hE:1 ≤ E ∧ E ≤ 100) (hM:0 ≤ M ∧ M ≤ 1) (hO:0 ≤ OE ∧ OE < E ∧ 0 ≤ OS ∧ OS ≤ 6) (w:World) :
  Calls Try.prog 25 #[.agg #[.int .i64 6,.int .i64 S,.int .i64 E,.int .i64 0,.int .i64 M,.int .i64 0,.int .i64 OE,.int .i64 OS,.string ⟨#[]⟩]] w (RetK (.bool true) w):=by
 refine calls_of_holds (S:=(fun _=>False)) (l:=[.agg (List.toArray (ar6_v1 S E M OE OS))]) (n:=120) Try.func25 (body_of (by kernel_rfl)) rfl (by simp) (MemOk.none w _) ?_
 refine hgE 13 [oh0,oh0,oh0,(oA 0 1 1)] [1,2,6] [] [(w.heap.size,1,1)] [.ops [1,0,0] [2,3],.code [1,0,1],.code [1,1]] ⟨[(1,(pt w.heap.size 0)),(2,.bool false),(6,i6 S)],[⟨w.heap.size,35,true,(ar6_v1 S E M OE OS)⟩],[],w.heap.size + 1⟩ ?_
 refine hcp (.bool true) 38 [i6 S,i6 0,i6 7] (some 7) [] tI rfl (fun wx hm=>within_true _ _ _ (by omega) (by omega) wx) fun z2 hz2=>?_
 replace hz2:w.heap.size + 1 ≤ z2:=hz2
 refine hgE 40 [oh0,oh0,(oA 0 0 9),oh0,(oA 1 0 9),oh0,(oA 1 0 1),oh0,(oA 1 1 1),oh0,oh0,(oA 0 0 1),oh0,oh1,oh0,(oA 1 2 1),oh0,(oA 0 2 1)] [1,2,3,4,17] [fF,tT] [(w.heap.size,0,9),(z2,0,9),(z2,0,1),(z2,1,1),(w.heap.size,0,1),(z2,2,1),(w.heap.size,2,1)] [.ops [1,1,1,1,1,0,1,0,1] [2,3],.code [1,1,1,1,1,1]] ⟨[(1,(pt w.heap.size 0)),(2,.bool false),(3,(pt z2 0)),(4,.bool true),(17,i6 E)],[⟨w.heap.size,35,true,(ar6_v1 S E M OE OS)⟩,⟨z2,35,true,[i6 0,i6 0,i6 0,i6 0,i6 M,i6 0,i6 OE,i6 OS,sT ⟨#[]⟩]⟩],[],z2 + 1⟩ ?_
 refine hcp (.bool true) 38 [i6 E,i6 1,i6 16777215] (some 18) [] tI rfl (fun wx hm=>within_true _ _ _ (by omega) (by omega) wx) fun z4 hz4=>?_
 replace hz4:z2 + 1 ≤ z4:=hz4
 refine hgE 79 [oh0,oh0,(oA 0 0 1),oh0,oh0,oh0,oh0,oh0,oh0,oh0,oh0,oh0,oh0,oh0,oh0,oh0,oh0,oh0,oh0,oh0,oh0,oh0,oh0,oh0,oh0,oh0,oh0,oh0,oh0,oh1,oh0,oh0,(oA 1 4 1),oh0,(oA 1 6 2),oh0,oh0,oh1,⟨true,0,[⟨false,0,4,1⟩]⟩] [1,2,3,4,80,82] [fF,fF,fF,fF,fF,fF,fF,fF,tT,tT,tT] [(w.heap.size,0,1),(z2,4,1),(z2,6,2),(w.heap.size,4,1)] [.ops ar6_n1 [4,5,6,7,8,9,10,11,12,13,14,15,16,17,18,19,20,21,22,23,24,25,26],.blk 0,.code [1,1,1,1,1,1,1]] ⟨[(1,(pt w.heap.size 0)),(2,.bool false),(3,(pt z2 0)),(4,.bool true),(80,.bool true),(82,i6 M)],(ar6_b1 S E M OE OS w z2),[],z4⟩ ?_
 refine hcp (.bool true) 38 [i6 M,i6 0,i6 1] (some 83) [true = true] ⟨rfl,tI⟩ rfl (fun wx hm=>within_true _ _ _ (by omega) (by omega) wx) fun z6 hz6=>?_
 replace hz6:z4 ≤ z6:=hz6
 refine hgE 8 [oh3,oh0,oh1,oh1,⟨true,0,[⟨false,0,6,1⟩]⟩] [1,2,3,4,85,88] [tT,tT,tT,tT] [(w.heap.size,6,1)] [.ops ar6_n1 [10,11,12,13,14,15,16,17,18,19,20,21,22,23,24,25,26],.blk 0,.code [1,1,1,1,1,1,1]] ⟨[(1,(pt w.heap.size 0)),(2,.bool false),(3,(pt z2 0)),(4,.bool true),(85,.bool true),(88,i6 OE)],(ar6_b1 S E M OE OS w z2),[],z6⟩ ?_
 refine hcp (.bool true) 38 [i6 OE,i6 0,i6 16777215] (some 89) [true = true] ⟨rfl,tI⟩ rfl (fun wx hm=>within_true _ _ _ (by omega) (by omega) wx) fun z8 hz8=>?_
 replace hz8:z6 ≤ z8:=hz8
 refine hgE 8 [oh3,oh0,oh1,oh1,⟨true,0,[⟨false,0,7,1⟩]⟩] [1,2,3,4,91,94] [tT,tT,tT,tT] [(w.heap.size,7,1)] [.ops ar6_n1 [16,17,18,19,20,21,22,23,24,25,26],.blk 0,.code [1,1,1,1,1,1,1]] ⟨[(1,(pt w.heap.size 0)),(2,.bool false),(3,(pt z2 0)),(4,.bool true),(91,.bool true),(94,i6 OS)],(ar6_b1 S E M OE OS w z2),[],z8⟩ ?_
 refine hcp (.bool true) 38 [i6 OS,i6 0,i6 16777215] (some 95) [true = true] ⟨rfl,tI⟩ rfl (fun wx hm=>within_true _ _ _ (by omega) (by omega) wx) fun z10 hz10=>?_
 replace hz10:z8 ≤ z10:=hz10
 refine hgE 25 [oh3,oh0,oh1,oh1,⟨true,0,[⟨false,0,6,1⟩]⟩,oh1,⟨true,0,[⟨false,0,2,1⟩]⟩,oh1,oh3,oh0,oh0,oh0,⟨true,0,[⟨false,1,0,9⟩]⟩,oh1,⟨true,1,[]⟩,oh3,oh0] [2] [tT,tT,tT,tT,tT,tT,tT,tT,dT ((OE:Int) < E),dT ((OE:Int) < E),dT ((OE:Int) < E),vV,dT ((OE:Int) < E)] [(w.heap.size,6,1),(w.heap.size,2,1),(z2,0,9)] [.code [1,1,1,1,1,1,1,1]] ⟨[(2,.bool true)],(ar6_b1 S E M OE OS w z2),[],z10⟩ ?_
 refine hrt [] [.bool true] [] ?_
 intro wx hm
 exact ⟨rfl,hm.kept⟩
def ar7_v1 (S:Int) (E:Int) (Q:Int) (B:ByteArray):List Value:=(((ar5_v1 S E Q).set 0 (i6 7)).set 8 (sT B))
def ar7_v2:List Value:=ar1_v2
set_option maxRecDepth 100000 in
set_option maxHeartbeats 4000000 in
theorem askRight_7 (S E Q:Int) (B:ByteArray) (hS:0 ≤ S ∧ S ≤ 7) (hE:1 ≤ E ∧ E ≤ 100) (hQ:1 ≤ Q ∧ Q ≤ 6) (hB:B.size = 16) (w:World) :
  Calls Try.prog 25 #[.agg #[.int .i64 7,.int .i64 S,.int .i64 E,.int .i64 Q,.int .i64 0,.int .i64 0,.int .i64 0,.int .i64 0,.string B]] w (RetK (.bool true) w):=by
 refine calls_of_holds (S:=(fun _=>False)) (l:=[.agg (List.toArray (ar7_v1 S E Q B))]) (n:=120) Try.func25 (body_of (by kernel_rfl)) rfl (by simp) (MemOk.none w _) ?_
 refine hgE 13 [oh0,oh0,oh0,(oA 0 1 1)] [1,2,6] [] [(w.heap.size,1,1)] [.ops [1,0,0] [2,3],.code [1,0,1],.code [1,1]] ⟨[(1,(pt w.heap.size 0)),(2,.bool false),(6,i6 S)],[⟨w.heap.size,35,true,(ar7_v1 S E Q B)⟩],[],w.heap.size + 1⟩ ?_
 refine hcp (.bool true) 38 [i6 S,i6 0,i6 7] (some 7) [] tI rfl (fun wx hm=>within_true _ _ _ (by omega) (by omega) wx) fun z2 hz2=>?_
 replace hz2:w.heap.size + 1 ≤ z2:=hz2
 refine hgE 40 [oh0,oh0,(oA 0 0 9),oh0,(oA 1 0 9),oh0,(oA 1 0 1),oh0,(oA 1 1 1),oh0,oh0,(oA 0 0 1),oh0,oh1,oh0,(oA 1 2 1),oh0,(oA 0 2 1)] [1,2,3,4,17] [fF,tT] [(w.heap.size,0,9),(z2,0,9),(z2,0,1),(z2,1,1),(w.heap.size,0,1),(z2,2,1),(w.heap.size,2,1)] [.ops [1,1,1,1,1,0,1,0,1] [2,3],.code [1,1,1,1,1,1]] ⟨[(1,(pt w.heap.size 0)),(2,.bool false),(3,(pt z2 0)),(4,.bool true),(17,i6 E)],[⟨w.heap.size,35,true,(ar7_v1 S E Q B)⟩,⟨z2,35,true,[i6 0,i6 0,i6 0,i6 Q,i6 0,i6 0,i6 0,i6 0,sT B]⟩],[],z2 + 1⟩ ?_
 refine hcp (.bool true) 38 [i6 E,i6 1,i6 16777215] (some 18) [] tI rfl (fun wx hm=>within_true _ _ _ (by omega) (by omega) wx) fun z4 hz4=>?_
 replace hz4:z2 + 1 ≤ z4:=hz4
 refine hgE 72 [oh0,oh0,(oA 0 0 1),oh0,oh0,oh0,oh0,oh0,oh0,oh0,oh0,oh0,oh0,oh0,oh0,oh0,oh0,oh0,oh0,oh0,oh0,oh0,oh0,oh0,oh0,oh0,oh1,oh0,(oA 1 3 1),oh0,(oA 1 8 1),oh0,oh0,oh1,⟨true,0,[⟨false,0,3,1⟩]⟩] [1,2,3,4,63,65] [fF,fF,fF,fF,fF,fF,fF,tT,tT,tT] [(w.heap.size,0,1),(z2,3,1),(z2,8,1),(w.heap.size,3,1)] [.ops [1,1,1,1,1,1,0,1,0,1,1,1,1,1,1,1,0,1] [4,5,6,7,8,9,10,11,12],.blk 0,.code [1,1,1,1,1,1,1]] ⟨[(1,(pt w.heap.size 0)),(2,.bool false),(3,(pt z2 0)),(4,.bool true),(63,.bool true),(65,i6 Q)],[⟨w.heap.size,35,true,(ar7_v1 S E Q B)⟩,⟨z2,35,true,(ar7_v2)⟩],[],z4⟩ ?_
 refine hcp (.bool true) 38 [i6 Q,i6 1,i6 16777215] (some 66) [true = true] ⟨rfl,tI⟩ rfl (fun wx hm=>within_true _ _ _ (by omega) (by omega) wx) fun z6 hz6=>?_
 replace hz6:z4 ≤ z6:=hz6
 refine hgE 23 [oh3,oh0,oh1,⟨true,0,[⟨false,0,8,1⟩]⟩,oh1,oh1,oh3,oh0,oh0,oh0,⟨true,0,[⟨false,1,0,9⟩]⟩,oh1,⟨true,1,[]⟩,oh3,oh0] [2] [tT,tT,tT,tT,tT,tT,oE (((B.size:Int) == 16) = true) (by rw [hB]; rfl),oE (((B.size:Int) == 16) = true) (by rw [hB]; rfl),oE (((B.size:Int) == 16) = true) (by rw [hB]; rfl),vV,oE (((B.size:Int) == 16) = true) (by rw [hB]; rfl)] [(w.heap.size,8,1),(z2,0,9)] [.code [1,1,1,1,1,1,1,1]] ⟨[(2,.bool true)],[⟨w.heap.size,35,true,(ar7_v1 S E Q B)⟩,⟨z2,35,true,(ar7_v2)⟩],[],z6⟩ ?_
 refine hrt [] [.bool true] [] ?_
 intro wx hm
 exact ⟨rfl,hm.kept⟩
def ar8_v1 (S:Int):List Value:=[i6 8,i6 S] ++ rp 6 (i6 0) ++ [sT ⟨#[]⟩]
set_option maxRecDepth 100000 in
set_option maxHeartbeats 4000000 in
theorem askRight_8 (S:Int) (hS:0 ≤ S ∧ S ≤ 7) (w:World) :
  Calls Try.prog 25 #[.agg #[.int .i64 8,.int .i64 S,.int .i64 0,.int .i64 0,.int .i64 0,.int .i64 0,.int .i64 0,.int .i64 0,.string ⟨#[]⟩]] w (RetK (.bool true) w):=by
 refine calls_of_holds (S:=(fun _=>False)) (l:=[.agg (List.toArray (ar8_v1 S))]) (n:=120) Try.func25 (body_of (by kernel_rfl)) rfl (by simp) (MemOk.none w _) ?_
 refine hgE 13 [oh0,oh0,oh0,(oA 0 1 1)] [1,2,6] [] [(w.heap.size,1,1)] [.ops [1,0,0] [2,3],.code [1,0,1],.code [1,1]] ⟨[(1,(pt w.heap.size 0)),(2,.bool false),(6,i6 S)],[⟨w.heap.size,35,true,(ar8_v1 S)⟩],[],w.heap.size + 1⟩ ?_
 refine hcp (.bool true) 38 [i6 S,i6 0,i6 7] (some 7) [] tI rfl (fun wx hm=>within_true _ _ _ (by omega) (by omega) wx) fun z2 hz2=>?_
 replace hz2:w.heap.size + 1 ≤ z2:=hz2
 refine hgE 82 [oh0,oh0,(oA 0 0 9),oh0,(oA 1 0 9),oh0,(oA 1 0 1),oh0,(oA 1 1 1),oh0,oh0,(oA 0 0 1),oh0,oh0,oh0,(oA 0 0 1),oh0,oh0,oh0,oh0,oh0,oh0,oh0,oh0,oh0,oh0,oh0,oh0,oh0,oh0,oh1,oh0,oh0,⟨true,0,[⟨false,1,0,9⟩]⟩,oh1,⟨true,1,[]⟩,oh3,oh0] [2] [fF,fF,fF,fF,fF,fF,tT,tT,tT,tT,vV,tT] [(w.heap.size,0,9),(z2,0,9),(z2,0,1),(z2,1,1),(w.heap.size,0,1),(w.heap.size,0,1),(z2,0,9)] [.code [1,1,1,1,1,1,1,1]] ⟨[(2,.bool true)],[⟨w.heap.size,35,true,(ar8_v1 S)⟩,⟨z2,35,true,[i6 0,i6 0,i6 0,i6 0,i6 0,i6 0,i6 0,i6 0,sT ⟨#[]⟩]⟩],[],z2 + 1⟩ ?_
 refine hrt [] [.bool true] [] ?_
 intro wx hm
 exact ⟨rfl,hm.kept⟩
def ar9_v1 (S:Int) (E:Int) (ND:Int):List Value:=(((ar1_v1 S E).set 0 (i6 9)).set 5 (i6 ND))
def ar9_v2:List Value:=ar1_v2
set_option maxRecDepth 100000 in
set_option maxHeartbeats 4000000 in
theorem askRight_9 (S E ND:Int) (hS:0 ≤ S ∧ S ≤ 7) (hE:1 ≤ E ∧ E ≤ 100) (hN:0 ≤ ND ∧ ND ≤ 5) (w:World) :
  Calls Try.prog 25 #[.agg #[.int .i64 9,.int .i64 S,.int .i64 E,.int .i64 0,.int .i64 0,.int .i64 ND,.int .i64 0,.int .i64 0,.string ⟨#[]⟩]] w (RetK (.bool true) w):=by
 refine calls_of_holds (S:=(fun _=>False)) (l:=[.agg (List.toArray (ar9_v1 S E ND))]) (n:=120) Try.func25 (body_of (by kernel_rfl)) rfl (by simp) (MemOk.none w _) ?_
 refine hgE 13 [oh0,oh0,oh0,(oA 0 1 1)] [1,2,6] [] [(w.heap.size,1,1)] [.ops [1,0,0] [2,3],.code [1,0,1],.code [1,1]] ⟨[(1,(pt w.heap.size 0)),(2,.bool false),(6,i6 S)],[⟨w.heap.size,35,true,(ar9_v1 S E ND)⟩],[],w.heap.size + 1⟩ ?_
 refine hcp (.bool true) 38 [i6 S,i6 0,i6 7] (some 7) [] tI rfl (fun wx hm=>within_true _ _ _ (by omega) (by omega) wx) fun z2 hz2=>?_
 replace hz2:w.heap.size + 1 ≤ z2:=hz2
 refine hgE 40 [oh0,oh0,(oA 0 0 9),oh0,(oA 1 0 9),oh0,(oA 1 0 1),oh0,(oA 1 1 1),oh0,oh0,(oA 0 0 1),oh0,oh1,oh0,(oA 1 2 1),oh0,(oA 0 2 1)] [1,2,3,4,17] [fF,tT] [(w.heap.size,0,9),(z2,0,9),(z2,0,1),(z2,1,1),(w.heap.size,0,1),(z2,2,1),(w.heap.size,2,1)] [.ops [1,1,1,1,1,0,1,0,1] [2,3],.code [1,1,1,1,1,1]] ⟨[(1,(pt w.heap.size 0)),(2,.bool false),(3,(pt z2 0)),(4,.bool true),(17,i6 E)],[⟨w.heap.size,35,true,(ar9_v1 S E ND)⟩,⟨z2,35,true,[i6 0,i6 0,i6 0,i6 0,i6 0,i6 ND,i6 0,i6 0,sT ⟨#[]⟩]⟩],[],z2 + 1⟩ ?_
 refine hcp (.bool true) 38 [i6 E,i6 1,i6 16777215] (some 18) [] tI rfl (fun wx hm=>within_true _ _ _ (by omega) (by omega) wx) fun z4 hz4=>?_
 replace hz4:z2 + 1 ≤ z4:=hz4
 refine hgE 82 [oh0,oh0,(oA 0 0 1),oh0,oh0,oh0,oh0,oh0,oh0,oh0,oh0,oh0,oh0,oh0,oh0,oh0,oh0,oh0,oh0,oh0,oh0,oh0,oh0,oh0,oh0,oh0,oh0,oh0,oh0,oh0,oh0,oh0,oh1,oh0,(oA 1 5 1),oh0,oh0,oh1,⟨true,0,[⟨false,0,5,1⟩]⟩] [2,3,4,109,111] [fF,fF,fF,fF,fF,fF,fF,fF,fF,tT,tT,tT] [(w.heap.size,0,1),(z2,5,1),(w.heap.size,5,1)] [.ops [1,1,1,1,1,1,0,1,0,1,1,1,1,1,1,1,1,1,1,1,0,1] [4,5,6],.blk 0,.code [1,1,1,1,1,1,1]] ⟨[(2,.bool false),(3,(pt z2 0)),(4,.bool true),(109,.bool true),(111,i6 ND)],[⟨w.heap.size,35,true,(ar9_v1 S E ND)⟩,⟨z2,35,true,(ar9_v2)⟩],[],z4⟩ ?_
 refine hcp (.bool true) 38 [i6 ND,i6 0,i6 5] (some 112) [true = true] ⟨rfl,tI⟩ rfl (fun wx hm=>within_true _ _ _ (by omega) (by omega) wx) fun z6 hz6=>?_
 replace hz6:z4 ≤ z6:=hz6
 refine hgE 17 [oh3,oh0,oh0,oh0,⟨true,0,[⟨false,1,0,9⟩]⟩,oh1,⟨true,1,[]⟩,oh3,oh0] [2] [tT,tT,tT,tT,vV,tT] [(z2,0,9)] [.code [1,1,1,1,1,1,1,1]] ⟨[(2,.bool true)],[⟨w.heap.size,35,true,(ar9_v1 S E ND)⟩,⟨z2,35,true,(ar9_v2)⟩],[],z6⟩ ?_
 refine hrt [] [.bool true] [] ?_
 intro wx hm
 exact ⟨rfl,hm.kept⟩
def ar10_v1 (S:Int) (E:Int):List Value:=((ar1_v1 S E).set 0 (i6 10))
def ar10_v2:List Value:=ar1_v2
set_option maxRecDepth 100000 in
set_option maxHeartbeats 4000000 in
theorem askRight_10 (S E:Int) (hS:0 ≤ S ∧ S ≤ 7) (hE:1 ≤ E ∧ E ≤ 100) (w:World) :
  Calls Try.prog 25 #[.agg #[.int .i64 10,.int .i64 S,.int .i64 E,.int .i64 0,.int .i64 0,.int .i64 0,.int .i64 0,.int .i64 0,.string ⟨#[]⟩]] w (RetK (.bool true) w):=by
 refine calls_of_holds (S:=(fun _=>False)) (l:=[.agg (List.toArray (ar10_v1 S E))]) (n:=120) Try.func25 (body_of (by kernel_rfl)) rfl (by simp) (MemOk.none w _) ?_
 refine hgE 13 [oh0,oh0,oh0,(oA 0 1 1)] [1,2,6] [] [(w.heap.size,1,1)] [.ops [1,0,0] [2,3],.code [1,0,1],.code [1,1]] ⟨[(1,(pt w.heap.size 0)),(2,.bool false),(6,i6 S)],[⟨w.heap.size,35,true,(ar10_v1 S E)⟩],[],w.heap.size + 1⟩ ?_
 refine hcp (.bool true) 38 [i6 S,i6 0,i6 7] (some 7) [] tI rfl (fun wx hm=>within_true _ _ _ (by omega) (by omega) wx) fun z2 hz2=>?_
 replace hz2:w.heap.size + 1 ≤ z2:=hz2
 refine hgE 40 [oh0,oh0,(oA 0 0 9),oh0,(oA 1 0 9),oh0,(oA 1 0 1),oh0,(oA 1 1 1),oh0,oh0,(oA 0 0 1),oh0,oh1,oh0,(oA 1 2 1),oh0,(oA 0 2 1)] [1,2,3,4,17] [fF,tT] [(w.heap.size,0,9),(z2,0,9),(z2,0,1),(z2,1,1),(w.heap.size,0,1),(z2,2,1),(w.heap.size,2,1)] [.ops [1,1,1,1,1,0,1,0,1] [2,3],.code [1,1,1,1,1,1]] ⟨[(1,(pt w.heap.size 0)),(2,.bool false),(3,(pt z2 0)),(4,.bool true),(17,i6 E)],[⟨w.heap.size,35,true,(ar10_v1 S E)⟩,⟨z2,35,true,(ar10_v2)⟩],[],z2 + 1⟩ ?_
 refine hcp (.bool true) 38 [i6 E,i6 1,i6 16777215] (some 18) [] tI rfl (fun wx hm=>within_true _ _ _ (by omega) (by omega) wx) fun z4 hz4=>?_
 replace hz4:z2 + 1 ≤ z4:=hz4
 refine hgE 51 [oh0,oh0,(oA 0 0 1),oh0,oh0,oh0,oh0,oh0,oh0,oh0,oh0,oh0,oh0,oh0,oh1,oh1,oh0,oh0,⟨true,0,[⟨false,1,0,9⟩]⟩,oh1,⟨true,1,[]⟩,oh3,oh0] [2] [fF,fF,fF,tT,tT,tT,tT,tT,vV,tT] [(w.heap.size,0,1),(z2,0,9)] [.code [1,1,1,1,1,1,1,1]] ⟨[(2,.bool true)],[⟨w.heap.size,35,true,(ar10_v1 S E)⟩,⟨z2,35,true,(ar10_v2)⟩],[],z4⟩ ?_
 refine hrt [] [.bool true] [] ?_
 intro wx hm
 exact ⟨rfl,hm.kept⟩
theorem askRight (q:AskM) (h:AskOk q) (w:World):Calls Try.prog 25 #[.agg #[.int .i64 q.kind,.int .i64 q.stripe,.int .i64 q.epoch,.int .i64 q.seq,.int .i64 q.mask,.int .i64 q.node,.int .i64 q.oe,.int .i64 q.os,.string q.block]] w (RetK (.bool true) w):=by
 obtain ⟨kind,stripe,epoch,seq,mask,node,oe,os,block⟩:=q
 obtain ⟨a1,a2,a3,a4,a5,a6,a7,a8,a9,b1,b2,b3,b4,b5,b6⟩:=h
 dsimp only at *
 have hk:kind = 1 ∨ kind = 2 ∨ kind = 3 ∨ kind = 4 ∨ kind = 5 ∨ kind = 6 ∨ kind = 7 ∨ kind = 8 ∨ kind = 9 ∨ kind = 10:=by omega
 rcases hk with rfl | rfl | rfl | rfl | rfl | rfl | rfl | rfl | rfl | rfl
 ·have hE:=a3 (by omega)
  obtain rfl:=a6 (by omega)
  obtain rfl:=a9 (by omega)
  obtain rfl:=b6 (by omega)
  obtain ⟨rfl,rfl⟩:=b4 (by omega)
  obtain rfl:=b2 (by omega)
  exact askRight_1 _ _ a2 hE w
 ·have hE:=a3 (by omega)
  obtain rfl:=a6 (by omega)
  obtain rfl:=a9 (by omega)
  obtain rfl:=b6 (by omega)
  obtain ⟨rfl,rfl⟩:=b4 (by omega)
  obtain rfl:=b2 (by omega)
  exact askRight_2 _ _ a2 hE w
 ·have hE:=a3 (by omega)
  obtain rfl:=a6 (by omega)
  obtain rfl:=a9 (by omega)
  obtain rfl:=b6 (by omega)
  obtain ⟨rfl,rfl⟩:=b4 (by omega)
  obtain rfl:=b2 (by omega)
  exact askRight_3 _ _ a2 hE w
 ·have hE:=a3 (by omega)
  have hQ:=a5 (by omega)
  have hM:=a7 rfl
  obtain rfl:=b6 (by omega)
  obtain ⟨rfl,rfl⟩:=b4 (by omega)
  have hB:=b1 (by omega)
  exact askRight_4 _ _ _ _ _ a2 hE hQ hM hB w
 ·have hE:=a3 (by omega)
  have hQ:=a5 (by omega)
  obtain rfl:=a9 (by omega)
  obtain rfl:=b6 (by omega)
  obtain ⟨rfl,rfl⟩:=b4 (by omega)
  obtain rfl:=b2 (by omega)
  exact askRight_5 _ _ _ a2 hE hQ w
 ·have hE:=a3 (by omega)
  obtain rfl:=a6 (by omega)
  have hM:=a8 rfl
  obtain rfl:=b6 (by omega)
  have hO:=b3 rfl
  obtain rfl:=b2 (by omega)
  exact askRight_6 _ _ _ _ _ a2 hE hM hO w
 ·have hE:=a3 (by omega)
  have hQ:=a5 (by omega)
  obtain rfl:=a9 (by omega)
  obtain rfl:=b6 (by omega)
  obtain ⟨rfl,rfl⟩:=b4 (by omega)
  have hB:=b1 (by omega)
  exact askRight_7 _ _ _ _ a2 hE hQ hB w
 ·obtain rfl:=a4 rfl
  obtain rfl:=a6 (by omega)
  obtain rfl:=a9 (by omega)
  obtain rfl:=b6 (by omega)
  obtain ⟨rfl,rfl⟩:=b4 (by omega)
  obtain rfl:=b2 (by omega)
  exact askRight_8 _ a2 w
 ·have hE:=a3 (by omega)
  obtain rfl:=a6 (by omega)
  obtain rfl:=a9 (by omega)
  have hN:=b5 rfl
  obtain ⟨rfl,rfl⟩:=b4 (by omega)
  obtain rfl:=b2 (by omega)
  exact askRight_9 _ _ _ a2 hE hN w
 ·have hE:=a3 (by omega)
  obtain rfl:=a6 (by omega)
  obtain rfl:=a9 (by omega)
  obtain rfl:=b6 (by omega)
  obtain ⟨rfl,rfl⟩:=b4 (by omega)
  obtain rfl:=b2 (by omega)
  exact askRight_10 _ _ a2 hE w
def ch0_v1 (r:RecM) (q:AskM):List Value:=[.bool r.used,i6 r.fence,i6 r.de,i6 r.ds,sT r.block,.bool r.op,i6 r.ie,i6 r.is,i6 r.mask,sT r.staged,i6 q.kind,i6 q.stripe,i6 q.epoch,i6 q.seq,i6 q.mask,i6 q.node,i6 q.oe,i6 q.os,sT q.block,i6 q.epoch,i6 q.seq]
set_option maxRecDepth 100000 in
set_option maxHeartbeats 4000000 in
theorem chosen_0 (r:RecM) (q:AskM) (t0:(q.kind == 1) = true) (w:World) :
  Calls Try.prog 43 #[.agg #[.bool r.used,.int .i64 r.fence,.int .i64 r.de,.int .i64 r.ds,.string r.block,.bool r.op,.int .i64 r.ie,.int .i64 r.is,.int .i64 r.mask,.string r.staged,.int .i64 q.kind,.int .i64 q.stripe,.int .i64 q.epoch,.int .i64 q.seq,.int .i64 q.mask,.int .i64 q.node,.int .i64 q.oe,.int .i64 q.os,.string q.block,.int .i64 q.epoch,.int .i64 q.seq]] w (RetK (.func (.func 59) #[.agg #[.bool r.used,.int .i64 r.fence,.int .i64 r.de,.int .i64 r.ds,.string r.block,.bool r.op,.int .i64 r.ie,.int .i64 r.is,.int .i64 r.mask,.string r.staged,.int .i64 q.kind,.int .i64 q.stripe,.int .i64 q.epoch,.int .i64 q.seq,.int .i64 q.mask,.int .i64 q.node,.int .i64 q.oe,.int .i64 q.os,.string q.block,.int .i64 q.epoch,.int .i64 q.seq]] #[]) w):=by
 refine calls_of_holds (S:=(fun _=>False)) (l:=[.agg (List.toArray (ch0_v1 r q))]) (n:=55) Try.func43 (body_of (by kernel_rfl)) rfl (by simp) (MemOk.none w _) ?_
 refine hgE 25 [oh0,oh0,oh0,oh0,(oA 0 10 1),oh0,oh0,oh1,(oA 0 0 21),oh0,oh0] [1,2] [oE ((q.kind == 1) = true) t0] [(w.heap.size,10,1),(w.heap.size,0,21)] [.code [1,0,0,1,0,1],.blk 0,.code [1,1]] ⟨[(1,(pt w.heap.size 0)),(2,.func (.func 59) #[.agg (List.toArray (ch0_v1 r q))] #[])],[⟨w.heap.size,90,true,(ch0_v1 r q)⟩],[],w.heap.size + 1⟩ ?_
 refine hrt [] [.func (.func 59) #[.agg (List.toArray (ch0_v1 r q))] #[]] [] ?_
 intro wx hm
 exact ⟨rfl,hm.kept⟩
def ch1_v1 (r:RecM) (q:AskM):List Value:=(ch0_v1 r q)
set_option maxRecDepth 100000 in
set_option maxHeartbeats 4000000 in
theorem chosen_1 (r:RecM) (q:AskM) (t0:(q.kind == 1) = false) (t1:(q.epoch != r.fence) = true) (w:World) :
  Calls Try.prog 43 #[.agg #[.bool r.used,.int .i64 r.fence,.int .i64 r.de,.int .i64 r.ds,.string r.block,.bool r.op,.int .i64 r.ie,.int .i64 r.is,.int .i64 r.mask,.string r.staged,.int .i64 q.kind,.int .i64 q.stripe,.int .i64 q.epoch,.int .i64 q.seq,.int .i64 q.mask,.int .i64 q.node,.int .i64 q.oe,.int .i64 q.os,.string q.block,.int .i64 q.epoch,.int .i64 q.seq]] w (RetK (.func (.func 60) #[.agg #[.bool r.used,.int .i64 r.fence,.int .i64 r.de,.int .i64 r.ds,.string r.block,.bool r.op,.int .i64 r.ie,.int .i64 r.is,.int .i64 r.mask,.string r.staged,.int .i64 q.kind,.int .i64 q.stripe,.int .i64 q.epoch,.int .i64 q.seq,.int .i64 q.mask,.int .i64 q.node,.int .i64 q.oe,.int .i64 q.os,.string q.block,.int .i64 q.epoch,.int .i64 q.seq]] #[]) w):=by
 refine calls_of_holds (S:=(fun _=>False)) (l:=[.agg (List.toArray (ch1_v1 r q))]) (n:=55) Try.func43 (body_of (by kernel_rfl)) rfl (by simp) (MemOk.none w _) ?_
 refine hgE 37 [oh0,oh0,oh0,oh0,(oA 0 10 1),oh0,oh0,oh0,oh0,oh0,(oA 0 12 1),oh0,oh0,(oA 0 1 1),oh0,oh0,oh1,(oA 0 0 21),oh0,oh0] [1,2] [oE ((q.kind == 1) = false) t0,oE ((q.epoch != r.fence) = true) t1] [(w.heap.size,10,1),(w.heap.size,12,1),(w.heap.size,1,1),(w.heap.size,0,21)] [.code [1,0,0,1,1,1,0,1],.blk 0,.code [1,1]] ⟨[(1,(pt w.heap.size 0)),(2,.func (.func 60) #[.agg (List.toArray (ch1_v1 r q))] #[])],[⟨w.heap.size,90,true,(ch1_v1 r q)⟩],[],w.heap.size + 1⟩ ?_
 refine hrt [] [.func (.func 60) #[.agg (List.toArray (ch1_v1 r q))] #[]] [] ?_
 intro wx hm
 exact ⟨rfl,hm.kept⟩
def ch2_v1 (r:RecM) (q:AskM):List Value:=(ch0_v1 r q)
set_option maxRecDepth 100000 in
set_option maxHeartbeats 4000000 in
theorem chosen_2 (r:RecM) (q:AskM) (t0:(q.kind == 1) = false) (t1:(q.epoch != r.fence) = false) (t2:(q.kind == 7) = true) (w:World) :
  Calls Try.prog 43 #[.agg #[.bool r.used,.int .i64 r.fence,.int .i64 r.de,.int .i64 r.ds,.string r.block,.bool r.op,.int .i64 r.ie,.int .i64 r.is,.int .i64 r.mask,.string r.staged,.int .i64 q.kind,.int .i64 q.stripe,.int .i64 q.epoch,.int .i64 q.seq,.int .i64 q.mask,.int .i64 q.node,.int .i64 q.oe,.int .i64 q.os,.string q.block,.int .i64 q.epoch,.int .i64 q.seq]] w (RetK (.func (.func 61) #[.agg #[.bool r.used,.int .i64 r.fence,.int .i64 r.de,.int .i64 r.ds,.string r.block,.bool r.op,.int .i64 r.ie,.int .i64 r.is,.int .i64 r.mask,.string r.staged,.int .i64 q.kind,.int .i64 q.stripe,.int .i64 q.epoch,.int .i64 q.seq,.int .i64 q.mask,.int .i64 q.node,.int .i64 q.oe,.int .i64 q.os,.string q.block,.int .i64 q.epoch,.int .i64 q.seq]] #[]) w):=by
 refine calls_of_holds (S:=(fun _=>False)) (l:=[.agg (List.toArray (ch2_v1 r q))]) (n:=55) Try.func43 (body_of (by kernel_rfl)) rfl (by simp) (MemOk.none w _) ?_
 refine hgE 46 [oh0,oh0,oh0,oh0,(oA 0 10 1),oh0,oh0,oh0,oh0,oh0,(oA 0 12 1),oh0,oh0,(oA 0 1 1),oh0,oh0,oh0,oh0,oh0,(oA 0 10 1),oh0,oh0,oh1,(oA 0 0 21),oh0,oh0] [1,2] [oE ((q.kind == 1) = false) t0,oE ((q.epoch != r.fence) = false) t1,oE ((q.kind == 7) = true) t2] [(w.heap.size,10,1),(w.heap.size,12,1),(w.heap.size,1,1),(w.heap.size,10,1),(w.heap.size,0,21)] [.code [1,0,0,1,1,1,1,1,0,1],.blk 0,.code [1,1]] ⟨[(1,(pt w.heap.size 0)),(2,.func (.func 61) #[.agg (List.toArray (ch2_v1 r q))] #[])],[⟨w.heap.size,90,true,(ch2_v1 r q)⟩],[],w.heap.size + 1⟩ ?_
 refine hrt [] [.func (.func 61) #[.agg (List.toArray (ch2_v1 r q))] #[]] [] ?_
 intro wx hm
 exact ⟨rfl,hm.kept⟩
def ch3_v1 (r:RecM) (q:AskM):List Value:=(ch0_v1 r q)
set_option maxRecDepth 100000 in
set_option maxHeartbeats 4000000 in
theorem chosen_3 (r:RecM) (q:AskM) (t0:(q.kind == 1) = false) (t1:(q.epoch != r.fence) = false) (t2:(q.kind == 7) = false) (t3:(r.used) = false) (w:World) :
  Calls Try.prog 43 #[.agg #[.bool r.used,.int .i64 r.fence,.int .i64 r.de,.int .i64 r.ds,.string r.block,.bool r.op,.int .i64 r.ie,.int .i64 r.is,.int .i64 r.mask,.string r.staged,.int .i64 q.kind,.int .i64 q.stripe,.int .i64 q.epoch,.int .i64 q.seq,.int .i64 q.mask,.int .i64 q.node,.int .i64 q.oe,.int .i64 q.os,.string q.block,.int .i64 q.epoch,.int .i64 q.seq]] w (RetK (.func (.func 62) #[.agg #[.bool r.used,.int .i64 r.fence,.int .i64 r.de,.int .i64 r.ds,.string r.block,.bool r.op,.int .i64 r.ie,.int .i64 r.is,.int .i64 r.mask,.string r.staged,.int .i64 q.kind,.int .i64 q.stripe,.int .i64 q.epoch,.int .i64 q.seq,.int .i64 q.mask,.int .i64 q.node,.int .i64 q.oe,.int .i64 q.os,.string q.block,.int .i64 q.epoch,.int .i64 q.seq]] #[]) w):=by
 refine calls_of_holds (S:=(fun _=>False)) (l:=[.agg (List.toArray (ch3_v1 r q))]) (n:=55) Try.func43 (body_of (by kernel_rfl)) rfl (by simp) (MemOk.none w _) ?_
 refine hgE 55 [oh0,oh0,oh0,oh0,(oA 0 10 1),oh0,oh0,oh0,oh0,oh0,(oA 0 12 1),oh0,oh0,(oA 0 1 1),oh0,oh0,oh0,oh0,oh0,(oA 0 10 1),oh0,oh0,oh0,oh0,oh0,(oA 0 0 1),oh0,oh0,oh1,(oA 0 0 21),oh0,oh0] [1,2] [oE ((q.kind == 1) = false) t0,oE ((q.epoch != r.fence) = false) t1,oE ((q.kind == 7) = false) t2,oE ((!r.used) = true) (by rw [t3]; rfl)] [(w.heap.size,10,1),(w.heap.size,12,1),(w.heap.size,1,1),(w.heap.size,10,1),(w.heap.size,0,1),(w.heap.size,0,21)] [.code [1,0,0,1,1,1,1,1,1,1,0,1],.blk 0,.code [1,1]] ⟨[(1,(pt w.heap.size 0)),(2,.func (.func 62) #[.agg (List.toArray (ch3_v1 r q))] #[])],[⟨w.heap.size,90,true,(ch3_v1 r q)⟩],[],w.heap.size + 1⟩ ?_
 refine hrt [] [.func (.func 62) #[.agg (List.toArray (ch3_v1 r q))] #[]] [] ?_
 intro wx hm
 exact ⟨rfl,hm.kept⟩
def ch4_v1 (r:RecM) (q:AskM):List Value:=(ch0_v1 r q)
set_option maxRecDepth 100000 in
set_option maxHeartbeats 4000000 in
theorem chosen_4 (r:RecM) (q:AskM) (t0:(q.kind == 1) = false) (t1:(q.epoch != r.fence) = false) (t2:(q.kind == 7) = false) (t3:(r.used) = true) (t4:(q.kind == 2) = true) (w:World) :
  Calls Try.prog 43 #[.agg #[.bool r.used,.int .i64 r.fence,.int .i64 r.de,.int .i64 r.ds,.string r.block,.bool r.op,.int .i64 r.ie,.int .i64 r.is,.int .i64 r.mask,.string r.staged,.int .i64 q.kind,.int .i64 q.stripe,.int .i64 q.epoch,.int .i64 q.seq,.int .i64 q.mask,.int .i64 q.node,.int .i64 q.oe,.int .i64 q.os,.string q.block,.int .i64 q.epoch,.int .i64 q.seq]] w (RetK (.func (.func 63) #[.agg #[.bool r.used,.int .i64 r.fence,.int .i64 r.de,.int .i64 r.ds,.string r.block,.bool r.op,.int .i64 r.ie,.int .i64 r.is,.int .i64 r.mask,.string r.staged,.int .i64 q.kind,.int .i64 q.stripe,.int .i64 q.epoch,.int .i64 q.seq,.int .i64 q.mask,.int .i64 q.node,.int .i64 q.oe,.int .i64 q.os,.string q.block,.int .i64 q.epoch,.int .i64 q.seq]] #[]) w):=by
 refine calls_of_holds (S:=(fun _=>False)) (l:=[.agg (List.toArray (ch4_v1 r q))]) (n:=55) Try.func43 (body_of (by kernel_rfl)) rfl (by simp) (MemOk.none w _) ?_
 refine hgE 71 [oh0,oh0,oh0,oh0,(oA 0 10 1),oh0,oh0,oh0,oh0,oh0,(oA 0 12 1),oh0,oh0,(oA 0 1 1),oh0,oh0,oh0,oh0,oh0,(oA 0 10 1),oh0,oh0,oh0,oh0,oh0,(oA 0 0 1),oh0,oh0,oh0,oh0,oh0,(oA 0 10 1),oh0,oh0,oh1,(oA 0 0 21),oh0,oh0] [1,2] [oE ((q.kind == 1) = false) t0,oE ((q.epoch != r.fence) = false) t1,oE ((q.kind == 7) = false) t2,oE ((!r.used) = false) (by rw [t3]; rfl),oE ((q.kind == 2) = true) t4] [(w.heap.size,10,1),(w.heap.size,12,1),(w.heap.size,1,1),(w.heap.size,10,1),(w.heap.size,0,1),(w.heap.size,10,1),(w.heap.size,0,21)] [.code [1,1,0,1,0,1,0,1],.blk 1,.code [1,1,1]] ⟨[(1,(pt w.heap.size 0)),(2,.func (.func 63) #[.agg (List.toArray (ch4_v1 r q))] #[])],[⟨w.heap.size,90,true,(ch4_v1 r q)⟩],[],w.heap.size + 1⟩ ?_
 refine hrt [] [.func (.func 63) #[.agg (List.toArray (ch4_v1 r q))] #[]] [] ?_
 intro wx hm
 exact ⟨rfl,hm.kept⟩
def ch5_v1 (r:RecM) (q:AskM):List Value:=(ch0_v1 r q)
set_option maxRecDepth 100000 in
set_option maxHeartbeats 4000000 in
theorem chosen_5 (r:RecM) (q:AskM) (t0:(q.kind == 1) = false) (t1:(q.epoch != r.fence) = false) (t2:(q.kind == 7) = false) (t3:(r.used) = true) (t4:(q.kind == 2) = false) (t5:(q.kind == 4) = true) (w:World) :
  Calls Try.prog 43 #[.agg #[.bool r.used,.int .i64 r.fence,.int .i64 r.de,.int .i64 r.ds,.string r.block,.bool r.op,.int .i64 r.ie,.int .i64 r.is,.int .i64 r.mask,.string r.staged,.int .i64 q.kind,.int .i64 q.stripe,.int .i64 q.epoch,.int .i64 q.seq,.int .i64 q.mask,.int .i64 q.node,.int .i64 q.oe,.int .i64 q.os,.string q.block,.int .i64 q.epoch,.int .i64 q.seq]] w (RetK (.func (.func 64) #[.agg #[.bool r.used,.int .i64 r.fence,.int .i64 r.de,.int .i64 r.ds,.string r.block,.bool r.op,.int .i64 r.ie,.int .i64 r.is,.int .i64 r.mask,.string r.staged,.int .i64 q.kind,.int .i64 q.stripe,.int .i64 q.epoch,.int .i64 q.seq,.int .i64 q.mask,.int .i64 q.node,.int .i64 q.oe,.int .i64 q.os,.string q.block,.int .i64 q.epoch,.int .i64 q.seq]] #[]) w):=by
 refine calls_of_holds (S:=(fun _=>False)) (l:=[.agg (List.toArray (ch5_v1 r q))]) (n:=55) Try.func43 (body_of (by kernel_rfl)) rfl (by simp) (MemOk.none w _) ?_
 refine hgE 77 [oh0,oh0,oh0,oh0,(oA 0 10 1),oh0,oh0,oh0,oh0,oh0,(oA 0 12 1),oh0,oh0,(oA 0 1 1),oh0,oh0,oh0,oh0,oh0,(oA 0 10 1),oh0,oh0,oh0,oh0,oh0,(oA 0 0 1),oh0,oh0,oh0,oh0,oh0,(oA 0 10 1),oh0,oh0,oh0,oh0,oh0,oh1,(oA 0 0 21),oh0,oh0] [1,2] [oE ((q.kind == 1) = false) t0,oE ((q.epoch != r.fence) = false) t1,oE ((q.kind == 7) = false) t2,oE ((!r.used) = false) (by rw [t3]; rfl),oE ((q.kind == 2) = false) t4,oE ((q.kind == 4) = true) t5] [(w.heap.size,10,1),(w.heap.size,12,1),(w.heap.size,1,1),(w.heap.size,10,1),(w.heap.size,0,1),(w.heap.size,10,1),(w.heap.size,0,21)] [.code [1,1,0,1,0,1,1,1,0,1],.blk 1,.code [1,1,1]] ⟨[(1,(pt w.heap.size 0)),(2,.func (.func 64) #[.agg (List.toArray (ch5_v1 r q))] #[])],[⟨w.heap.size,90,true,(ch5_v1 r q)⟩],[],w.heap.size + 1⟩ ?_
 refine hrt [] [.func (.func 64) #[.agg (List.toArray (ch5_v1 r q))] #[]] [] ?_
 intro wx hm
 exact ⟨rfl,hm.kept⟩
def ch6_v1 (r:RecM) (q:AskM):List Value:=(ch0_v1 r q)
set_option maxRecDepth 100000 in
set_option maxHeartbeats 4000000 in
theorem chosen_6 (r:RecM) (q:AskM) (t0:(q.kind == 1) = false) (t1:(q.epoch != r.fence) = false) (t2:(q.kind == 7) = false) (t3:(r.used) = true) (t4:(q.kind == 2) = false) (t5:(q.kind == 4) = false) (t6:(q.kind == 5) = true) (w:World) :
  Calls Try.prog 43 #[.agg #[.bool r.used,.int .i64 r.fence,.int .i64 r.de,.int .i64 r.ds,.string r.block,.bool r.op,.int .i64 r.ie,.int .i64 r.is,.int .i64 r.mask,.string r.staged,.int .i64 q.kind,.int .i64 q.stripe,.int .i64 q.epoch,.int .i64 q.seq,.int .i64 q.mask,.int .i64 q.node,.int .i64 q.oe,.int .i64 q.os,.string q.block,.int .i64 q.epoch,.int .i64 q.seq]] w (RetK (.func (.func 65) #[.agg #[.bool r.used,.int .i64 r.fence,.int .i64 r.de,.int .i64 r.ds,.string r.block,.bool r.op,.int .i64 r.ie,.int .i64 r.is,.int .i64 r.mask,.string r.staged,.int .i64 q.kind,.int .i64 q.stripe,.int .i64 q.epoch,.int .i64 q.seq,.int .i64 q.mask,.int .i64 q.node,.int .i64 q.oe,.int .i64 q.os,.string q.block,.int .i64 q.epoch,.int .i64 q.seq]] #[]) w):=by
 refine calls_of_holds (S:=(fun _=>False)) (l:=[.agg (List.toArray (ch6_v1 r q))]) (n:=55) Try.func43 (body_of (by kernel_rfl)) rfl (by simp) (MemOk.none w _) ?_
 refine hgE 83 [oh0,oh0,oh0,oh0,(oA 0 10 1),oh0,oh0,oh0,oh0,oh0,(oA 0 12 1),oh0,oh0,(oA 0 1 1),oh0,oh0,oh0,oh0,oh0,(oA 0 10 1),oh0,oh0,oh0,oh0,oh0,(oA 0 0 1),oh0,oh0,oh0,oh0,oh0,(oA 0 10 1),oh0,oh0,oh0,oh0,oh0,oh0,oh0,oh0,oh1,(oA 0 0 21),oh0,oh0] [1,2] [oE ((q.kind == 1) = false) t0,oE ((q.epoch != r.fence) = false) t1,oE ((q.kind == 7) = false) t2,oE ((!r.used) = false) (by rw [t3]; rfl),oE ((q.kind == 2) = false) t4,oE ((q.kind == 4) = false) t5,oE ((q.kind == 5) = true) t6] [(w.heap.size,10,1),(w.heap.size,12,1),(w.heap.size,1,1),(w.heap.size,10,1),(w.heap.size,0,1),(w.heap.size,10,1),(w.heap.size,0,21)] [.code [1,1,0,1,0,1,1,1,1,1,0,1],.blk 1,.code [1,1,1]] ⟨[(1,(pt w.heap.size 0)),(2,.func (.func 65) #[.agg (List.toArray (ch6_v1 r q))] #[])],[⟨w.heap.size,90,true,(ch6_v1 r q)⟩],[],w.heap.size + 1⟩ ?_
 refine hrt [] [.func (.func 65) #[.agg (List.toArray (ch6_v1 r q))] #[]] [] ?_
 intro wx hm
 exact ⟨rfl,hm.kept⟩
def ch7_v1 (r:RecM) (q:AskM):List Value:=(ch0_v1 r q)
set_option maxRecDepth 100000 in
set_option maxHeartbeats 4000000 in
theorem chosen_7 (r:RecM) (q:AskM) (t0:(q.kind == 1) = false) (t1:(q.epoch != r.fence) = false) (t2:(q.kind == 7) = false) (t3:(r.used) = true) (t4:(q.kind == 2) = false) (t5:(q.kind == 4) = false) (t6:(q.kind == 5) = false) (t7:(q.kind == 6) = true) (w:World) :
  Calls Try.prog 43 #[.agg #[.bool r.used,.int .i64 r.fence,.int .i64 r.de,.int .i64 r.ds,.string r.block,.bool r.op,.int .i64 r.ie,.int .i64 r.is,.int .i64 r.mask,.string r.staged,.int .i64 q.kind,.int .i64 q.stripe,.int .i64 q.epoch,.int .i64 q.seq,.int .i64 q.mask,.int .i64 q.node,.int .i64 q.oe,.int .i64 q.os,.string q.block,.int .i64 q.epoch,.int .i64 q.seq]] w (RetK (.func (.func 66) #[.agg #[.bool r.used,.int .i64 r.fence,.int .i64 r.de,.int .i64 r.ds,.string r.block,.bool r.op,.int .i64 r.ie,.int .i64 r.is,.int .i64 r.mask,.string r.staged,.int .i64 q.kind,.int .i64 q.stripe,.int .i64 q.epoch,.int .i64 q.seq,.int .i64 q.mask,.int .i64 q.node,.int .i64 q.oe,.int .i64 q.os,.string q.block,.int .i64 q.epoch,.int .i64 q.seq]] #[]) w):=by
 refine calls_of_holds (S:=(fun _=>False)) (l:=[.agg (List.toArray (ch7_v1 r q))]) (n:=55) Try.func43 (body_of (by kernel_rfl)) rfl (by simp) (MemOk.none w _) ?_
 refine hgE 89 [oh0,oh0,oh0,oh0,(oA 0 10 1),oh0,oh0,oh0,oh0,oh0,(oA 0 12 1),oh0,oh0,(oA 0 1 1),oh0,oh0,oh0,oh0,oh0,(oA 0 10 1),oh0,oh0,oh0,oh0,oh0,(oA 0 0 1),oh0,oh0,oh0,oh0,oh0,(oA 0 10 1),oh0,oh0,oh0,oh0,oh0,oh0,oh0,oh0,oh0,oh0,oh0,oh1,(oA 0 0 21),oh0,oh0] [1,2] [oE ((q.kind == 1) = false) t0,oE ((q.epoch != r.fence) = false) t1,oE ((q.kind == 7) = false) t2,oE ((!r.used) = false) (by rw [t3]; rfl),oE ((q.kind == 2) = false) t4,oE ((q.kind == 4) = false) t5,oE ((q.kind == 5) = false) t6,oE ((q.kind == 6) = true) t7] [(w.heap.size,10,1),(w.heap.size,12,1),(w.heap.size,1,1),(w.heap.size,10,1),(w.heap.size,0,1),(w.heap.size,10,1),(w.heap.size,0,21)] [.code [1,1,0,1,0,1,1,1,1,1,1,1,0,1],.blk 1,.code [1,1,1]] ⟨[(1,(pt w.heap.size 0)),(2,.func (.func 66) #[.agg (List.toArray (ch7_v1 r q))] #[])],[⟨w.heap.size,90,true,(ch7_v1 r q)⟩],[],w.heap.size + 1⟩ ?_
 refine hrt [] [.func (.func 66) #[.agg (List.toArray (ch7_v1 r q))] #[]] [] ?_
 intro wx hm
 exact ⟨rfl,hm.kept⟩
def ch8_v1 (r:RecM) (q:AskM):List Value:=(ch0_v1 r q)
set_option maxRecDepth 100000 in
set_option maxHeartbeats 4000000 in
theorem chosen_8 (r:RecM) (q:AskM) (t0:(q.kind == 1) = false) (t1:(q.epoch != r.fence) = false) (t2:(q.kind == 7) = false) (t3:(r.used) = true) (t4:(q.kind == 2) = false) (t5:(q.kind == 4) = false) (t6:(q.kind == 5) = false) (t7:(q.kind == 6) = false) (w:World) :
  Calls Try.prog 43 #[.agg #[.bool r.used,.int .i64 r.fence,.int .i64 r.de,.int .i64 r.ds,.string r.block,.bool r.op,.int .i64 r.ie,.int .i64 r.is,.int .i64 r.mask,.string r.staged,.int .i64 q.kind,.int .i64 q.stripe,.int .i64 q.epoch,.int .i64 q.seq,.int .i64 q.mask,.int .i64 q.node,.int .i64 q.oe,.int .i64 q.os,.string q.block,.int .i64 q.epoch,.int .i64 q.seq]] w (RetK (.func (.func 67) #[.agg #[.bool r.used,.int .i64 r.fence,.int .i64 r.de,.int .i64 r.ds,.string r.block,.bool r.op,.int .i64 r.ie,.int .i64 r.is,.int .i64 r.mask,.string r.staged,.int .i64 q.kind,.int .i64 q.stripe,.int .i64 q.epoch,.int .i64 q.seq,.int .i64 q.mask,.int .i64 q.node,.int .i64 q.oe,.int .i64 q.os,.string q.block,.int .i64 q.epoch,.int .i64 q.seq]] #[]) w):=by
 refine calls_of_holds (S:=(fun _=>False)) (l:=[.agg (List.toArray (ch8_v1 r q))]) (n:=55) Try.func43 (body_of (by kernel_rfl)) rfl (by simp) (MemOk.none w _) ?_
 refine hgE 91 [oh0,oh0,oh0,oh0,(oA 0 10 1),oh0,oh0,oh0,oh0,oh0,(oA 0 12 1),oh0,oh0,(oA 0 1 1),oh0,oh0,oh0,oh0,oh0,(oA 0 10 1),oh0,oh0,oh0,oh0,oh0,(oA 0 0 1),oh0,oh0,oh0,oh0,oh0,(oA 0 10 1),oh0,oh0,oh0,oh0,oh0,oh0,oh0,oh0,oh0,oh0,oh0,oh0,(oA 0 0 21),oh0,oh0] [2] [oE ((q.kind == 1) = false) t0,oE ((q.epoch != r.fence) = false) t1,oE ((q.kind == 7) = false) t2,oE ((!r.used) = false) (by rw [t3]; rfl),oE ((q.kind == 2) = false) t4,oE ((q.kind == 4) = false) t5,oE ((q.kind == 5) = false) t6,oE ((q.kind == 6) = false) t7] [(w.heap.size,10,1),(w.heap.size,12,1),(w.heap.size,1,1),(w.heap.size,10,1),(w.heap.size,0,1),(w.heap.size,10,1),(w.heap.size,0,21)] [.code [1,1,1,1]] ⟨[(2,.func (.func 67) #[.agg (List.toArray (ch8_v1 r q))] #[])],[⟨w.heap.size,90,true,(ch8_v1 r q)⟩],[],w.heap.size + 1⟩ ?_
 refine hrt [] [.func (.func 67) #[.agg (List.toArray (ch8_v1 r q))] #[]] [] ?_
 intro wx hm
 exact ⟨rfl,hm.kept⟩
def ap0_v1 (r:RecM):List Value:=[.bool r.used,i6 r.fence,i6 r.de,i6 r.ds,sT r.block,.bool r.op,i6 r.ie,i6 r.is,i6 r.mask,sT r.staged]
def ap0_v2 (q:AskM):List Value:=[i6 q.kind,i6 q.stripe,i6 q.epoch,i6 q.seq,i6 q.mask,i6 q.node,i6 q.oe,i6 q.os,sT q.block]
def ap0_v3:List Value:=[.bool false] ++ rp 3 (.int .i64 0) ++ [.string ⟨#[]⟩,.bool false] ++ rp 3 (.int .i64 0) ++ [.string ⟨#[]⟩]
def ap0_v4:List Value:=rp 3 (.int .i64 0) ++ [.bool false] ++ rp 3 (.int .i64 0) ++ [.string ⟨#[]⟩,.bool false] ++ rp 3 (.int .i64 0) ++ [.string ⟨#[]⟩]
def ap0_v5 (r:RecM) (q:AskM):List Value:=(ch0_v1 r q)
def ap0_v6 (x:RecM):List Value:=[.bool x.used,i6 x.fence,i6 x.de,i6 x.ds,sT x.block,.bool x.op,i6 x.ie,i6 x.is,i6 x.mask,sT x.staged]
def ap0_v7 (s:SayR):List Value:=[i6 s.st,i6 s.ep,i6 s.ou,.bool s.rc.used,i6 s.rc.fence,i6 s.rc.de,i6 s.rc.ds,sT s.rc.block,.bool s.rc.op,i6 s.rc.ie,i6 s.rc.is,i6 s.rc.mask,sT s.rc.staged]
@[simp] def ap0_b1 (r:RecM) (q:AskM) (w:World):List Bk:=[⟨w.heap.size,43,true,(ap0_v1 r)⟩,⟨w.heap.size + 1,35,true,(ap0_v2 q)⟩,⟨w.heap.size + 2,43,true,(ap0_v3)⟩,⟨w.heap.size + 3,45,true,(ap0_v4)⟩]
@[simp] def ap0_b2 (r:RecM) (q:AskM) (w:World) (z4:Nat):List Bk:=[⟨w.heap.size,43,true,(ap0_v1 r)⟩,⟨w.heap.size + 1,35,true,(ap0_v2 q)⟩,⟨w.heap.size + 2,43,true,(ap0_v3)⟩,⟨w.heap.size + 3,45,true,(ap0_v4)⟩,⟨z4,90,true,(ap0_v5 r q)⟩]
theorem recRight (r:RecM) (h:RecOk r) (w:World):Calls Try.prog 42 #[.agg #[.bool r.used,.int .i64 r.fence,.int .i64 r.de,.int .i64 r.ds,.string r.block,.bool r.op,.int .i64 r.ie,.int .i64 r.is,.int .i64 r.mask,.string r.staged]] w (RetK (.bool true) w):=by
 have h2:=right_any r w
 rw [(okB_iff r).2 h] at h2
 exact h2
set_option maxRecDepth 100000 in
set_option maxHeartbeats 4000000 in
theorem apply_gen (r:RecM) (q:AskM) (x:RecM) (s:SayR) (hr:RecOk r) (hq:AskOk q) (h7:q.kind ≤ 7) (F:Nat) (hc:∀ w,Calls Try.prog 43 #[.agg #[.bool r.used,.int .i64 r.fence,.int .i64 r.de,.int .i64 r.ds,.string r.block,.bool r.op,.int .i64 r.ie,.int .i64 r.is,.int .i64 r.mask,.string r.staged,.int .i64 q.kind,.int .i64 q.stripe,.int .i64 q.epoch,.int .i64 q.seq,.int .i64 q.mask,.int .i64 q.node,.int .i64 q.oe,.int .i64 q.os,.string q.block,.int .i64 q.epoch,.int .i64 q.seq]] w (RetK (.func (.func F) #[.agg #[.bool r.used,.int .i64 r.fence,.int .i64 r.de,.int .i64 r.ds,.string r.block,.bool r.op,.int .i64 r.ie,.int .i64 r.is,.int .i64 r.mask,.string r.staged,.int .i64 q.kind,.int .i64 q.stripe,.int .i64 q.epoch,.int .i64 q.seq,.int .i64 q.mask,.int .i64 q.node,.int .i64 q.oe,.int .i64 q.os,.string q.block,.int .i64 q.epoch,.int .i64 q.seq]] #[]) w)) (hcl:∀ w:World,callAt Try.prog (opsOf (getCode (bodyOf Try.f27) [1,1,1,1,0])) [(4,(pt (w.heap.size + 2) 0)),(5,(pt (w.heap.size + 3) 0)),(33,.func (.func F) #[.agg (List.toArray (ap0_v5 r q))] #[])] 1 = some (F,[.agg (List.toArray (ap0_v5 r q))],some 34,[])) (ha:∀ w,Calls Try.prog F #[.agg #[.bool r.used,.int .i64 r.fence,.int .i64 r.de,.int .i64 r.ds,.string r.block,.bool r.op,.int .i64 r.ie,.int .i64 r.is,.int .i64 r.mask,.string r.staged,.int .i64 q.kind,.int .i64 q.stripe,.int .i64 q.epoch,.int .i64 q.seq,.int .i64 q.mask,.int .i64 q.node,.int .i64 q.oe,.int .i64 q.os,.string q.block,.int .i64 q.epoch,.int .i64 q.seq]] w (RetK (outV (x,s)) w)) (w:World) :
  Calls Try.prog 27 #[.agg #[.bool r.used,.int .i64 r.fence,.int .i64 r.de,.int .i64 r.ds,.string r.block,.bool r.op,.int .i64 r.ie,.int .i64 r.is,.int .i64 r.mask,.string r.staged],.agg #[.int .i64 q.kind,.int .i64 q.stripe,.int .i64 q.epoch,.int .i64 q.seq,.int .i64 q.mask,.int .i64 q.node,.int .i64 q.oe,.int .i64 q.os,.string q.block]] w (RetK (outV (x,s)) w):=by
 refine calls_of_holds (S:=(fun _=>False)) (l:=[.agg (List.toArray (ap0_v1 r)),.agg (List.toArray (ap0_v2 q))]) (n:=37) Try.func27 (body_of (by kernel_rfl)) rfl (by simp) (MemOk.none w _) ?_
 refine hgE 14 [oh0,oh0,oh0,oh0,(oA 0 0 10)] [2,3,4,5,8] [] [(w.heap.size,0,10)] [.ops [1,0,0] [1,2,3,4,5,6,7,8,9,10,11,12],.code [1,0,1],.code [1,1]] ⟨[(2,(pt w.heap.size 0)),(3,(pt (w.heap.size + 1) 0)),(4,(pt (w.heap.size + 2) 0)),(5,(pt (w.heap.size + 3) 0)),(8,.agg (List.toArray (ap0_v1 r)))],(ap0_b1 r q w),[],w.heap.size + 4⟩ ?_
 refine hcp (.bool true) 42 [.agg (List.toArray (ap0_v1 r))] (some 9) [] tI rfl (fun wx hm=>recRight r hr wx) fun z2 hz2=>?_
 replace hz2:w.heap.size + 4 ≤ z2:=hz2
 refine hgE 6 [oh0,oh0,(oA 1 0 9)] [2,3,4,5,11,12] [fF] [(w.heap.size + 1,0,9)] [.ops [1,0,0] [5,6,7,8,9,10,11,12],.code [1,0,1],.code [1,1]] ⟨[(2,(pt w.heap.size 0)),(3,(pt (w.heap.size + 1) 0)),(4,(pt (w.heap.size + 2) 0)),(5,(pt (w.heap.size + 3) 0)),(11,.bool false),(12,.agg (List.toArray (ap0_v2 q)))],(ap0_b1 r q w),[],z2⟩ ?_
 refine hcp (.bool true) 25 [.agg (List.toArray (ap0_v2 q))] (some 13) [false = false] ⟨rfl,tI⟩ rfl (fun wx hm=>askRight q hq wx) fun z4 hz4=>?_
 replace hz4:z2 ≤ z4:=hz4
 refine hgE 29 [oh0,⟨false,3,[]⟩,oh0,oh0,(oA 1 0 1),oh0,⟨false,3,[]⟩,oh0,(oA 0 0 10),(oA 1 0 9),oh0,(oA 1 2 1),oh0,(oA 1 3 1),oh0,oh0,oh0,(oA 4 0 21),(oA 4 0 21)] [4,5,31] [fF,fF,fF,fF,fF,fF,dF ((q.kind:Int) > 7)] [(w.heap.size + 1,0,1),(w.heap.size,0,10),(w.heap.size + 1,0,9),(w.heap.size + 1,2,1),(w.heap.size + 1,3,1),(z4,0,21),(z4,0,21)] [.ops [1,1,1,0] [1,2],.code [1,1,1,1]] ⟨[(4,(pt (w.heap.size + 2) 0)),(5,(pt (w.heap.size + 3) 0)),(31,.agg (List.toArray (ap0_v5 r q)))],(ap0_b2 r q w z4),[],z4 + 1⟩ ?_
 refine hcp (.func (.func F) #[.agg (List.toArray (ap0_v5 r q))] #[]) 43 [.agg (List.toArray (ap0_v5 r q))] (some 32) [] tI rfl (fun wx hm=>hc wx) fun z6 hz6=>?_
 replace hz6:z4 + 1 ≤ z6:=hz6
 refine hgE 8 [oh0,oh0] [4,5,33] [] [] [.ops [1,1,1,1,0] [1,2,3,4,5],.code [1,1,1,1,1]] ⟨[(4,(pt (w.heap.size + 2) 0)),(5,(pt (w.heap.size + 3) 0)),(33,.func (.func F) #[.agg (List.toArray (ap0_v5 r q))] #[])],(ap0_b2 r q w z4),[],z6⟩ ?_
 refine holds_callP (.tuple #[.agg (List.toArray (ap0_v6 x)),.agg (List.toArray (ap0_v7 s))]) (hcl w) tI rfl (fun wx hm=>ha wx) fun z8 hz8=>?_
 replace hz8:z6 ≤ z8:=hz8
 refine hgE 8 [oh0,oh0,(oA 2 0 10),(oA 3 0 13)] [4,5] [] [(w.heap.size + 2,0,10),(w.heap.size + 3,0,13)] [.code [1,1,1,1,1]] ⟨[(4,(pt (w.heap.size + 2) 0)),(5,(pt (w.heap.size + 3) 0))],[⟨w.heap.size,43,true,(ap0_v1 r)⟩,⟨w.heap.size + 1,35,true,(ap0_v2 q)⟩,⟨w.heap.size + 2,43,true,(ap0_v6 x)⟩,⟨w.heap.size + 3,45,true,(ap0_v7 s)⟩,⟨z4,90,true,(ap0_v5 r q)⟩],[],z8⟩ ?_
 refine hrt [[⟨false,2,0,10⟩],[⟨false,3,0,13⟩]] [.agg (List.toArray (ap0_v6 x)),.agg (List.toArray (ap0_v7 s))] [(w.heap.size + 2,0,10),(w.heap.size + 3,0,13)] ?_
 intro wx hm
 exact ⟨rfl,hm.kept⟩
theorem apply_0 (r:RecM) (q:AskM) (x:RecM) (s:SayR) (hr:RecOk r) (hq:AskOk q) (h7:q.kind ≤ 7) (hx:fenceM r q = (x,s)) (t0:(q.kind == 1) = true) (w:World):Calls Try.prog 27 #[.agg #[.bool r.used,.int .i64 r.fence,.int .i64 r.de,.int .i64 r.ds,.string r.block,.bool r.op,.int .i64 r.ie,.int .i64 r.is,.int .i64 r.mask,.string r.staged],.agg #[.int .i64 q.kind,.int .i64 q.stripe,.int .i64 q.epoch,.int .i64 q.seq,.int .i64 q.mask,.int .i64 q.node,.int .i64 q.oe,.int .i64 q.os,.string q.block]] w (RetK (outV (x,s)) w):=
 apply_gen r q x s hr hq h7 59 (chosen_0 r q t0) (fun w=>by kernel_rfl) (by rw [← hx]; exact fence_any r q) w
theorem apply_1 (r:RecM) (q:AskM) (x:RecM) (s:SayR) (hr:RecOk r) (hq:AskOk q) (h7:q.kind ≤ 7) (hx:sayM r 2 = (x,s)) (t0:(q.kind == 1) = false) (t1:(q.epoch != r.fence) = true) (w:World):Calls Try.prog 27 #[.agg #[.bool r.used,.int .i64 r.fence,.int .i64 r.de,.int .i64 r.ds,.string r.block,.bool r.op,.int .i64 r.ie,.int .i64 r.is,.int .i64 r.mask,.string r.staged],.agg #[.int .i64 q.kind,.int .i64 q.stripe,.int .i64 q.epoch,.int .i64 q.seq,.int .i64 q.mask,.int .i64 q.node,.int .i64 q.oe,.int .i64 q.os,.string q.block]] w (RetK (outV (x,s)) w):=
 apply_gen r q x s hr hq h7 60 (chosen_1 r q t0 t1) (fun w=>by kernel_rfl) (by rw [← hx]; exact stale_any r q) w
theorem apply_2 (r:RecM) (q:AskM) (x:RecM) (s:SayR) (hr:RecOk r) (hq:AskOk q) (h7:q.kind ≤ 7) (hx:putM r q = (x,s)) (t0:(q.kind == 1) = false) (t1:(q.epoch != r.fence) = false) (t2:(q.kind == 7) = true) (w:World):Calls Try.prog 27 #[.agg #[.bool r.used,.int .i64 r.fence,.int .i64 r.de,.int .i64 r.ds,.string r.block,.bool r.op,.int .i64 r.ie,.int .i64 r.is,.int .i64 r.mask,.string r.staged],.agg #[.int .i64 q.kind,.int .i64 q.stripe,.int .i64 q.epoch,.int .i64 q.seq,.int .i64 q.mask,.int .i64 q.node,.int .i64 q.oe,.int .i64 q.os,.string q.block]] w (RetK (outV (x,s)) w):=
 apply_gen r q x s hr hq h7 61 (chosen_2 r q t0 t1 t2) (fun w=>by kernel_rfl) (by rw [← hx]; exact put_any r q) w
theorem apply_3 (r:RecM) (q:AskM) (x:RecM) (s:SayR) (hr:RecOk r) (hq:AskOk q) (h7:q.kind ≤ 7) (hx:sayM r 5 = (x,s)) (t0:(q.kind == 1) = false) (t1:(q.epoch != r.fence) = false) (t2:(q.kind == 7) = false) (t3:(r.used) = false) (w:World):Calls Try.prog 27 #[.agg #[.bool r.used,.int .i64 r.fence,.int .i64 r.de,.int .i64 r.ds,.string r.block,.bool r.op,.int .i64 r.ie,.int .i64 r.is,.int .i64 r.mask,.string r.staged],.agg #[.int .i64 q.kind,.int .i64 q.stripe,.int .i64 q.epoch,.int .i64 q.seq,.int .i64 q.mask,.int .i64 q.node,.int .i64 q.oe,.int .i64 q.os,.string q.block]] w (RetK (outV (x,s)) w):=
 apply_gen r q x s hr hq h7 62 (chosen_3 r q t0 t1 t2 t3) (fun w=>by kernel_rfl) (by rw [← hx]; exact blank_any r q) w
theorem apply_4 (r:RecM) (q:AskM) (x:RecM) (s:SayR) (hr:RecOk r) (hq:AskOk q) (h7:q.kind ≤ 7) (hx:readM r = (x,s)) (t0:(q.kind == 1) = false) (t1:(q.epoch != r.fence) = false) (t2:(q.kind == 7) = false) (t3:(r.used) = true) (t4:(q.kind == 2) = true) (w:World):Calls Try.prog 27 #[.agg #[.bool r.used,.int .i64 r.fence,.int .i64 r.de,.int .i64 r.ds,.string r.block,.bool r.op,.int .i64 r.ie,.int .i64 r.is,.int .i64 r.mask,.string r.staged],.agg #[.int .i64 q.kind,.int .i64 q.stripe,.int .i64 q.epoch,.int .i64 q.seq,.int .i64 q.mask,.int .i64 q.node,.int .i64 q.oe,.int .i64 q.os,.string q.block]] w (RetK (outV (x,s)) w):=
 apply_gen r q x s hr hq h7 63 (chosen_4 r q t0 t1 t2 t3 t4) (fun w=>by kernel_rfl) (by rw [← hx]; exact read_any r q) w
theorem apply_5 (r:RecM) (q:AskM) (x:RecM) (s:SayR) (hr:RecOk r) (hq:AskOk q) (h7:q.kind ≤ 7) (hx:prepareM r q = (x,s)) (t0:(q.kind == 1) = false) (t1:(q.epoch != r.fence) = false) (t2:(q.kind == 7) = false) (t3:(r.used) = true) (t4:(q.kind == 2) = false) (t5:(q.kind == 4) = true) (w:World):Calls Try.prog 27 #[.agg #[.bool r.used,.int .i64 r.fence,.int .i64 r.de,.int .i64 r.ds,.string r.block,.bool r.op,.int .i64 r.ie,.int .i64 r.is,.int .i64 r.mask,.string r.staged],.agg #[.int .i64 q.kind,.int .i64 q.stripe,.int .i64 q.epoch,.int .i64 q.seq,.int .i64 q.mask,.int .i64 q.node,.int .i64 q.oe,.int .i64 q.os,.string q.block]] w (RetK (outV (x,s)) w):=
 apply_gen r q x s hr hq h7 64 (chosen_5 r q t0 t1 t2 t3 t4 t5) (fun w=>by kernel_rfl) (by rw [← hx]; exact prepare_any r q) w
theorem apply_6 (r:RecM) (q:AskM) (x:RecM) (s:SayR) (hr:RecOk r) (hq:AskOk q) (h7:q.kind ≤ 7) (hx:commitM r q = (x,s)) (t0:(q.kind == 1) = false) (t1:(q.epoch != r.fence) = false) (t2:(q.kind == 7) = false) (t3:(r.used) = true) (t4:(q.kind == 2) = false) (t5:(q.kind == 4) = false) (t6:(q.kind == 5) = true) (w:World):Calls Try.prog 27 #[.agg #[.bool r.used,.int .i64 r.fence,.int .i64 r.de,.int .i64 r.ds,.string r.block,.bool r.op,.int .i64 r.ie,.int .i64 r.is,.int .i64 r.mask,.string r.staged],.agg #[.int .i64 q.kind,.int .i64 q.stripe,.int .i64 q.epoch,.int .i64 q.seq,.int .i64 q.mask,.int .i64 q.node,.int .i64 q.oe,.int .i64 q.os,.string q.block]] w (RetK (outV (x,s)) w):=
 apply_gen r q x s hr hq h7 65 (chosen_6 r q t0 t1 t2 t3 t4 t5 t6) (fun w=>by kernel_rfl) (by rw [← hx]; exact commit_any r q) w
theorem apply_7 (r:RecM) (q:AskM) (x:RecM) (s:SayR) (hr:RecOk r) (hq:AskOk q) (h7:q.kind ≤ 7) (hx:settleM r q = (x,s)) (t0:(q.kind == 1) = false) (t1:(q.epoch != r.fence) = false) (t2:(q.kind == 7) = false) (t3:(r.used) = true) (t4:(q.kind == 2) = false) (t5:(q.kind == 4) = false) (t6:(q.kind == 5) = false) (t7:(q.kind == 6) = true) (w:World):Calls Try.prog 27 #[.agg #[.bool r.used,.int .i64 r.fence,.int .i64 r.de,.int .i64 r.ds,.string r.block,.bool r.op,.int .i64 r.ie,.int .i64 r.is,.int .i64 r.mask,.string r.staged],.agg #[.int .i64 q.kind,.int .i64 q.stripe,.int .i64 q.epoch,.int .i64 q.seq,.int .i64 q.mask,.int .i64 q.node,.int .i64 q.oe,.int .i64 q.os,.string q.block]] w (RetK (outV (x,s)) w):=
 apply_gen r q x s hr hq h7 66 (chosen_7 r q t0 t1 t2 t3 t4 t5 t6 t7) (fun w=>by kernel_rfl) (by rw [← hx]; exact settle_any r q) w
theorem apply_8 (r:RecM) (q:AskM) (x:RecM) (s:SayR) (hr:RecOk r) (hq:AskOk q) (h7:q.kind ≤ 7) (hx:sayM r 1 = (x,s)) (t0:(q.kind == 1) = false) (t1:(q.epoch != r.fence) = false) (t2:(q.kind == 7) = false) (t3:(r.used) = true) (t4:(q.kind == 2) = false) (t5:(q.kind == 4) = false) (t6:(q.kind == 5) = false) (t7:(q.kind == 6) = false) (w:World):Calls Try.prog 27 #[.agg #[.bool r.used,.int .i64 r.fence,.int .i64 r.de,.int .i64 r.ds,.string r.block,.bool r.op,.int .i64 r.ie,.int .i64 r.is,.int .i64 r.mask,.string r.staged],.agg #[.int .i64 q.kind,.int .i64 q.stripe,.int .i64 q.epoch,.int .i64 q.seq,.int .i64 q.mask,.int .i64 q.node,.int .i64 q.oe,.int .i64 q.os,.string q.block]] w (RetK (outV (x,s)) w):=
 apply_gen r q x s hr hq h7 67 (chosen_8 r q t0 t1 t2 t3 t4 t5 t6 t7) (fun w=>by kernel_rfl) (by rw [← hx]; exact check_any r q) w
def apB_v1 (r:RecM):List Value:=(ap0_v1 r)
def apB_v2 (q:AskM):List Value:=(ap0_v2 q)
def apB_v3:List Value:=ap0_v3
def apB_v4:List Value:=ap0_v4
def apB_v5:List Value:=(ap0_v4.set 0 (.int .i64 6))
@[simp] def apB_b1 (r:RecM) (q:AskM) (w:World):List Bk:=[⟨w.heap.size,43,true,(apB_v1 r)⟩,⟨w.heap.size + 1,35,true,(apB_v2 q)⟩,⟨w.heap.size + 2,43,true,(apB_v3)⟩,⟨w.heap.size + 3,45,true,(apB_v4)⟩]
set_option maxRecDepth 100000 in
set_option maxHeartbeats 4000000 in
theorem apply_bad (r:RecM) (q:AskM) (hr:RecOk r) (hq:AskOk q) (h7:7 < q.kind) (w:World) :
  Calls Try.prog 27 #[.agg #[.bool r.used,.int .i64 r.fence,.int .i64 r.de,.int .i64 r.ds,.string r.block,.bool r.op,.int .i64 r.ie,.int .i64 r.is,.int .i64 r.mask,.string r.staged],.agg #[.int .i64 q.kind,.int .i64 q.stripe,.int .i64 q.epoch,.int .i64 q.seq,.int .i64 q.mask,.int .i64 q.node,.int .i64 q.oe,.int .i64 q.os,.string q.block]] w (RetK (outV (r,⟨6,0,0,blankR 0⟩)) w):=by
 refine calls_of_holds (S:=(fun _=>False)) (l:=[.agg (List.toArray (apB_v1 r)),.agg (List.toArray (apB_v2 q))]) (n:=37) Try.func27 (body_of (by kernel_rfl)) rfl (by simp) (MemOk.none w _) ?_
 refine hgE 14 [oh0,oh0,oh0,oh0,(oA 0 0 10)] [2,3,4,5,8] [] [(w.heap.size,0,10)] [.ops [1,0,0] [1,2,3,4,5,6,7,8,9,10,11,12],.code [1,0,1],.code [1,1]] ⟨[(2,(pt w.heap.size 0)),(3,(pt (w.heap.size + 1) 0)),(4,(pt (w.heap.size + 2) 0)),(5,(pt (w.heap.size + 3) 0)),(8,.agg (List.toArray (apB_v1 r)))],(apB_b1 r q w),[],w.heap.size + 4⟩ ?_
 refine hcp (.bool true) 42 [.agg (List.toArray (apB_v1 r))] (some 9) [] tI rfl (fun wx hm=>recRight r hr wx) fun z2 hz2=>?_
 replace hz2:w.heap.size + 4 ≤ z2:=hz2
 refine hgE 6 [oh0,oh0,(oA 1 0 9)] [2,3,4,5,11,12] [fF] [(w.heap.size + 1,0,9)] [.ops [1,0,0] [5,6,7,8,9,10,11,12],.code [1,0,1],.code [1,1]] ⟨[(2,(pt w.heap.size 0)),(3,(pt (w.heap.size + 1) 0)),(4,(pt (w.heap.size + 2) 0)),(5,(pt (w.heap.size + 3) 0)),(11,.bool false),(12,.agg (List.toArray (apB_v2 q)))],(apB_b1 r q w),[],z2⟩ ?_
 refine hcp (.bool true) 25 [.agg (List.toArray (apB_v2 q))] (some 13) [false = false] ⟨rfl,tI⟩ rfl (fun wx hm=>askRight q hq wx) fun z4 hz4=>?_
 replace hz4:z2 ≤ z4:=hz4
 refine hgE 19 [oh0,⟨false,3,[]⟩,oh0,oh0,(oA 1 0 1),oh0,⟨false,3,[]⟩,oh1,(oA 0 0 10),oh0,(oA 2 0 10),(oA 3 0 13)] [2,3,4,5] [fF,fF,fF,fF,fF,fF,dT ((q.kind:Int) > 7)] [(w.heap.size + 1,0,1),(w.heap.size,0,10),(w.heap.size + 2,0,10),(w.heap.size + 3,0,13)] [.code [1,0,1,0,1],.code [1,1]] ⟨[(2,(pt w.heap.size 0)),(3,(pt (w.heap.size + 1) 0)),(4,(pt (w.heap.size + 2) 0)),(5,(pt (w.heap.size + 3) 0))],[⟨w.heap.size,43,true,(apB_v1 r)⟩,⟨w.heap.size + 1,35,true,(apB_v2 q)⟩,⟨w.heap.size + 2,43,true,(apB_v1 r)⟩,⟨w.heap.size + 3,45,true,(apB_v5)⟩],[],z4⟩ ?_
 refine hrt [[⟨false,2,0,10⟩],[⟨false,3,0,13⟩]] [.agg (List.toArray (apB_v1 r)),.agg (List.toArray (apB_v5))] [(w.heap.size + 2,0,10),(w.heap.size + 3,0,13)] ?_
 intro wx hm
 exact ⟨rfl,hm.kept⟩
theorem applyP (r:RecM) (q:AskM) (hr:RecOk r) (hq:AskOk q) (w:World):Calls Try.prog 27 #[.agg #[.bool r.used,.int .i64 r.fence,.int .i64 r.de,.int .i64 r.ds,.string r.block,.bool r.op,.int .i64 r.ie,.int .i64 r.is,.int .i64 r.mask,.string r.staged],.agg #[.int .i64 q.kind,.int .i64 q.stripe,.int .i64 q.epoch,.int .i64 q.seq,.int .i64 q.mask,.int .i64 q.node,.int .i64 q.oe,.int .i64 q.os,.string q.block]] w (RetK (outV (applyM r q)) w):=by
 by_cases h7:7 < q.kind
 ·have e:applyM r q = (r,⟨6,0,0,blankR 0⟩):=by
   unfold applyM
   rw [decide_eq_true (show q.kind > 7 from h7),cond_true]
  rw [e]
  exact apply_bad r q hr hq h7 w
 ·have e:applyM r q = turnM r q:=by
   unfold applyM
   rw [decide_eq_false (show ¬ q.kind > 7 from h7),cond_false]
  rw [e]
  have h8:q.kind ≤ 7:=by omega
  rcases Bool.eq_false_or_eq_true (q.kind == 1) with t0 | t0
  ·skip
   have e:turnM r q = fenceM r q:=by
    unfold turnM chosenF
    rw [t0,cond_true]
    rfl
   rw [e]
   exact apply_0 r q (fenceM r q).1 (fenceM r q).2 hr hq h8 rfl t0 w
  ·skip
   rcases Bool.eq_false_or_eq_true (q.epoch != r.fence) with t1 | t1
   ·skip
    have e:turnM r q = sayM r 2:=by
     unfold turnM chosenF
     rw [t0,cond_false,t1,cond_true]
     rfl
    rw [e]
    exact apply_1 r q (sayM r 2).1 (sayM r 2).2 hr hq h8 rfl t0 t1 w
   ·skip
    rcases Bool.eq_false_or_eq_true (q.kind == 7) with t2 | t2
    ·skip
     have e:turnM r q = putM r q:=by
      unfold turnM chosenF
      rw [t0,cond_false,t1,cond_false,t2,cond_true]
      rfl
     rw [e]
     exact apply_2 r q (putM r q).1 (putM r q).2 hr hq h8 rfl t0 t1 t2 w
    ·skip
     rcases Bool.eq_false_or_eq_true (r.used) with t3 | t3
     ·skip
      rcases Bool.eq_false_or_eq_true (q.kind == 2) with t4 | t4
      ·skip
       have e:turnM r q = readM r:=by
        unfold turnM chosenF
        rw [t0,cond_false,t1,cond_false,t2,cond_false,t3,cond_true,t4,cond_true]
        rfl
       rw [e]
       exact apply_4 r q (readM r).1 (readM r).2 hr hq h8 rfl t0 t1 t2 t3 t4 w
      ·skip
       rcases Bool.eq_false_or_eq_true (q.kind == 4) with t5 | t5
       ·skip
        have e:turnM r q = prepareM r q:=by
         unfold turnM chosenF
         rw [t0,cond_false,t1,cond_false,t2,cond_false,t3,cond_true,t4,cond_false,t5,cond_true]
         rfl
        rw [e]
        exact apply_5 r q (prepareM r q).1 (prepareM r q).2 hr hq h8 rfl t0 t1 t2 t3 t4 t5 w
       ·skip
        rcases Bool.eq_false_or_eq_true (q.kind == 5) with t6 | t6
        ·skip
         have e:turnM r q = commitM r q:=by
          unfold turnM chosenF
          rw [t0,cond_false,t1,cond_false,t2,cond_false,t3,cond_true,t4,cond_false,t5,cond_false,t6,cond_true]
          rfl
         rw [e]
         exact apply_6 r q (commitM r q).1 (commitM r q).2 hr hq h8 rfl t0 t1 t2 t3 t4 t5 t6 w
        ·skip
         rcases Bool.eq_false_or_eq_true (q.kind == 6) with t7 | t7
         ·skip
          have e:turnM r q = settleM r q:=by
           unfold turnM chosenF
           rw [t0,cond_false,t1,cond_false,t2,cond_false,t3,cond_true,t4,cond_false,t5,cond_false,t6,cond_false,t7,cond_true]
           rfl
          rw [e]
          exact apply_7 r q (settleM r q).1 (settleM r q).2 hr hq h8 rfl t0 t1 t2 t3 t4 t5 t6 t7 w
         ·skip
          have e:turnM r q = sayM r 1:=by
           unfold turnM chosenF
           rw [t0,cond_false,t1,cond_false,t2,cond_false,t3,cond_true,t4,cond_false,t5,cond_false,t6,cond_false,t7,cond_false]
           rfl
          rw [e]
          exact apply_8 r q (sayM r 1).1 (sayM r 1).2 hr hq h8 rfl t0 t1 t2 t3 t4 t5 t6 t7 w
     ·skip
      have e:turnM r q = sayM r 5:=by
       unfold turnM chosenF
       rw [t0,cond_false,t1,cond_false,t2,cond_false,t3,cond_false]
       rfl
      rw [e]
      exact apply_3 r q (sayM r 5).1 (sayM r 5).2 hr hq h8 rfl t0 t1 t2 t3 w
end Go.Proofs.Ytfiheghjhgnblaa
