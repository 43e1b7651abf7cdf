import Derived.Test.YtkffgdfbdmgncaaCrcM
import Derived.Test.YtkffgdfbdmgncaaEngU
import Derived.Test.YtkffgdfbdmgncaaProg
namespace Go.Proofs.Ytkffgdfbdmgncaa
open Go.RowKit
def wi (a b c:Int):Bool:=decide (a ≥ b) && decide (a ≤ c)
set_option maxRecDepth 100000 in
set_option maxHeartbeats 4000000 in
theorem within_any (a b c:Int) (w:World) :
  Calls Try.prog 54 #[.int .i64 a,.int .i64 b,.int .i64 c] w (RetK (.bool (wi a b c)) w):=by
 refine calls_of_holds (S:=(fun _=>False)) (l:=[.int .i64 a,.int .i64 b,.int .i64 c]) (n:=15) Try.func54 (body_of (by kernel_rfl)) rfl (by simp) (MemOk.none w _) ?_
 refine hgE 13 [oh0,oh0,oh0,oh0,oh0] [0,2,6,10] [] [] [.ops [1,0] [4,5,6,7,8],.code [1,1]] ⟨[(0,i6 a),(2,i6 c),(6,.bool false),(10,.bool (decide ((a:Int) ≥ b)))],[],[],w.heap.size⟩ ?_
 rcases Bool.eq_false_or_eq_true (decide ((a:Int) ≥ b)) with d1 | d1
 ·skip
  refine hgE 9 [oh1,oh1,oh1,oh3,oh0] [6] [eD d1,eD d1,eD d1,eD d1] [] [.code [1,1]] ⟨[(6,.bool (decide ((a:Int) ≤ c)))],[],[],w.heap.size⟩ ?_
  refine hrt [] [.bool (decide ((a:Int) ≤ c))] [] ?_
  intro wx hm
  exact ⟨ret_bool (by unfold wi; rw [d1]; rfl),hm.kept⟩
 ·skip
  refine hgE 9 [oh0,oh0,oh0,⟨false,3,[]⟩,oh0] [6] [eD d1,eD d1,eD d1,eD d1] [] [.code [1,1]] ⟨[(6,.bool false)],[],[],w.heap.size⟩ ?_
  refine hrt [] [.bool false] [] ?_
  intro wx hm
  exact ⟨ret_bool (by unfold wi; rw [d1]; rfl),hm.kept⟩
def askB1 (q:AskM):Bool:=(wi q.epoch 1 16777215 && (((q.seq:Int) == 0) && (((q.mask:Int) == 0) && (((q.node:Int) == 0) && ((((q.oe:Int) == 0) && (((q.os:Int) == 0) && true)) && (((q.block:ByteArray) == ⟨#[]⟩) && true))))))
def askB2 (q:AskM):Bool:=(wi q.epoch 1 16777215 && (((q.seq:Int) == 0) && (((q.mask:Int) == 0) && (((q.node:Int) == 0) && ((((q.oe:Int) == 0) && (((q.os:Int) == 0) && true)) && (((q.block:ByteArray) == ⟨#[]⟩) && true))))))
def askB3 (q:AskM):Bool:=(wi q.epoch 1 16777215 && (((q.seq:Int) == 0) && (((q.mask:Int) == 0) && (((q.node:Int) == 0) && ((((q.oe:Int) == 0) && (((q.os:Int) == 0) && true)) && (((q.block:ByteArray) == ⟨#[]⟩) && true))))))
def askB4 (q:AskM):Bool:=((((wi q.epoch 1 16777215 && wi q.seq 1 16777215) && wi q.mask 1 63) && ((q.block.size:Int) == 16)) && (((q.node:Int) == 0) && ((((q.oe:Int) == 0) && (((q.os:Int) == 0) && true)) && true)))
def askB5 (q:AskM):Bool:=((wi q.epoch 1 16777215 && wi q.seq 1 16777215) && (((q.mask:Int) == 0) && (((q.node:Int) == 0) && ((((q.oe:Int) == 0) && (((q.os:Int) == 0) && true)) && (((q.block:ByteArray) == ⟨#[]⟩) && true)))))
def askB6 (q:AskM):Bool:=(((((wi q.epoch 1 16777215 && wi q.mask 0 1) && wi q.oe 0 16777215) && wi q.os 0 16777215) && decide ((q.oe:Int) < q.epoch)) && (((q.seq:Int) == 0) && (((q.node:Int) == 0) && (((q.block:ByteArray) == ⟨#[]⟩) && true))))
def askB7 (q:AskM):Bool:=(((wi q.epoch 1 16777215 && wi q.seq 1 16777215) && ((q.block.size:Int) == 16)) && (((q.mask:Int) == 0) && (((q.node:Int) == 0) && ((((q.oe:Int) == 0) && (((q.os:Int) == 0) && true)) && true))))
def askB8 (q:AskM):Bool:=(((q.epoch:Int) == 0) && (((q.seq:Int) == 0) && (((q.mask:Int) == 0) && (((q.node:Int) == 0) && ((((q.oe:Int) == 0) && (((q.os:Int) == 0) && true)) && (((q.block:ByteArray) == ⟨#[]⟩) && true))))))
def askB9 (q:AskM):Bool:=((wi q.epoch 1 16777215 && wi q.node 0 5) && (((q.seq:Int) == 0) && (((q.mask:Int) == 0) && ((((q.oe:Int) == 0) && (((q.os:Int) == 0) && true)) && (((q.block:ByteArray) == ⟨#[]⟩) && true)))))
def askB10 (q:AskM):Bool:=(wi q.epoch 1 16777215 && (((q.seq:Int) == 0) && (((q.mask:Int) == 0) && (((q.node:Int) == 0) && ((((q.oe:Int) == 0) && (((q.os:Int) == 0) && true)) && (((q.block:ByteArray) == ⟨#[]⟩) && true))))))
def rightA (q:AskM):Bool:=wi q.stripe 0 7 && (bif (q.kind:Int) == 1 then askB1 q else bif (q.kind:Int) == 2 then askB2 q else bif (q.kind:Int) == 3 then askB3 q else bif (q.kind:Int) == 4 then askB4 q else bif (q.kind:Int) == 5 then askB5 q else bif (q.kind:Int) == 6 then askB6 q else bif (q.kind:Int) == 7 then askB7 q else bif (q.kind:Int) == 8 then askB8 q else bif (q.kind:Int) == 9 then askB9 q else bif (q.kind:Int) == 10 then askB10 q else false)
theorem rightA_1 {q:AskM} (hk:q.kind = 1) (hs:wi q.stripe 0 7 = true):rightA q = askB1 q:=by
 unfold rightA
 rw [hs,hk]
 rfl
theorem rightA_2 {q:AskM} (hk:q.kind = 2) (hs:wi q.stripe 0 7 = true):rightA q = askB2 q:=by
 unfold rightA
 rw [hs,hk]
 rfl
theorem rightA_3 {q:AskM} (hk:q.kind = 3) (hs:wi q.stripe 0 7 = true):rightA q = askB3 q:=by
 unfold rightA
 rw [hs,hk]
 rfl
theorem rightA_4 {q:AskM} (hk:q.kind = 4) (hs:wi q.stripe 0 7 = true):rightA q = askB4 q:=by
 unfold rightA
 rw [hs,hk]
 rfl
theorem rightA_5 {q:AskM} (hk:q.kind = 5) (hs:wi q.stripe 0 7 = true):rightA q = askB5 q:=by
 unfold rightA
 rw [hs,hk]
 rfl
theorem rightA_6 {q:AskM} (hk:q.kind = 6) (hs:wi q.stripe 0 7 = true):rightA q = askB6 q:=by
 unfold rightA
 rw [hs,hk]
 rfl
theorem rightA_7 {q:AskM} (hk:q.kind = 7) (hs:wi q.stripe 0 7 = true):rightA q = askB7 q:=by
 unfold rightA
 rw [hs,hk]
 rfl
theorem rightA_8 {q:AskM} (hk:q.kind = 8) (hs:wi q.stripe 0 7 = true):rightA q = askB8 q:=by
 unfold rightA
 rw [hs,hk]
 rfl
theorem rightA_9 {q:AskM} (hk:q.kind = 9) (hs:wi q.stripe 0 7 = true):rightA q = askB9 q:=by
 unfold rightA
 rw [hs,hk]
 rfl
theorem rightA_10 {q:AskM} (hk:q.kind = 10) (hs:wi q.stripe 0 7 = true):rightA q = askB10 q:=by
 unfold rightA
 rw [hs,hk]
 rfl
def ra1_v1 (q:AskM):List Value:=[i6 q.kind,i6 q.stripe,i6 q.epoch,i6 q.seq,i6 q.mask,i6 q.node,i6 q.oe,i6 q.os,sT q.block]
def ra1_v2 (q:AskM):List Value:=((((ra1_v1 q).set 0 (i6 0)).set 1 (i6 0)).set 2 (i6 0))
@[simp] def ra1_b1 (q:AskM) (w:World) (z2:Nat):List Bk:=[⟨w.heap.size,25,true,(ra1_v1 q)⟩,⟨z2,25,true,(ra1_v2 q)⟩]
set_option maxRecDepth 100000 in
set_option maxHeartbeats 4000000 in
theorem askAny_1 (q:AskM) (hk:q.kind = 1) (hs:wi q.stripe 0 7 = true) (w:World) :
  Calls Try.prog 35 #[.agg #[.int .i64 q.kind,.int .i64 q.stripe,.int .i64 q.epoch,.int .i64 q.seq,.int .i64 q.mask,.int .i64 q.node,.int .i64 q.oe,.int .i64 q.os,.string q.block]] w (RetK (.bool (rightA q)) w):=by
 refine calls_of_holds (S:=(fun _=>False)) (l:=[.agg (List.toArray (ra1_v1 q))]) (n:=120) Try.func35 (body_of (by kernel_rfl)) rfl (by simp) (MemOk.none w _) ?_
 refine hgE 13 [oh0,oh0,oh0,(oA 0 1 1)] [1,2,6] [] [(w.heap.size,1,1)] [.ops [1,0,0] [2,3],.code [1,0,1],.code [1,1]] ⟨[(1,(pt w.heap.size 0)),(2,.bool false),(6,i6 q.stripe)],[⟨w.heap.size,25,true,(ra1_v1 q)⟩],[],w.heap.size + 1⟩ ?_
 refine hcp (.bool (wi q.stripe 0 7)) 54 [i6 q.stripe,i6 0,i6 7] (some 7) [] tI rfl (fun wx hm=>within_any _ _ _ wx) fun z2 hz2=>?_
 replace hz2:w.heap.size + 1 ≤ z2:=hz2
 refine hgE 40 [oh0,oh0,(oA 0 0 9),oh0,(oA 1 0 9),oh0,(oA 1 0 1),oh0,(oA 1 1 1),oh0,oh0,(oA 0 0 1),oh0,oh1,oh0,(oA 1 2 1),oh0,(oA 0 2 1)] [1,2,3,4,17] [eD (nF hs),oE ((q.kind != 8) = true) (by rw [hk]; rfl)] [(w.heap.size,0,9),(z2,0,9),(z2,0,1),(z2,1,1),(w.heap.size,0,1),(z2,2,1),(w.heap.size,2,1)] [.ops [1,1,1,1,1,0,1,0,1] [2,3],.code [1,1,1,1,1,1]] ⟨[(1,(pt w.heap.size 0)),(2,.bool false),(3,(pt z2 0)),(4,.bool true),(17,i6 q.epoch)],(ra1_b1 q w z2),[],z2 + 1⟩ ?_
 refine hcp (.bool (wi q.epoch 1 16777215)) 54 [i6 q.epoch,i6 1,i6 16777215] (some 18) [] tI rfl (fun wx hm=>within_any _ _ _ wx) fun z4 hz4=>?_
 replace hz4:z2 + 1 ≤ z4:=hz4
 refine hgE 27 [oh0,oh0,(oA 0 0 1),oh0,oh0,oh1,oh1,oh0,oh0] [2,3,115] [oE ((q.kind == 1) = true) (by rw [hk]; rfl),oE ((q.kind == 1) = true) (by rw [hk]; rfl)] [(w.heap.size,0,1)] [.ops [1,1,1,1,1,1,1,0] [2,3,4,5,6],.code [1,1,1,1,1,1,1,1]] ⟨[(2,.bool false),(3,(pt z2 0)),(115,.bool (wi q.epoch 1 16777215))],(ra1_b1 q w z2),[],z4⟩ ?_
 rcases Bool.eq_false_or_eq_true (wi q.epoch 1 16777215) with d1 | d1
 ·skip
  refine hgE 9 [⟨true,0,[⟨false,1,0,9⟩]⟩,oh1,⟨true,1,[]⟩,oh3,oh0] [2] [eD d1,eD d1,eD d1,vV,eD d1] [(z2,0,9)] [.code [1,1,1,1,1,1,1,1]] ⟨[(2,.bool (((q.seq:Int) == 0) && (((q.mask:Int) == 0) && (((q.node:Int) == 0) && ((((q.oe:Int) == 0) && (((q.os:Int) == 0) && true)) && (((q.block:ByteArray) == ⟨#[]⟩) && true))))))],(ra1_b1 q w z2),[],z4⟩ ?_
  refine hrt [] [.bool (((q.seq:Int) == 0) && (((q.mask:Int) == 0) && (((q.node:Int) == 0) && ((((q.oe:Int) == 0) && (((q.os:Int) == 0) && true)) && (((q.block:ByteArray) == ⟨#[]⟩) && true)))))] [] ?_
  intro wx hm
  exact ⟨ret_bool (by rw [rightA_1 hk hs]; unfold askB1; rw [d1]; rfl),hm.kept⟩
 ·skip
  refine hgE 9 [oh0,oh0,oh0,⟨false,3,[]⟩,oh0] [2] [eD d1,eD d1,eD d1,eD d1] [] [.code [1,1,1,1,1,1,1,1]] ⟨[(2,.bool false)],(ra1_b1 q w z2),[],z4⟩ ?_
  refine hrt [] [.bool false] [] ?_
  intro wx hm
  exact ⟨ret_bool (by rw [rightA_1 hk hs]; unfold askB1; rw [d1]; rfl),hm.kept⟩
def ra2_v1 (q:AskM):List Value:=(ra1_v1 q)
def ra2_v2 (q:AskM):List Value:=(ra1_v2 q)
@[simp] def ra2_b1 (q:AskM) (w:World) (z2:Nat):List Bk:=[⟨w.heap.size,25,true,(ra2_v1 q)⟩,⟨z2,25,true,(ra2_v2 q)⟩]
set_option maxRecDepth 100000 in
set_option maxHeartbeats 4000000 in
theorem askAny_2 (q:AskM) (hk:q.kind = 2) (hs:wi q.stripe 0 7 = true) (w:World) :
  Calls Try.prog 35 #[.agg #[.int .i64 q.kind,.int .i64 q.stripe,.int .i64 q.epoch,.int .i64 q.seq,.int .i64 q.mask,.int .i64 q.node,.int .i64 q.oe,.int .i64 q.os,.string q.block]] w (RetK (.bool (rightA q)) w):=by
 refine calls_of_holds (S:=(fun _=>False)) (l:=[.agg (List.toArray (ra2_v1 q))]) (n:=120) Try.func35 (body_of (by kernel_rfl)) rfl (by simp) (MemOk.none w _) ?_
 refine hgE 13 [oh0,oh0,oh0,(oA 0 1 1)] [1,2,6] [] [(w.heap.size,1,1)] [.ops [1,0,0] [2,3],.code [1,0,1],.code [1,1]] ⟨[(1,(pt w.heap.size 0)),(2,.bool false),(6,i6 q.stripe)],[⟨w.heap.size,25,true,(ra2_v1 q)⟩],[],w.heap.size + 1⟩ ?_
 refine hcp (.bool (wi q.stripe 0 7)) 54 [i6 q.stripe,i6 0,i6 7] (some 7) [] tI rfl (fun wx hm=>within_any _ _ _ wx) fun z2 hz2=>?_
 replace hz2:w.heap.size + 1 ≤ z2:=hz2
 refine hgE 40 [oh0,oh0,(oA 0 0 9),oh0,(oA 1 0 9),oh0,(oA 1 0 1),oh0,(oA 1 1 1),oh0,oh0,(oA 0 0 1),oh0,oh1,oh0,(oA 1 2 1),oh0,(oA 0 2 1)] [1,2,3,4,17] [eD (nF hs),oE ((q.kind != 8) = true) (by rw [hk]; rfl)] [(w.heap.size,0,9),(z2,0,9),(z2,0,1),(z2,1,1),(w.heap.size,0,1),(z2,2,1),(w.heap.size,2,1)] [.ops [1,1,1,1,1,0,1,0,1] [2,3],.code [1,1,1,1,1,1]] ⟨[(1,(pt w.heap.size 0)),(2,.bool false),(3,(pt z2 0)),(4,.bool true),(17,i6 q.epoch)],(ra2_b1 q w z2),[],z2 + 1⟩ ?_
 refine hcp (.bool (wi q.epoch 1 16777215)) 54 [i6 q.epoch,i6 1,i6 16777215] (some 18) [] tI rfl (fun wx hm=>within_any _ _ _ wx) fun z4 hz4=>?_
 replace hz4:z2 + 1 ≤ z4:=hz4
 refine hgE 33 [oh0,oh0,(oA 0 0 1),oh0,oh0,oh0,oh0,oh0,oh1,oh1,oh0,oh0] [2,3,115] [oE ((q.kind == 1) = false) (by rw [hk]; rfl),oE ((q.kind == 2) = true) (by rw [hk]; rfl),oE ((q.kind == 2) = true) (by rw [hk]; rfl)] [(w.heap.size,0,1)] [.ops [1,1,1,1,1,1,1,0] [2,3,4,5,6],.code [1,1,1,1,1,1,1,1]] ⟨[(2,.bool false),(3,(pt z2 0)),(115,.bool (wi q.epoch 1 16777215))],(ra2_b1 q w z2),[],z4⟩ ?_
 rcases Bool.eq_false_or_eq_true (wi q.epoch 1 16777215) with d1 | d1
 ·skip
  refine hgE 9 [⟨true,0,[⟨false,1,0,9⟩]⟩,oh1,⟨true,1,[]⟩,oh3,oh0] [2] [eD d1,eD d1,eD d1,vV,eD d1] [(z2,0,9)] [.code [1,1,1,1,1,1,1,1]] ⟨[(2,.bool (((q.seq:Int) == 0) && (((q.mask:Int) == 0) && (((q.node:Int) == 0) && ((((q.oe:Int) == 0) && (((q.os:Int) == 0) && true)) && (((q.block:ByteArray) == ⟨#[]⟩) && true))))))],(ra2_b1 q w z2),[],z4⟩ ?_
  refine hrt [] [.bool (((q.seq:Int) == 0) && (((q.mask:Int) == 0) && (((q.node:Int) == 0) && ((((q.oe:Int) == 0) && (((q.os:Int) == 0) && true)) && (((q.block:ByteArray) == ⟨#[]⟩) && true)))))] [] ?_
  intro wx hm
  exact ⟨ret_bool (by rw [rightA_2 hk hs]; unfold askB2; rw [d1]; rfl),hm.kept⟩
 ·skip
  refine hgE 9 [oh0,oh0,oh0,⟨false,3,[]⟩,oh0] [2] [eD d1,eD d1,eD d1,eD d1] [] [.code [1,1,1,1,1,1,1,1]] ⟨[(2,.bool false)],(ra2_b1 q w z2),[],z4⟩ ?_
  refine hrt [] [.bool false] [] ?_
  intro wx hm
  exact ⟨ret_bool (by rw [rightA_2 hk hs]; unfold askB2; rw [d1]; rfl),hm.kept⟩
def ra3_v1 (q:AskM):List Value:=(ra1_v1 q)
def ra3_v2 (q:AskM):List Value:=(ra1_v2 q)
@[simp] def ra3_b1 (q:AskM) (w:World) (z2:Nat):List Bk:=[⟨w.heap.size,25,true,(ra3_v1 q)⟩,⟨z2,25,true,(ra3_v2 q)⟩]
set_option maxRecDepth 100000 in
set_option maxHeartbeats 4000000 in
theorem askAny_3 (q:AskM) (hk:q.kind = 3) (hs:wi q.stripe 0 7 = true) (w:World) :
  Calls Try.prog 35 #[.agg #[.int .i64 q.kind,.int .i64 q.stripe,.int .i64 q.epoch,.int .i64 q.seq,.int .i64 q.mask,.int .i64 q.node,.int .i64 q.oe,.int .i64 q.os,.string q.block]] w (RetK (.bool (rightA q)) w):=by
 refine calls_of_holds (S:=(fun _=>False)) (l:=[.agg (List.toArray (ra3_v1 q))]) (n:=120) Try.func35 (body_of (by kernel_rfl)) rfl (by simp) (MemOk.none w _) ?_
 refine hgE 13 [oh0,oh0,oh0,(oA 0 1 1)] [1,2,6] [] [(w.heap.size,1,1)] [.ops [1,0,0] [2,3],.code [1,0,1],.code [1,1]] ⟨[(1,(pt w.heap.size 0)),(2,.bool false),(6,i6 q.stripe)],[⟨w.heap.size,25,true,(ra3_v1 q)⟩],[],w.heap.size + 1⟩ ?_
 refine hcp (.bool (wi q.stripe 0 7)) 54 [i6 q.stripe,i6 0,i6 7] (some 7) [] tI rfl (fun wx hm=>within_any _ _ _ wx) fun z2 hz2=>?_
 replace hz2:w.heap.size + 1 ≤ z2:=hz2
 refine hgE 40 [oh0,oh0,(oA 0 0 9),oh0,(oA 1 0 9),oh0,(oA 1 0 1),oh0,(oA 1 1 1),oh0,oh0,(oA 0 0 1),oh0,oh1,oh0,(oA 1 2 1),oh0,(oA 0 2 1)] [1,2,3,4,17] [eD (nF hs),oE ((q.kind != 8) = true) (by rw [hk]; rfl)] [(w.heap.size,0,9),(z2,0,9),(z2,0,1),(z2,1,1),(w.heap.size,0,1),(z2,2,1),(w.heap.size,2,1)] [.ops [1,1,1,1,1,0,1,0,1] [2,3],.code [1,1,1,1,1,1]] ⟨[(1,(pt w.heap.size 0)),(2,.bool false),(3,(pt z2 0)),(4,.bool true),(17,i6 q.epoch)],(ra3_b1 q w z2),[],z2 + 1⟩ ?_
 refine hcp (.bool (wi q.epoch 1 16777215)) 54 [i6 q.epoch,i6 1,i6 16777215] (some 18) [] tI rfl (fun wx hm=>within_any _ _ _ wx) fun z4 hz4=>?_
 replace hz4:z2 + 1 ≤ z4:=hz4
 refine hgE 39 [oh0,oh0,(oA 0 0 1),oh0,oh0,oh0,oh0,oh0,oh0,oh0,oh0,oh1,oh1,oh0,oh0] [2,3,115] [oE ((q.kind == 1) = false) (by rw [hk]; rfl),oE ((q.kind == 2) = false) (by rw [hk]; rfl),oE ((q.kind == 3) = true) (by rw [hk]; rfl),oE ((q.kind == 3) = true) (by rw [hk]; rfl)] [(w.heap.size,0,1)] [.ops [1,1,1,1,1,1,1,0] [2,3,4,5,6],.code [1,1,1,1,1,1,1,1]] ⟨[(2,.bool false),(3,(pt z2 0)),(115,.bool (wi q.epoch 1 16777215))],(ra3_b1 q w z2),[],z4⟩ ?_
 rcases Bool.eq_false_or_eq_true (wi q.epoch 1 16777215) with d1 | d1
 ·skip
  refine hgE 9 [⟨true,0,[⟨false,1,0,9⟩]⟩,oh1,⟨true,1,[]⟩,oh3,oh0] [2] [eD d1,eD d1,eD d1,vV,eD d1] [(z2,0,9)] [.code [1,1,1,1,1,1,1,1]] ⟨[(2,.bool (((q.seq:Int) == 0) && (((q.mask:Int) == 0) && (((q.node:Int) == 0) && ((((q.oe:Int) == 0) && (((q.os:Int) == 0) && true)) && (((q.block:ByteArray) == ⟨#[]⟩) && true))))))],(ra3_b1 q w z2),[],z4⟩ ?_
  refine hrt [] [.bool (((q.seq:Int) == 0) && (((q.mask:Int) == 0) && (((q.node:Int) == 0) && ((((q.oe:Int) == 0) && (((q.os:Int) == 0) && true)) && (((q.block:ByteArray) == ⟨#[]⟩) && true)))))] [] ?_
  intro wx hm
  exact ⟨ret_bool (by rw [rightA_3 hk hs]; unfold askB3; rw [d1]; rfl),hm.kept⟩
 ·skip
  refine hgE 9 [oh0,oh0,oh0,⟨false,3,[]⟩,oh0] [2] [eD d1,eD d1,eD d1,eD d1] [] [.code [1,1,1,1,1,1,1,1]] ⟨[(2,.bool false)],(ra3_b1 q w z2),[],z4⟩ ?_
  refine hrt [] [.bool false] [] ?_
  intro wx hm
  exact ⟨ret_bool (by rw [rightA_3 hk hs]; unfold askB3; rw [d1]; rfl),hm.kept⟩
def ra4_v1 (q:AskM):List Value:=(ra1_v1 q)
def ra4_v2 (q:AskM):List Value:=rp 5 (i6 0) ++ [i6 q.node,i6 q.oe,i6 q.os,sT ⟨#[]⟩]
def ra4_n1:List Nat:=[1,1,1,1,1,1,0,1,0,1,1,1,0,1]
def ra4_n2:List Nat:=[1,1,1,1,1,1,1,1]
@[simp] def ra4_b1 (q:AskM) (w:World) (z2:Nat):List Bk:=[⟨w.heap.size,25,true,(ra4_v1 q)⟩,⟨z2,25,true,(ra4_v2 q)⟩]
set_option maxRecDepth 100000 in
set_option maxHeartbeats 4000000 in
theorem askAny_4 (q:AskM) (hk:q.kind = 4) (hs:wi q.stripe 0 7 = true) (w:World) :
  Calls Try.prog 35 #[.agg #[.int .i64 q.kind,.int .i64 q.stripe,.int .i64 q.epoch,.int .i64 q.seq,.int .i64 q.mask,.int .i64 q.node,.int .i64 q.oe,.int .i64 q.os,.string q.block]] w (RetK (.bool (rightA q)) w):=by
 refine calls_of_holds (S:=(fun _=>False)) (l:=[.agg (List.toArray (ra4_v1 q))]) (n:=120) Try.func35 (body_of (by kernel_rfl)) rfl (by simp) (MemOk.none w _) ?_
 refine hgE 13 [oh0,oh0,oh0,(oA 0 1 1)] [1,2,6] [] [(w.heap.size,1,1)] [.ops [1,0,0] [2,3],.code [1,0,1],.code [1,1]] ⟨[(1,(pt w.heap.size 0)),(2,.bool false),(6,i6 q.stripe)],[⟨w.heap.size,25,true,(ra4_v1 q)⟩],[],w.heap.size + 1⟩ ?_
 refine hcp (.bool (wi q.stripe 0 7)) 54 [i6 q.stripe,i6 0,i6 7] (some 7) [] tI rfl (fun wx hm=>within_any _ _ _ wx) fun z2 hz2=>?_
 replace hz2:w.heap.size + 1 ≤ z2:=hz2
 refine hgE 40 [oh0,oh0,(oA 0 0 9),oh0,(oA 1 0 9),oh0,(oA 1 0 1),oh0,(oA 1 1 1),oh0,oh0,(oA 0 0 1),oh0,oh1,oh0,(oA 1 2 1),oh0,(oA 0 2 1)] [1,2,3,4,17] [eD (nF hs),oE ((q.kind != 8) = true) (by rw [hk]; rfl)] [(w.heap.size,0,9),(z2,0,9),(z2,0,1),(z2,1,1),(w.heap.size,0,1),(z2,2,1),(w.heap.size,2,1)] [.ops [1,1,1,1,1,0,1,0,1] [2,3],.code [1,1,1,1,1,1]] ⟨[(1,(pt w.heap.size 0)),(2,.bool false),(3,(pt z2 0)),(4,.bool true),(17,i6 q.epoch)],[⟨w.heap.size,25,true,(ra4_v1 q)⟩,⟨z2,25,true,[i6 0,i6 0,i6 0,i6 q.seq,i6 q.mask,i6 q.node,i6 q.oe,i6 q.os,sT q.block]⟩],[],z2 + 1⟩ ?_
 refine hcp (.bool (wi q.epoch 1 16777215)) 54 [i6 q.epoch,i6 1,i6 16777215] (some 18) [] tI rfl (fun wx hm=>within_any _ _ _ wx) fun z4 hz4=>?_
 replace hz4:z2 + 1 ≤ z4:=hz4
 refine hgE 60 [oh0,oh0,(oA 0 0 1),oh0,oh0,oh0,oh0,oh0,oh0,oh0,oh0,oh0,oh0,oh0,oh0,oh0,oh0,oh0,oh0,oh0,oh1,oh0,(oA 1 3 1),oh0,(oA 1 4 1),oh0,(oA 1 8 1),oh0,oh0] [1,2,3,4,33] [oE ((q.kind == 1) = false) (by rw [hk]; rfl),oE ((q.kind == 2) = false) (by rw [hk]; rfl),oE ((q.kind == 3) = false) (by rw [hk]; rfl),oE ((q.kind == 10) = false) (by rw [hk]; rfl),oE ((q.kind == 8) = false) (by rw [hk]; rfl),oE ((q.kind == 4) = true) (by rw [hk]; rfl)] [(w.heap.size,0,1),(z2,3,1),(z2,4,1),(z2,8,1)] [.ops ra4_n1 [2,3,4,5,6,7,8,9,10,11,12,13,14,15,16,17],.blk 0,.code [1,1,1,1,1,1,1]] ⟨[(1,(pt w.heap.size 0)),(2,.bool false),(3,(pt z2 0)),(4,.bool (wi q.epoch 1 16777215)),(33,.bool (wi q.epoch 1 16777215))],(ra4_b1 q w z2),[],z4⟩ ?_
 rcases Bool.eq_false_or_eq_true (wi q.epoch 1 16777215) with d1 | d1
 ·skip
  refine hgE 5 [oh1,⟨true,0,[⟨false,0,3,1⟩]⟩] [1,2,3,4,33,35] [eD d1,eD d1] [(w.heap.size,3,1)] [.ops ra4_n1 [4,5,6,7,8,9,10,11,12,13,14,15,16,17],.blk 0,.code [1,1,1,1,1,1,1]] ⟨[(1,(pt w.heap.size 0)),(2,.bool false),(3,(pt z2 0)),(4,.bool (wi q.epoch 1 16777215)),(33,.bool (wi q.epoch 1 16777215)),(35,i6 q.seq)],(ra4_b1 q w z2),[],z4⟩ ?_
  refine hcp (.bool (wi q.seq 1 16777215)) 54 [i6 q.seq,i6 1,i6 16777215] (some 36) [(wi q.epoch 1 16777215) = true] ⟨d1,tI⟩ rfl (fun wx hm=>within_any _ _ _ wx) fun z7 hz7=>?_
  replace hz7:z4 ≤ z7:=hz7
  refine hgE 5 [oh3,oh0] [1,2,3,4,38] [eD d1] [] [.ops ra4_n1 [7,8,9,10,11,12,13,14,15,16,17],.blk 0,.code [1,1,1,1,1,1,1]] ⟨[(1,(pt w.heap.size 0)),(2,.bool false),(3,(pt z2 0)),(4,.bool (wi q.epoch 1 16777215)),(38,.bool (wi q.seq 1 16777215))],(ra4_b1 q w z2),[],z7⟩ ?_
  rcases Bool.eq_false_or_eq_true (wi q.seq 1 16777215) with d2 | d2
  ·skip
   refine hgE 5 [oh1,⟨true,0,[⟨false,0,4,1⟩]⟩] [1,2,3,4,38,40] [eD d2,eD d2] [(w.heap.size,4,1)] [.ops ra4_n1 [9,10,11,12,13,14,15,16,17],.blk 0,.code [1,1,1,1,1,1,1]] ⟨[(1,(pt w.heap.size 0)),(2,.bool false),(3,(pt z2 0)),(4,.bool (wi q.epoch 1 16777215)),(38,.bool (wi q.seq 1 16777215)),(40,i6 q.mask)],(ra4_b1 q w z2),[],z7⟩ ?_
   refine hcp (.bool (wi q.mask 1 63)) 54 [i6 q.mask,i6 1,i6 63] (some 41) [(wi q.seq 1 16777215) = true] ⟨d2,tI⟩ rfl (fun wx hm=>within_any _ _ _ wx) fun z10 hz10=>?_
   replace hz10:z7 ≤ z10:=hz10
   refine hgE 5 [oh3,oh0] [1,2,3,4,43] [eD d2] [] [.ops ra4_n1 [12,13,14,15,16,17],.blk 0,.code [1,1,1,1,1,1,1]] ⟨[(1,(pt w.heap.size 0)),(2,.bool false),(3,(pt z2 0)),(4,.bool (wi q.epoch 1 16777215)),(43,.bool (wi q.mask 1 63))],(ra4_b1 q w z2),[],z10⟩ ?_
   rcases Bool.eq_false_or_eq_true (wi q.mask 1 63) with d3 | d3
   ·skip
    refine hgE 15 [oh1,⟨true,0,[⟨false,0,8,1⟩]⟩,oh1,oh1,oh3,oh0,oh0,oh0] [2,3,115] [eD d3,eD d3,eD d3,eD d3,eD d3] [(w.heap.size,8,1)] [.ops [1,1,1,1,1,1,1,0] [2,3,4,5,6],.code ra4_n2] ⟨[(2,.bool false),(3,(pt z2 0)),(115,.bool ((q.block.size:Int) == 16))],(ra4_b1 q w z2),[],z10⟩ ?_
    rcases Bool.eq_false_or_eq_true ((q.block.size:Int) == 16) with d4 | d4
    ·skip
     refine hgE 9 [⟨true,0,[⟨false,1,0,9⟩]⟩,oh1,⟨true,1,[]⟩,oh3,oh0] [2] [eD d4,eD d4,eD d4,vV,eD d4] [(z2,0,9)] [.code ra4_n2] ⟨[(2,.bool (((q.node:Int) == 0) && ((((q.oe:Int) == 0) && (((q.os:Int) == 0) && true)) && true)))],(ra4_b1 q w z2),[],z10⟩ ?_
     refine hrt [] [.bool (((q.node:Int) == 0) && ((((q.oe:Int) == 0) && (((q.os:Int) == 0) && true)) && true))] [] ?_
     intro wx hm
     exact ⟨ret_bool (by rw [rightA_4 hk hs]; unfold askB4; rw [d1,d2,d3,d4]; rfl),hm.kept⟩
    ·skip
     refine hgE 9 [oh0,oh0,oh0,⟨false,3,[]⟩,oh0] [2] [eD d4,eD d4,eD d4,eD d4] [] [.code ra4_n2] ⟨[(2,.bool false)],(ra4_b1 q w z2),[],z10⟩ ?_
     refine hrt [] [.bool false] [] ?_
     intro wx hm
     exact ⟨ret_bool (by rw [rightA_4 hk hs]; unfold askB4; rw [d1,d2,d3,d4]; rfl),hm.kept⟩
   ·skip
    refine hgE 21 [oh0,oh0,oh0,oh0,⟨false,3,[]⟩,oh0,oh0,oh0,oh0,oh0,oh0,⟨false,3,[]⟩,oh0] [2] [eD d3,eD d3,eD d3,eD d3,eD d3,fF,fF,fF,fF] [] [.code ra4_n2] ⟨[(2,.bool false)],(ra4_b1 q w z2),[],z10⟩ ?_
    refine hrt [] [.bool false] [] ?_
    intro wx hm
    exact ⟨ret_bool (by rw [rightA_4 hk hs]; unfold askB4; rw [d1,d2,d3]; rfl),hm.kept⟩
  ·skip
   refine hgE 26 [oh0,oh0,oh0,⟨false,3,[]⟩,oh0,oh0,oh0,oh0,oh0,⟨false,3,[]⟩,oh0,oh0,oh0,oh0,oh0,oh0,⟨false,3,[]⟩,oh0] [2] [eD d2,eD d2,eD d2,eD d2,fF,fF,fF,fF,fF,fF,fF,fF,fF] [] [.code ra4_n2] ⟨[(2,.bool false)],(ra4_b1 q w z2),[],z7⟩ ?_
   refine hrt [] [.bool false] [] ?_
   intro wx hm
   exact ⟨ret_bool (by rw [rightA_4 hk hs]; unfold askB4; rw [d1,d2]; rfl),hm.kept⟩
 ·skip
  refine hgE 31 [oh0,oh0,oh0,⟨false,3,[]⟩,oh0,oh0,oh0,oh0,⟨false,3,[]⟩,oh0,oh0,oh0,oh0,oh0,⟨false,3,[]⟩,oh0,oh0,oh0,oh0,oh0,oh0,⟨false,3,[]⟩,oh0] [2] [eD d1,eD d1,eD d1,eD d1,fF,fF,fF,fF,fF,fF,fF,fF,fF,fF,fF,fF,fF] [] [.code ra4_n2] ⟨[(2,.bool false)],(ra4_b1 q w z2),[],z4⟩ ?_
  refine hrt [] [.bool false] [] ?_
  intro wx hm
  exact ⟨ret_bool (by rw [rightA_4 hk hs]; unfold askB4; rw [d1]; rfl),hm.kept⟩
def ra5_v1 (q:AskM):List Value:=(ra1_v1 q)
def ra5_v2 (q:AskM):List Value:=((ra1_v2 q).set 3 (i6 0))
def ra5_n1:List Nat:=[1,1,1,1,1,1,1,1]
@[simp] def ra5_b1 (q:AskM) (w:World) (z2:Nat):List Bk:=[⟨w.heap.size,25,true,(ra5_v1 q)⟩,⟨z2,25,true,(ra5_v2 q)⟩]
set_option maxRecDepth 100000 in
set_option maxHeartbeats 4000000 in
theorem askAny_5 (q:AskM) (hk:q.kind = 5) (hs:wi q.stripe 0 7 = true) (w:World) :
  Calls Try.prog 35 #[.agg #[.int .i64 q.kind,.int .i64 q.stripe,.int .i64 q.epoch,.int .i64 q.seq,.int .i64 q.mask,.int .i64 q.node,.int .i64 q.oe,.int .i64 q.os,.string q.block]] w (RetK (.bool (rightA q)) w):=by
 refine calls_of_holds (S:=(fun _=>False)) (l:=[.agg (List.toArray (ra5_v1 q))]) (n:=120) Try.func35 (body_of (by kernel_rfl)) rfl (by simp) (MemOk.none w _) ?_
 refine hgE 13 [oh0,oh0,oh0,(oA 0 1 1)] [1,2,6] [] [(w.heap.size,1,1)] [.ops [1,0,0] [2,3],.code [1,0,1],.code [1,1]] ⟨[(1,(pt w.heap.size 0)),(2,.bool false),(6,i6 q.stripe)],[⟨w.heap.size,25,true,(ra5_v1 q)⟩],[],w.heap.size + 1⟩ ?_
 refine hcp (.bool (wi q.stripe 0 7)) 54 [i6 q.stripe,i6 0,i6 7] (some 7) [] tI rfl (fun wx hm=>within_any _ _ _ wx) fun z2 hz2=>?_
 replace hz2:w.heap.size + 1 ≤ z2:=hz2
 refine hgE 40 [oh0,oh0,(oA 0 0 9),oh0,(oA 1 0 9),oh0,(oA 1 0 1),oh0,(oA 1 1 1),oh0,oh0,(oA 0 0 1),oh0,oh1,oh0,(oA 1 2 1),oh0,(oA 0 2 1)] [1,2,3,4,17] [eD (nF hs),oE ((q.kind != 8) = true) (by rw [hk]; rfl)] [(w.heap.size,0,9),(z2,0,9),(z2,0,1),(z2,1,1),(w.heap.size,0,1),(z2,2,1),(w.heap.size,2,1)] [.ops [1,1,1,1,1,0,1,0,1] [2,3],.code [1,1,1,1,1,1]] ⟨[(1,(pt w.heap.size 0)),(2,.bool false),(3,(pt z2 0)),(4,.bool true),(17,i6 q.epoch)],[⟨w.heap.size,25,true,(ra5_v1 q)⟩,⟨z2,25,true,[i6 0,i6 0,i6 0,i6 q.seq,i6 q.mask,i6 q.node,i6 q.oe,i6 q.os,sT q.block]⟩],[],z2 + 1⟩ ?_
 refine hcp (.bool (wi q.epoch 1 16777215)) 54 [i6 q.epoch,i6 1,i6 16777215] (some 18) [] tI rfl (fun wx hm=>within_any _ _ _ wx) fun z4 hz4=>?_
 replace hz4:z2 + 1 ≤ z4:=hz4
 refine hgE 62 [oh0,oh0,(oA 0 0 1),oh0,oh0,oh0,oh0,oh0,oh0,oh0,oh0,oh0,oh0,oh0,oh0,oh0,oh0,oh0,oh0,oh0,oh0,oh0,oh0,oh1,oh0,(oA 1 3 1),oh0,oh0] [1,2,3,4,53] [oE ((q.kind == 1) = false) (by rw [hk]; rfl),oE ((q.kind == 2) = false) (by rw [hk]; rfl),oE ((q.kind == 3) = false) (by rw [hk]; rfl),oE ((q.kind == 10) = false) (by rw [hk]; rfl),oE ((q.kind == 8) = false) (by rw [hk]; rfl),oE ((q.kind == 4) = false) (by rw [hk]; rfl),oE ((q.kind == 5) = true) (by rw [hk]; rfl)] [(w.heap.size,0,1),(z2,3,1)] [.ops [1,1,1,1,1,1,0,1,0,1,1,1,1,1,0,1] [2,3,4,5,6],.blk 0,.code [1,1,1,1,1,1,1]] ⟨[(1,(pt w.heap.size 0)),(2,.bool false),(3,(pt z2 0)),(4,.bool (wi q.epoch 1 16777215)),(53,.bool (wi q.epoch 1 16777215))],(ra5_b1 q w z2),[],z4⟩ ?_
 rcases Bool.eq_false_or_eq_true (wi q.epoch 1 16777215) with d1 | d1
 ·skip
  refine hgE 5 [oh1,⟨true,0,[⟨false,0,3,1⟩]⟩] [2,3,4,53,55] [eD d1,eD d1] [(w.heap.size,3,1)] [.ops [1,1,1,1,1,1,0,1,0,1,1,1,1,1,0,1] [4,5,6],.blk 0,.code [1,1,1,1,1,1,1]] ⟨[(2,.bool false),(3,(pt z2 0)),(4,.bool (wi q.epoch 1 16777215)),(53,.bool (wi q.epoch 1 16777215)),(55,i6 q.seq)],(ra5_b1 q w z2),[],z4⟩ ?_
  refine hcp (.bool (wi q.seq 1 16777215)) 54 [i6 q.seq,i6 1,i6 16777215] (some 56) [(wi q.epoch 1 16777215) = true] ⟨d1,tI⟩ rfl (fun wx hm=>within_any _ _ _ wx) fun z7 hz7=>?_
  replace hz7:z4 ≤ z7:=hz7
  refine hgE 11 [oh3,oh0,oh0,oh0] [2,3,115] [eD d1] [] [.ops [1,1,1,1,1,1,1,0] [2,3,4,5,6],.code ra5_n1] ⟨[(2,.bool false),(3,(pt z2 0)),(115,.bool (wi q.seq 1 16777215))],(ra5_b1 q w z2),[],z7⟩ ?_
  rcases Bool.eq_false_or_eq_true (wi q.seq 1 16777215) with d2 | d2
  ·skip
   refine hgE 9 [⟨true,0,[⟨false,1,0,9⟩]⟩,oh1,⟨true,1,[]⟩,oh3,oh0] [2] [eD d2,eD d2,eD d2,vV,eD d2] [(z2,0,9)] [.code ra5_n1] ⟨[(2,.bool (((q.mask:Int) == 0) && (((q.node:Int) == 0) && ((((q.oe:Int) == 0) && (((q.os:Int) == 0) && true)) && (((q.block:ByteArray) == ⟨#[]⟩) && true)))))],(ra5_b1 q w z2),[],z7⟩ ?_
   refine hrt [] [.bool (((q.mask:Int) == 0) && (((q.node:Int) == 0) && ((((q.oe:Int) == 0) && (((q.os:Int) == 0) && true)) && (((q.block:ByteArray) == ⟨#[]⟩) && true))))] [] ?_
   intro wx hm
   exact ⟨ret_bool (by rw [rightA_5 hk hs]; unfold askB5; rw [d1,d2]; rfl),hm.kept⟩
  ·skip
   refine hgE 9 [oh0,oh0,oh0,⟨false,3,[]⟩,oh0] [2] [eD d2,eD d2,eD d2,eD d2] [] [.code ra5_n1] ⟨[(2,.bool false)],(ra5_b1 q w z2),[],z7⟩ ?_
   refine hrt [] [.bool false] [] ?_
   intro wx hm
   exact ⟨ret_bool (by rw [rightA_5 hk hs]; unfold askB5; rw [d1,d2]; rfl),hm.kept⟩
 ·skip
  refine hgE 20 [oh0,oh0,oh0,⟨false,3,[]⟩,oh0,oh0,oh0,oh0,oh0,oh0,⟨false,3,[]⟩,oh0] [2] [eD d1,eD d1,eD d1,eD d1,fF,fF,fF,fF] [] [.code ra5_n1] ⟨[(2,.bool false)],(ra5_b1 q w z2),[],z4⟩ ?_
  refine hrt [] [.bool false] [] ?_
  intro wx hm
  exact ⟨ret_bool (by rw [rightA_5 hk hs]; unfold askB5; rw [d1]; rfl),hm.kept⟩
def ra6_v1 (q:AskM):List Value:=(ra1_v1 q)
def ra6_v2 (q:AskM):List Value:=((((ra1_v2 q).set 4 (i6 0)).set 6 (i6 0)).set 7 (i6 0))
def ra6_n1:List Nat:=[1,1,1,1,1,1,0,1,0,1,1,1,1,1,1,1,1,1,0,1]
def ra6_n2:List Nat:=[1,1,1,1,1,1,1,1]
@[simp] def ra6_b1 (q:AskM) (w:World) (z2:Nat):List Bk:=[⟨w.heap.size,25,true,(ra6_v1 q)⟩,⟨z2,25,true,(ra6_v2 q)⟩]
set_option maxRecDepth 100000 in
set_option maxHeartbeats 4000000 in
theorem askAny_6 (q:AskM) (hk:q.kind = 6) (hs:wi q.stripe 0 7 = true) (w:World) :
  Calls Try.prog 35 #[.agg #[.int .i64 q.kind,.int .i64 q.stripe,.int .i64 q.epoch,.int .i64 q.seq,.int .i64 q.mask,.int .i64 q.node,.int .i64 q.oe,.int .i64 q.os,.string q.block]] w (RetK (.bool (rightA q)) w):=by
 refine calls_of_holds (S:=(fun _=>False)) (l:=[.agg (List.toArray (ra6_v1 q))]) (n:=120) Try.func35 (body_of (by kernel_rfl)) rfl (by simp) (MemOk.none w _) ?_
 refine hgE 13 [oh0,oh0,oh0,(oA 0 1 1)] [1,2,6] [] [(w.heap.size,1,1)] [.ops [1,0,0] [2,3],.code [1,0,1],.code [1,1]] ⟨[(1,(pt w.heap.size 0)),(2,.bool false),(6,i6 q.stripe)],[⟨w.heap.size,25,true,(ra6_v1 q)⟩],[],w.heap.size + 1⟩ ?_
 refine hcp (.bool (wi q.stripe 0 7)) 54 [i6 q.stripe,i6 0,i6 7] (some 7) [] tI rfl (fun wx hm=>within_any _ _ _ wx) fun z2 hz2=>?_
 replace hz2:w.heap.size + 1 ≤ z2:=hz2
 refine hgE 40 [oh0,oh0,(oA 0 0 9),oh0,(oA 1 0 9),oh0,(oA 1 0 1),oh0,(oA 1 1 1),oh0,oh0,(oA 0 0 1),oh0,oh1,oh0,(oA 1 2 1),oh0,(oA 0 2 1)] [1,2,3,4,17] [eD (nF hs),oE ((q.kind != 8) = true) (by rw [hk]; rfl)] [(w.heap.size,0,9),(z2,0,9),(z2,0,1),(z2,1,1),(w.heap.size,0,1),(z2,2,1),(w.heap.size,2,1)] [.ops [1,1,1,1,1,0,1,0,1] [2,3],.code [1,1,1,1,1,1]] ⟨[(1,(pt w.heap.size 0)),(2,.bool false),(3,(pt z2 0)),(4,.bool true),(17,i6 q.epoch)],[⟨w.heap.size,25,true,(ra6_v1 q)⟩,⟨z2,25,true,[i6 0,i6 0,i6 0,i6 q.seq,i6 q.mask,i6 q.node,i6 q.oe,i6 q.os,sT q.block]⟩],[],z2 + 1⟩ ?_
 refine hcp (.bool (wi q.epoch 1 16777215)) 54 [i6 q.epoch,i6 1,i6 16777215] (some 18) [] tI rfl (fun wx hm=>within_any _ _ _ wx) fun z4 hz4=>?_
 replace hz4:z2 + 1 ≤ z4:=hz4
 refine hgE 77 [oh0,oh0,(oA 0 0 1),oh0,oh0,oh0,oh0,oh0,oh0,oh0,oh0,oh0,oh0,oh0,oh0,oh0,oh0,oh0,oh0,oh0,oh0,oh0,oh0,oh0,oh0,oh0,oh0,oh0,oh0,oh1,oh0,oh0,(oA 1 4 1),oh0,(oA 1 6 2),oh0,oh0] [1,2,3,4,80] [oE ((q.kind == 1) = false) (by rw [hk]; rfl),oE ((q.kind == 2) = false) (by rw [hk]; rfl),oE ((q.kind == 3) = false) (by rw [hk]; rfl),oE ((q.kind == 10) = false) (by rw [hk]; rfl),oE ((q.kind == 8) = false) (by rw [hk]; rfl),oE ((q.kind == 4) = false) (by rw [hk]; rfl),oE ((q.kind == 5) = false) (by rw [hk]; rfl),oE ((q.kind == 7) = false) (by rw [hk]; rfl),oE ((q.kind == 6) = true) (by rw [hk]; rfl)] [(w.heap.size,0,1),(z2,4,1),(z2,6,2)] [.ops ra6_n1 [2,3,4,5,6,7,8,9,10,11,12,13,14,15,16,17,18,19,20,21,22,23,24,25,26],.blk 0,.code [1,1,1,1,1,1,1]] ⟨[(1,(pt w.heap.size 0)),(2,.bool false),(3,(pt z2 0)),(4,.bool (wi q.epoch 1 16777215)),(80,.bool (wi q.epoch 1 16777215))],(ra6_b1 q w z2),[],z4⟩ ?_
 rcases Bool.eq_false_or_eq_true (wi q.epoch 1 16777215) with d1 | d1
 ·skip
  refine hgE 5 [oh1,⟨true,0,[⟨false,0,4,1⟩]⟩] [1,2,3,4,80,82] [eD d1,eD d1] [(w.heap.size,4,1)] [.ops ra6_n1 [4,5,6,7,8,9,10,11,12,13,14,15,16,17,18,19,20,21,22,23,24,25,26],.blk 0,.code [1,1,1,1,1,1,1]] ⟨[(1,(pt w.heap.size 0)),(2,.bool false),(3,(pt z2 0)),(4,.bool (wi q.epoch 1 16777215)),(80,.bool (wi q.epoch 1 16777215)),(82,i6 q.mask)],(ra6_b1 q w z2),[],z4⟩ ?_
  refine hcp (.bool (wi q.mask 0 1)) 54 [i6 q.mask,i6 0,i6 1] (some 83) [(wi q.epoch 1 16777215) = true] ⟨d1,tI⟩ rfl (fun wx hm=>within_any _ _ _ wx) fun z7 hz7=>?_
  replace hz7:z4 ≤ z7:=hz7
  refine hgE 5 [oh3,oh0] [1,2,3,4,85] [eD d1] [] [.ops ra6_n1 [7,8,9,10,11,12,13,14,15,16,17,18,19,20,21,22,23,24,25,26],.blk 0,.code [1,1,1,1,1,1,1]] ⟨[(1,(pt w.heap.size 0)),(2,.bool false),(3,(pt z2 0)),(4,.bool (wi q.epoch 1 16777215)),(85,.bool (wi q.mask 0 1))],(ra6_b1 q w z2),[],z7⟩ ?_
  rcases Bool.eq_false_or_eq_true (wi q.mask 0 1) with d2 | d2
  ·skip
   refine hgE 6 [oh1,oh1,⟨true,0,[⟨false,0,6,1⟩]⟩] [1,2,3,4,85,88] [eD d2,eD d2,eD d2] [(w.heap.size,6,1)] [.ops ra6_n1 [10,11,12,13,14,15,16,17,18,19,20,21,22,23,24,25,26],.blk 0,.code [1,1,1,1,1,1,1]] ⟨[(1,(pt w.heap.size 0)),(2,.bool false),(3,(pt z2 0)),(4,.bool (wi q.epoch 1 16777215)),(85,.bool (wi q.mask 0 1)),(88,i6 q.oe)],(ra6_b1 q w z2),[],z7⟩ ?_
   refine hcp (.bool (wi q.oe 0 16777215)) 54 [i6 q.oe,i6 0,i6 16777215] (some 89) [(wi q.mask 0 1) = true] ⟨d2,tI⟩ rfl (fun wx hm=>within_any _ _ _ wx) fun z10 hz10=>?_
   replace hz10:z7 ≤ z10:=hz10
   refine hgE 5 [oh3,oh0] [1,2,3,4,91] [eD d2] [] [.ops ra6_n1 [13,14,15,16,17,18,19,20,21,22,23,24,25,26],.blk 0,.code [1,1,1,1,1,1,1]] ⟨[(1,(pt w.heap.size 0)),(2,.bool false),(3,(pt z2 0)),(4,.bool (wi q.epoch 1 16777215)),(91,.bool (wi q.oe 0 16777215))],(ra6_b1 q w z2),[],z10⟩ ?_
   rcases Bool.eq_false_or_eq_true (wi q.oe 0 16777215) with d3 | d3
   ·skip
    refine hgE 6 [oh1,oh1,⟨true,0,[⟨false,0,7,1⟩]⟩] [1,2,3,4,91,94] [eD d3,eD d3,eD d3] [(w.heap.size,7,1)] [.ops ra6_n1 [16,17,18,19,20,21,22,23,24,25,26],.blk 0,.code [1,1,1,1,1,1,1]] ⟨[(1,(pt w.heap.size 0)),(2,.bool false),(3,(pt z2 0)),(4,.bool (wi q.epoch 1 16777215)),(91,.bool (wi q.oe 0 16777215)),(94,i6 q.os)],(ra6_b1 q w z2),[],z10⟩ ?_
    refine hcp (.bool (wi q.os 0 16777215)) 54 [i6 q.os,i6 0,i6 16777215] (some 95) [(wi q.oe 0 16777215) = true] ⟨d3,tI⟩ rfl (fun wx hm=>within_any _ _ _ wx) fun z13 hz13=>?_
    replace hz13:z10 ≤ z13:=hz13
    refine hgE 5 [oh3,oh0] [1,2,3,4,97] [eD d3] [] [.ops ra6_n1 [19,20,21,22,23,24,25,26],.blk 0,.code [1,1,1,1,1,1,1]] ⟨[(1,(pt w.heap.size 0)),(2,.bool false),(3,(pt z2 0)),(4,.bool (wi q.epoch 1 16777215)),(97,.bool (wi q.os 0 16777215))],(ra6_b1 q w z2),[],z13⟩ ?_
    rcases Bool.eq_false_or_eq_true (wi q.os 0 16777215) with d4 | d4
    ·skip
     refine hgE 17 [oh1,oh1,⟨true,0,[⟨false,0,6,1⟩]⟩,oh1,⟨true,0,[⟨false,0,2,1⟩]⟩,oh1,oh3,oh0,oh0,oh0] [2,3,115] [eD d4,eD d4,eD d4,eD d4,eD d4,eD d4,eD d4] [(w.heap.size,6,1),(w.heap.size,2,1)] [.ops [1,1,1,1,1,1,1,0] [2,3,4,5,6],.code ra6_n2] ⟨[(2,.bool false),(3,(pt z2 0)),(115,.bool (decide ((q.oe:Int) < q.epoch)))],(ra6_b1 q w z2),[],z13⟩ ?_
     rcases Bool.eq_false_or_eq_true (decide ((q.oe:Int) < q.epoch)) with d5 | d5
     ·skip
      refine hgE 9 [⟨true,0,[⟨false,1,0,9⟩]⟩,oh1,⟨true,1,[]⟩,oh3,oh0] [2] [eD d5,eD d5,eD d5,vV,eD d5] [(z2,0,9)] [.code ra6_n2] ⟨[(2,.bool (((q.seq:Int) == 0) && (((q.node:Int) == 0) && (((q.block:ByteArray) == ⟨#[]⟩) && true))))],(ra6_b1 q w z2),[],z13⟩ ?_
      refine hrt [] [.bool (((q.seq:Int) == 0) && (((q.node:Int) == 0) && (((q.block:ByteArray) == ⟨#[]⟩) && true)))] [] ?_
      intro wx hm
      exact ⟨ret_bool (by rw [rightA_6 hk hs]; unfold askB6; rw [d1,d2,d3,d4,d5]; rfl),hm.kept⟩
     ·skip
      refine hgE 9 [oh0,oh0,oh0,⟨false,3,[]⟩,oh0] [2] [eD d5,eD d5,eD d5,eD d5] [] [.code ra6_n2] ⟨[(2,.bool false)],(ra6_b1 q w z2),[],z13⟩ ?_
      refine hrt [] [.bool false] [] ?_
      intro wx hm
      exact ⟨ret_bool (by rw [rightA_6 hk hs]; unfold askB6; rw [d1,d2,d3,d4,d5]; rfl),hm.kept⟩
    ·skip
     refine hgE 23 [oh0,oh0,oh0,oh0,oh0,oh0,⟨false,3,[]⟩,oh0,oh0,oh0,oh0,oh0,oh0,⟨false,3,[]⟩,oh0] [2] [eD d4,eD d4,eD d4,eD d4,eD d4,eD d4,eD d4,fF,fF,fF,fF] [] [.code ra6_n2] ⟨[(2,.bool false)],(ra6_b1 q w z2),[],z13⟩ ?_
     refine hrt [] [.bool false] [] ?_
     intro wx hm
     exact ⟨ret_bool (by rw [rightA_6 hk hs]; unfold askB6; rw [d1,d2,d3,d4]; rfl),hm.kept⟩
   ·skip
    refine hgE 29 [oh0,oh0,oh0,oh0,⟨false,3,[]⟩,oh0,oh0,oh0,oh0,oh0,oh0,oh0,⟨false,3,[]⟩,oh0,oh0,oh0,oh0,oh0,oh0,⟨false,3,[]⟩,oh0] [2] [eD d3,eD d3,eD d3,eD d3,eD d3,fF,fF,fF,fF,fF,fF,fF,fF,fF,fF,fF] [] [.code ra6_n2] ⟨[(2,.bool false)],(ra6_b1 q w z2),[],z10⟩ ?_
    refine hrt [] [.bool false] [] ?_
    intro wx hm
    exact ⟨ret_bool (by rw [rightA_6 hk hs]; unfold askB6; rw [d1,d2,d3]; rfl),hm.kept⟩
  ·skip
   refine hgE 35 [oh0,oh0,oh0,oh0,⟨false,3,[]⟩,oh0,oh0,oh0,oh0,oh0,⟨false,3,[]⟩,oh0,oh0,oh0,oh0,oh0,oh0,oh0,⟨false,3,[]⟩,oh0,oh0,oh0,oh0,oh0,oh0,⟨false,3,[]⟩,oh0] [2] [eD d2,eD d2,eD d2,eD d2,eD d2,fF,fF,fF,fF,fF,fF,fF,fF,fF,fF,fF,fF,fF,fF,fF,fF] [] [.code ra6_n2] ⟨[(2,.bool false)],(ra6_b1 q w z2),[],z7⟩ ?_
   refine hrt [] [.bool false] [] ?_
   intro wx hm
   exact ⟨ret_bool (by rw [rightA_6 hk hs]; unfold askB6; rw [d1,d2]; rfl),hm.kept⟩
 ·skip
  refine hgE 40 [oh0,oh0,oh0,⟨false,3,[]⟩,oh0,oh0,oh0,oh0,oh0,⟨false,3,[]⟩,oh0,oh0,oh0,oh0,oh0,⟨false,3,[]⟩,oh0,oh0,oh0,oh0,oh0,oh0,oh0,⟨false,3,[]⟩,oh0,oh0,oh0,oh0,oh0,oh0,⟨false,3,[]⟩,oh0] [2] [eD d1,eD d1,eD d1,eD d1,fF,fF,fF,fF,fF,fF,fF,fF,fF,fF,fF,fF,fF,fF,fF,fF,fF,fF,fF,fF,fF] [] [.code ra6_n2] ⟨[(2,.bool false)],(ra6_b1 q w z2),[],z4⟩ ?_
  refine hrt [] [.bool false] [] ?_
  intro wx hm
  exact ⟨ret_bool (by rw [rightA_6 hk hs]; unfold askB6; rw [d1]; rfl),hm.kept⟩
def ra7_v1 (q:AskM):List Value:=(ra1_v1 q)
def ra7_v2 (q:AskM):List Value:=((ra4_v2 q).set 4 (i6 q.mask))
def ra7_n1:List Nat:=[1,1,1,1,1,1,0,1,0,1,1,1,1,1,1,1,0,1]
def ra7_n2:List Nat:=[1,1,1,1,1,1,1,1]
@[simp] def ra7_b1 (q:AskM) (w:World) (z2:Nat):List Bk:=[⟨w.heap.size,25,true,(ra7_v1 q)⟩,⟨z2,25,true,(ra7_v2 q)⟩]
set_option maxRecDepth 100000 in
set_option maxHeartbeats 4000000 in
theorem askAny_7 (q:AskM) (hk:q.kind = 7) (hs:wi q.stripe 0 7 = true) (w:World) :
  Calls Try.prog 35 #[.agg #[.int .i64 q.kind,.int .i64 q.stripe,.int .i64 q.epoch,.int .i64 q.seq,.int .i64 q.mask,.int .i64 q.node,.int .i64 q.oe,.int .i64 q.os,.string q.block]] w (RetK (.bool (rightA q)) w):=by
 refine calls_of_holds (S:=(fun _=>False)) (l:=[.agg (List.toArray (ra7_v1 q))]) (n:=120) Try.func35 (body_of (by kernel_rfl)) rfl (by simp) (MemOk.none w _) ?_
 refine hgE 13 [oh0,oh0,oh0,(oA 0 1 1)] [1,2,6] [] [(w.heap.size,1,1)] [.ops [1,0,0] [2,3],.code [1,0,1],.code [1,1]] ⟨[(1,(pt w.heap.size 0)),(2,.bool false),(6,i6 q.stripe)],[⟨w.heap.size,25,true,(ra7_v1 q)⟩],[],w.heap.size + 1⟩ ?_
 refine hcp (.bool (wi q.stripe 0 7)) 54 [i6 q.stripe,i6 0,i6 7] (some 7) [] tI rfl (fun wx hm=>within_any _ _ _ wx) fun z2 hz2=>?_
 replace hz2:w.heap.size + 1 ≤ z2:=hz2
 refine hgE 40 [oh0,oh0,(oA 0 0 9),oh0,(oA 1 0 9),oh0,(oA 1 0 1),oh0,(oA 1 1 1),oh0,oh0,(oA 0 0 1),oh0,oh1,oh0,(oA 1 2 1),oh0,(oA 0 2 1)] [1,2,3,4,17] [eD (nF hs),oE ((q.kind != 8) = true) (by rw [hk]; rfl)] [(w.heap.size,0,9),(z2,0,9),(z2,0,1),(z2,1,1),(w.heap.size,0,1),(z2,2,1),(w.heap.size,2,1)] [.ops [1,1,1,1,1,0,1,0,1] [2,3],.code [1,1,1,1,1,1]] ⟨[(1,(pt w.heap.size 0)),(2,.bool false),(3,(pt z2 0)),(4,.bool true),(17,i6 q.epoch)],[⟨w.heap.size,25,true,(ra7_v1 q)⟩,⟨z2,25,true,[i6 0,i6 0,i6 0,i6 q.seq,i6 q.mask,i6 q.node,i6 q.oe,i6 q.os,sT q.block]⟩],[],z2 + 1⟩ ?_
 refine hcp (.bool (wi q.epoch 1 16777215)) 54 [i6 q.epoch,i6 1,i6 16777215] (some 18) [] tI rfl (fun wx hm=>within_any _ _ _ wx) fun z4 hz4=>?_
 replace hz4:z2 + 1 ≤ z4:=hz4
 refine hgE 70 [oh0,oh0,(oA 0 0 1),oh0,oh0,oh0,oh0,oh0,oh0,oh0,oh0,oh0,oh0,oh0,oh0,oh0,oh0,oh0,oh0,oh0,oh0,oh0,oh0,oh0,oh0,oh0,oh1,oh0,(oA 1 3 1),oh0,(oA 1 8 1),oh0,oh0] [1,2,3,4,63] [oE ((q.kind == 1) = false) (by rw [hk]; rfl),oE ((q.kind == 2) = false) (by rw [hk]; rfl),oE ((q.kind == 3) = false) (by rw [hk]; rfl),oE ((q.kind == 10) = false) (by rw [hk]; rfl),oE ((q.kind == 8) = false) (by rw [hk]; rfl),oE ((q.kind == 4) = false) (by rw [hk]; rfl),oE ((q.kind == 5) = false) (by rw [hk]; rfl),oE ((q.kind == 7) = true) (by rw [hk]; rfl)] [(w.heap.size,0,1),(z2,3,1),(z2,8,1)] [.ops ra7_n1 [2,3,4,5,6,7,8,9,10,11,12],.blk 0,.code [1,1,1,1,1,1,1]] ⟨[(1,(pt w.heap.size 0)),(2,.bool false),(3,(pt z2 0)),(4,.bool (wi q.epoch 1 16777215)),(63,.bool (wi q.epoch 1 16777215))],(ra7_b1 q w z2),[],z4⟩ ?_
 rcases Bool.eq_false_or_eq_true (wi q.epoch 1 16777215) with d1 | d1
 ·skip
  refine hgE 5 [oh1,⟨true,0,[⟨false,0,3,1⟩]⟩] [1,2,3,4,63,65] [eD d1,eD d1] [(w.heap.size,3,1)] [.ops ra7_n1 [4,5,6,7,8,9,10,11,12],.blk 0,.code [1,1,1,1,1,1,1]] ⟨[(1,(pt w.heap.size 0)),(2,.bool false),(3,(pt z2 0)),(4,.bool (wi q.epoch 1 16777215)),(63,.bool (wi q.epoch 1 16777215)),(65,i6 q.seq)],(ra7_b1 q w z2),[],z4⟩ ?_
  refine hcp (.bool (wi q.seq 1 16777215)) 54 [i6 q.seq,i6 1,i6 16777215] (some 66) [(wi q.epoch 1 16777215) = true] ⟨d1,tI⟩ rfl (fun wx hm=>within_any _ _ _ wx) fun z7 hz7=>?_
  replace hz7:z4 ≤ z7:=hz7
  refine hgE 5 [oh3,oh0] [1,2,3,4,68] [eD d1] [] [.ops ra7_n1 [7,8,9,10,11,12],.blk 0,.code [1,1,1,1,1,1,1]] ⟨[(1,(pt w.heap.size 0)),(2,.bool false),(3,(pt z2 0)),(4,.bool (wi q.epoch 1 16777215)),(68,.bool (wi q.seq 1 16777215))],(ra7_b1 q w z2),[],z7⟩ ?_
  rcases Bool.eq_false_or_eq_true (wi q.seq 1 16777215) with d2 | d2
  ·skip
   refine hgE 15 [oh1,⟨true,0,[⟨false,0,8,1⟩]⟩,oh1,oh1,oh3,oh0,oh0,oh0] [2,3,115] [eD d2,eD d2,eD d2,eD d2,eD d2] [(w.heap.size,8,1)] [.ops [1,1,1,1,1,1,1,0] [2,3,4,5,6],.code ra7_n2] ⟨[(2,.bool false),(3,(pt z2 0)),(115,.bool ((q.block.size:Int) == 16))],(ra7_b1 q w z2),[],z7⟩ ?_
   rcases Bool.eq_false_or_eq_true ((q.block.size:Int) == 16) with d3 | d3
   ·skip
    refine hgE 9 [⟨true,0,[⟨false,1,0,9⟩]⟩,oh1,⟨true,1,[]⟩,oh3,oh0] [2] [eD d3,eD d3,eD d3,vV,eD d3] [(z2,0,9)] [.code ra7_n2] ⟨[(2,.bool (((q.mask:Int) == 0) && (((q.node:Int) == 0) && ((((q.oe:Int) == 0) && (((q.os:Int) == 0) && true)) && true))))],(ra7_b1 q w z2),[],z7⟩ ?_
    refine hrt [] [.bool (((q.mask:Int) == 0) && (((q.node:Int) == 0) && ((((q.oe:Int) == 0) && (((q.os:Int) == 0) && true)) && true)))] [] ?_
    intro wx hm
    exact ⟨ret_bool (by rw [rightA_7 hk hs]; unfold askB7; rw [d1,d2,d3]; rfl),hm.kept⟩
   ·skip
    refine hgE 9 [oh0,oh0,oh0,⟨false,3,[]⟩,oh0] [2] [eD d3,eD d3,eD d3,eD d3] [] [.code ra7_n2] ⟨[(2,.bool false)],(ra7_b1 q w z2),[],z7⟩ ?_
    refine hrt [] [.bool false] [] ?_
    intro wx hm
    exact ⟨ret_bool (by rw [rightA_7 hk hs]; unfold askB7; rw [d1,d2,d3]; rfl),hm.kept⟩
  ·skip
   refine hgE 21 [oh0,oh0,oh0,oh0,⟨false,3,[]⟩,oh0,oh0,oh0,oh0,oh0,oh0,⟨false,3,[]⟩,oh0] [2] [eD d2,eD d2,eD d2,eD d2,eD d2,fF,fF,fF,fF] [] [.code ra7_n2] ⟨[(2,.bool false)],(ra7_b1 q w z2),[],z7⟩ ?_
   refine hrt [] [.bool false] [] ?_
   intro wx hm
   exact ⟨ret_bool (by rw [rightA_7 hk hs]; unfold askB7; rw [d1,d2]; rfl),hm.kept⟩
 ·skip
  refine hgE 26 [oh0,oh0,oh0,⟨false,3,[]⟩,oh0,oh0,oh0,oh0,oh0,⟨false,3,[]⟩,oh0,oh0,oh0,oh0,oh0,oh0,⟨false,3,[]⟩,oh0] [2] [eD d1,eD d1,eD d1,eD d1,fF,fF,fF,fF,fF,fF,fF,fF,fF] [] [.code ra7_n2] ⟨[(2,.bool false)],(ra7_b1 q w z2),[],z4⟩ ?_
  refine hrt [] [.bool false] [] ?_
  intro wx hm
  exact ⟨ret_bool (by rw [rightA_7 hk hs]; unfold askB7; rw [d1]; rfl),hm.kept⟩
def ra8_v1 (q:AskM):List Value:=(ra1_v1 q)
set_option maxRecDepth 100000 in
set_option maxHeartbeats 4000000 in
theorem askAny_8 (q:AskM) (hk:q.kind = 8) (hs:wi q.stripe 0 7 = true) (w:World) :
  Calls Try.prog 35 #[.agg #[.int .i64 q.kind,.int .i64 q.stripe,.int .i64 q.epoch,.int .i64 q.seq,.int .i64 q.mask,.int .i64 q.node,.int .i64 q.oe,.int .i64 q.os,.string q.block]] w (RetK (.bool (rightA q)) w):=by
 refine calls_of_holds (S:=(fun _=>False)) (l:=[.agg (List.toArray (ra8_v1 q))]) (n:=120) Try.func35 (body_of (by kernel_rfl)) rfl (by simp) (MemOk.none w _) ?_
 refine hgE 13 [oh0,oh0,oh0,(oA 0 1 1)] [1,2,6] [] [(w.heap.size,1,1)] [.ops [1,0,0] [2,3],.code [1,0,1],.code [1,1]] ⟨[(1,(pt w.heap.size 0)),(2,.bool false),(6,i6 q.stripe)],[⟨w.heap.size,25,true,(ra8_v1 q)⟩],[],w.heap.size + 1⟩ ?_
 refine hcp (.bool (wi q.stripe 0 7)) 54 [i6 q.stripe,i6 0,i6 7] (some 7) [] tI rfl (fun wx hm=>within_any _ _ _ wx) fun z2 hz2=>?_
 replace hz2:w.heap.size + 1 ≤ z2:=hz2
 refine hgE 82 [oh0,oh0,(oA 0 0 9),oh0,(oA 1 0 9),oh0,(oA 1 0 1),oh0,(oA 1 1 1),oh0,oh0,(oA 0 0 1),oh0,oh0,oh0,(oA 0 0 1),oh0,oh0,oh0,oh0,oh0,oh0,oh0,oh0,oh0,oh0,oh0,oh0,oh0,oh0,oh1,oh0,oh0,⟨true,0,[⟨false,1,0,9⟩]⟩,oh1,⟨true,1,[]⟩,oh3,oh0] [2] [eD (nF hs),oE ((q.kind != 8) = false) (by rw [hk]; rfl),oE ((q.kind == 1) = false) (by rw [hk]; rfl),oE ((q.kind == 2) = false) (by rw [hk]; rfl),oE ((q.kind == 3) = false) (by rw [hk]; rfl),oE ((q.kind == 10) = false) (by rw [hk]; rfl),oE ((q.kind == 8) = true) (by rw [hk]; rfl),tT,tT,tT,vV,tT] [(w.heap.size,0,9),(z2,0,9),(z2,0,1),(z2,1,1),(w.heap.size,0,1),(w.heap.size,0,1),(z2,0,9)] [.code [1,1,1,1,1,1,1,1]] ⟨[(2,.bool (((q.epoch:Int) == 0) && (((q.seq:Int) == 0) && (((q.mask:Int) == 0) && (((q.node:Int) == 0) && ((((q.oe:Int) == 0) && (((q.os:Int) == 0) && true)) && (((q.block:ByteArray) == ⟨#[]⟩) && true)))))))],[⟨w.heap.size,25,true,(ra8_v1 q)⟩,⟨z2,25,true,[i6 0,i6 0,i6 q.epoch,i6 q.seq,i6 q.mask,i6 q.node,i6 q.oe,i6 q.os,sT q.block]⟩],[],z2 + 1⟩ ?_
 refine hrt [] [.bool (((q.epoch:Int) == 0) && (((q.seq:Int) == 0) && (((q.mask:Int) == 0) && (((q.node:Int) == 0) && ((((q.oe:Int) == 0) && (((q.os:Int) == 0) && true)) && (((q.block:ByteArray) == ⟨#[]⟩) && true))))))] [] ?_
 intro wx hm
 exact ⟨ret_bool (by rw [rightA_8 hk hs]; unfold askB8; rfl),hm.kept⟩
def ra9_v1 (q:AskM):List Value:=(ra1_v1 q)
def ra9_v2 (q:AskM):List Value:=((ra1_v2 q).set 5 (i6 0))
def ra9_n1:List Nat:=[1,1,1,1,1,1,0,1,0,1,1,1,1,1,1,1,1,1,1,1,0,1]
def ra9_n2:List Nat:=[1,1,1,1,1,1,1,1]
@[simp] def ra9_b1 (q:AskM) (w:World) (z2:Nat):List Bk:=[⟨w.heap.size,25,true,(ra9_v1 q)⟩,⟨z2,25,true,(ra9_v2 q)⟩]
set_option maxRecDepth 100000 in
set_option maxHeartbeats 4000000 in
theorem askAny_9 (q:AskM) (hk:q.kind = 9) (hs:wi q.stripe 0 7 = true) (w:World) :
  Calls Try.prog 35 #[.agg #[.int .i64 q.kind,.int .i64 q.stripe,.int .i64 q.epoch,.int .i64 q.seq,.int .i64 q.mask,.int .i64 q.node,.int .i64 q.oe,.int .i64 q.os,.string q.block]] w (RetK (.bool (rightA q)) w):=by
 refine calls_of_holds (S:=(fun _=>False)) (l:=[.agg (List.toArray (ra9_v1 q))]) (n:=120) Try.func35 (body_of (by kernel_rfl)) rfl (by simp) (MemOk.none w _) ?_
 refine hgE 13 [oh0,oh0,oh0,(oA 0 1 1)] [1,2,6] [] [(w.heap.size,1,1)] [.ops [1,0,0] [2,3],.code [1,0,1],.code [1,1]] ⟨[(1,(pt w.heap.size 0)),(2,.bool false),(6,i6 q.stripe)],[⟨w.heap.size,25,true,(ra9_v1 q)⟩],[],w.heap.size + 1⟩ ?_
 refine hcp (.bool (wi q.stripe 0 7)) 54 [i6 q.stripe,i6 0,i6 7] (some 7) [] tI rfl (fun wx hm=>within_any _ _ _ wx) fun z2 hz2=>?_
 replace hz2:w.heap.size + 1 ≤ z2:=hz2
 refine hgE 40 [oh0,oh0,(oA 0 0 9),oh0,(oA 1 0 9),oh0,(oA 1 0 1),oh0,(oA 1 1 1),oh0,oh0,(oA 0 0 1),oh0,oh1,oh0,(oA 1 2 1),oh0,(oA 0 2 1)] [1,2,3,4,17] [eD (nF hs),oE ((q.kind != 8) = true) (by rw [hk]; rfl)] [(w.heap.size,0,9),(z2,0,9),(z2,0,1),(z2,1,1),(w.heap.size,0,1),(z2,2,1),(w.heap.size,2,1)] [.ops [1,1,1,1,1,0,1,0,1] [2,3],.code [1,1,1,1,1,1]] ⟨[(1,(pt w.heap.size 0)),(2,.bool false),(3,(pt z2 0)),(4,.bool true),(17,i6 q.epoch)],[⟨w.heap.size,25,true,(ra9_v1 q)⟩,⟨z2,25,true,[i6 0,i6 0,i6 0,i6 q.seq,i6 q.mask,i6 q.node,i6 q.oe,i6 q.os,sT q.block]⟩],[],z2 + 1⟩ ?_
 refine hcp (.bool (wi q.epoch 1 16777215)) 54 [i6 q.epoch,i6 1,i6 16777215] (some 18) [] tI rfl (fun wx hm=>within_any _ _ _ wx) fun z4 hz4=>?_
 replace hz4:z2 + 1 ≤ z4:=hz4
 refine hgE 80 [oh0,oh0,(oA 0 0 1),oh0,oh0,oh0,oh0,oh0,oh0,oh0,oh0,oh0,oh0,oh0,oh0,oh0,oh0,oh0,oh0,oh0,oh0,oh0,oh0,oh0,oh0,oh0,oh0,oh0,oh0,oh0,oh0,oh0,oh1,oh0,(oA 1 5 1),oh0,oh0] [1,2,3,4,109] [oE ((q.kind == 1) = false) (by rw [hk]; rfl),oE ((q.kind == 2) = false) (by rw [hk]; rfl),oE ((q.kind == 3) = false) (by rw [hk]; rfl),oE ((q.kind == 10) = false) (by rw [hk]; rfl),oE ((q.kind == 8) = false) (by rw [hk]; rfl),oE ((q.kind == 4) = false) (by rw [hk]; rfl),oE ((q.kind == 5) = false) (by rw [hk]; rfl),oE ((q.kind == 7) = false) (by rw [hk]; rfl),oE ((q.kind == 6) = false) (by rw [hk]; rfl),oE ((q.kind == 9) = true) (by rw [hk]; rfl)] [(w.heap.size,0,1),(z2,5,1)] [.ops ra9_n1 [2,3,4,5,6],.blk 0,.code [1,1,1,1,1,1,1]] ⟨[(1,(pt w.heap.size 0)),(2,.bool false),(3,(pt z2 0)),(4,.bool (wi q.epoch 1 16777215)),(109,.bool (wi q.epoch 1 16777215))],(ra9_b1 q w z2),[],z4⟩ ?_
 rcases Bool.eq_false_or_eq_true (wi q.epoch 1 16777215) with d1 | d1
 ·skip
  refine hgE 5 [oh1,⟨true,0,[⟨false,0,5,1⟩]⟩] [2,3,4,109,111] [eD d1,eD d1] [(w.heap.size,5,1)] [.ops ra9_n1 [4,5,6],.blk 0,.code [1,1,1,1,1,1,1]] ⟨[(2,.bool false),(3,(pt z2 0)),(4,.bool (wi q.epoch 1 16777215)),(109,.bool (wi q.epoch 1 16777215)),(111,i6 q.node)],(ra9_b1 q w z2),[],z4⟩ ?_
  refine hcp (.bool (wi q.node 0 5)) 54 [i6 q.node,i6 0,i6 5] (some 112) [(wi q.epoch 1 16777215) = true] ⟨d1,tI⟩ rfl (fun wx hm=>within_any _ _ _ wx) fun z7 hz7=>?_
  replace hz7:z4 ≤ z7:=hz7
  refine hgE 11 [oh3,oh0,oh0,oh0] [2,3,115] [eD d1] [] [.ops [1,1,1,1,1,1,1,0] [2,3,4,5,6],.code ra9_n2] ⟨[(2,.bool false),(3,(pt z2 0)),(115,.bool (wi q.node 0 5))],(ra9_b1 q w z2),[],z7⟩ ?_
  rcases Bool.eq_false_or_eq_true (wi q.node 0 5) with d2 | d2
  ·skip
   refine hgE 9 [⟨true,0,[⟨false,1,0,9⟩]⟩,oh1,⟨true,1,[]⟩,oh3,oh0] [2] [eD d2,eD d2,eD d2,vV,eD d2] [(z2,0,9)] [.code ra9_n2] ⟨[(2,.bool (((q.seq:Int) == 0) && (((q.mask:Int) == 0) && ((((q.oe:Int) == 0) && (((q.os:Int) == 0) && true)) && (((q.block:ByteArray) == ⟨#[]⟩) && true)))))],(ra9_b1 q w z2),[],z7⟩ ?_
   refine hrt [] [.bool (((q.seq:Int) == 0) && (((q.mask:Int) == 0) && ((((q.oe:Int) == 0) && (((q.os:Int) == 0) && true)) && (((q.block:ByteArray) == ⟨#[]⟩) && true))))] [] ?_
   intro wx hm
   exact ⟨ret_bool (by rw [rightA_9 hk hs]; unfold askB9; rw [d1,d2]; rfl),hm.kept⟩
  ·skip
   refine hgE 9 [oh0,oh0,oh0,⟨false,3,[]⟩,oh0] [2] [eD d2,eD d2,eD d2,eD d2] [] [.code ra9_n2] ⟨[(2,.bool false)],(ra9_b1 q w z2),[],z7⟩ ?_
   refine hrt [] [.bool false] [] ?_
   intro wx hm
   exact ⟨ret_bool (by rw [rightA_9 hk hs]; unfold askB9; rw [d1,d2]; rfl),hm.kept⟩
 ·skip
  refine hgE 20 [oh0,oh0,oh0,⟨false,3,[]⟩,oh0,oh0,oh0,oh0,oh0,oh0,⟨false,3,[]⟩,oh0] [2] [eD d1,eD d1,eD d1,eD d1,fF,fF,fF,fF] [] [.code ra9_n2] ⟨[(2,.bool false)],(ra9_b1 q w z2),[],z4⟩ ?_
  refine hrt [] [.bool false] [] ?_
  intro wx hm
  exact ⟨ret_bool (by rw [rightA_9 hk hs]; unfold askB9; rw [d1]; rfl),hm.kept⟩
def ra10_v1 (q:AskM):List Value:=(ra1_v1 q)
def ra10_v2 (q:AskM):List Value:=(ra1_v2 q)
@[simp] def ra10_b1 (q:AskM) (w:World) (z2:Nat):List Bk:=[⟨w.heap.size,25,true,(ra10_v1 q)⟩,⟨z2,25,true,(ra10_v2 q)⟩]
set_option maxRecDepth 100000 in
set_option maxHeartbeats 4000000 in
theorem askAny_10 (q:AskM) (hk:q.kind = 10) (hs:wi q.stripe 0 7 = true) (w:World) :
  Calls Try.prog 35 #[.agg #[.int .i64 q.kind,.int .i64 q.stripe,.int .i64 q.epoch,.int .i64 q.seq,.int .i64 q.mask,.int .i64 q.node,.int .i64 q.oe,.int .i64 q.os,.string q.block]] w (RetK (.bool (rightA q)) w):=by
 refine calls_of_holds (S:=(fun _=>False)) (l:=[.agg (List.toArray (ra10_v1 q))]) (n:=120) Try.func35 (body_of (by kernel_rfl)) rfl (by simp) (MemOk.none w _) ?_
 refine hgE 13 [oh0,oh0,oh0,(oA 0 1 1)] [1,2,6] [] [(w.heap.size,1,1)] [.ops [1,0,0] [2,3],.code [1,0,1],.code [1,1]] ⟨[(1,(pt w.heap.size 0)),(2,.bool false),(6,i6 q.stripe)],[⟨w.heap.size,25,true,(ra10_v1 q)⟩],[],w.heap.size + 1⟩ ?_
 refine hcp (.bool (wi q.stripe 0 7)) 54 [i6 q.stripe,i6 0,i6 7] (some 7) [] tI rfl (fun wx hm=>within_any _ _ _ wx) fun z2 hz2=>?_
 replace hz2:w.heap.size + 1 ≤ z2:=hz2
 refine hgE 40 [oh0,oh0,(oA 0 0 9),oh0,(oA 1 0 9),oh0,(oA 1 0 1),oh0,(oA 1 1 1),oh0,oh0,(oA 0 0 1),oh0,oh1,oh0,(oA 1 2 1),oh0,(oA 0 2 1)] [1,2,3,4,17] [eD (nF hs),oE ((q.kind != 8) = true) (by rw [hk]; rfl)] [(w.heap.size,0,9),(z2,0,9),(z2,0,1),(z2,1,1),(w.heap.size,0,1),(z2,2,1),(w.heap.size,2,1)] [.ops [1,1,1,1,1,0,1,0,1] [2,3],.code [1,1,1,1,1,1]] ⟨[(1,(pt w.heap.size 0)),(2,.bool false),(3,(pt z2 0)),(4,.bool true),(17,i6 q.epoch)],(ra10_b1 q w z2),[],z2 + 1⟩ ?_
 refine hcp (.bool (wi q.epoch 1 16777215)) 54 [i6 q.epoch,i6 1,i6 16777215] (some 18) [] tI rfl (fun wx hm=>within_any _ _ _ wx) fun z4 hz4=>?_
 replace hz4:z2 + 1 ≤ z4:=hz4
 refine hgE 45 [oh0,oh0,(oA 0 0 1),oh0,oh0,oh0,oh0,oh0,oh0,oh0,oh0,oh0,oh0,oh0,oh1,oh1,oh0,oh0] [2,3,115] [oE ((q.kind == 1) = false) (by rw [hk]; rfl),oE ((q.kind == 2) = false) (by rw [hk]; rfl),oE ((q.kind == 3) = false) (by rw [hk]; rfl),oE ((q.kind == 10) = true) (by rw [hk]; rfl),oE ((q.kind == 10) = true) (by rw [hk]; rfl)] [(w.heap.size,0,1)] [.ops [1,1,1,1,1,1,1,0] [2,3,4,5,6],.code [1,1,1,1,1,1,1,1]] ⟨[(2,.bool false),(3,(pt z2 0)),(115,.bool (wi q.epoch 1 16777215))],(ra10_b1 q w z2),[],z4⟩ ?_
 rcases Bool.eq_false_or_eq_true (wi q.epoch 1 16777215) with d1 | d1
 ·skip
  refine hgE 9 [⟨true,0,[⟨false,1,0,9⟩]⟩,oh1,⟨true,1,[]⟩,oh3,oh0] [2] [eD d1,eD d1,eD d1,vV,eD d1] [(z2,0,9)] [.code [1,1,1,1,1,1,1,1]] ⟨[(2,.bool (((q.seq:Int) == 0) && (((q.mask:Int) == 0) && (((q.node:Int) == 0) && ((((q.oe:Int) == 0) && (((q.os:Int) == 0) && true)) && (((q.block:ByteArray) == ⟨#[]⟩) && true))))))],(ra10_b1 q w z2),[],z4⟩ ?_
  refine hrt [] [.bool (((q.seq:Int) == 0) && (((q.mask:Int) == 0) && (((q.node:Int) == 0) && ((((q.oe:Int) == 0) && (((q.os:Int) == 0) && true)) && (((q.block:ByteArray) == ⟨#[]⟩) && true)))))] [] ?_
  intro wx hm
  exact ⟨ret_bool (by rw [rightA_10 hk hs]; unfold askB10; rw [d1]; rfl),hm.kept⟩
 ·skip
  refine hgE 9 [oh0,oh0,oh0,⟨false,3,[]⟩,oh0] [2] [eD d1,eD d1,eD d1,eD d1] [] [.code [1,1,1,1,1,1,1,1]] ⟨[(2,.bool false)],(ra10_b1 q w z2),[],z4⟩ ?_
  refine hrt [] [.bool false] [] ?_
  intro wx hm
  exact ⟨ret_bool (by rw [rightA_10 hk hs]; unfold askB10; rw [d1]; rfl),hm.kept⟩
def ra0_v1 (q:AskM):List Value:=(ra1_v1 q)
def ra0_v2 (q:AskM):List Value:=(ra1_v2 q)
set_option maxRecDepth 100000 in
set_option maxHeartbeats 4000000 in
theorem askAny_0 (q:AskM) (hk:q.kind < 1 ∨ 10 < q.kind) (hs:wi q.stripe 0 7 = true) (w:World) :
  Calls Try.prog 35 #[.agg #[.int .i64 q.kind,.int .i64 q.stripe,.int .i64 q.epoch,.int .i64 q.seq,.int .i64 q.mask,.int .i64 q.node,.int .i64 q.oe,.int .i64 q.os,.string q.block]] w (RetK (.bool (rightA q)) w):=by
 refine calls_of_holds (S:=(fun _=>False)) (l:=[.agg (List.toArray (ra0_v1 q))]) (n:=120) Try.func35 (body_of (by kernel_rfl)) rfl (by simp) (MemOk.none w _) ?_
 refine hgE 13 [oh0,oh0,oh0,(oA 0 1 1)] [1,2,6] [] [(w.heap.size,1,1)] [.ops [1,0,0] [2,3],.code [1,0,1],.code [1,1]] ⟨[(1,(pt w.heap.size 0)),(2,.bool false),(6,i6 q.stripe)],[⟨w.heap.size,25,true,(ra0_v1 q)⟩],[],w.heap.size + 1⟩ ?_
 refine hcp (.bool (wi q.stripe 0 7)) 54 [i6 q.stripe,i6 0,i6 7] (some 7) [] tI rfl (fun wx hm=>within_any _ _ _ wx) fun z2 hz2=>?_
 replace hz2:w.heap.size + 1 ≤ z2:=hz2
 refine hgE 40 [oh0,oh0,(oA 0 0 9),oh0,(oA 1 0 9),oh0,(oA 1 0 1),oh0,(oA 1 1 1),oh0,oh0,(oA 0 0 1),oh0,oh1,oh0,(oA 1 2 1),oh0,(oA 0 2 1)] [1,2,3,4,17] [eD (nF hs),oE ((q.kind != 8) = true) (bne_iff_ne.2 (by omega))] [(w.heap.size,0,9),(z2,0,9),(z2,0,1),(z2,1,1),(w.heap.size,0,1),(z2,2,1),(w.heap.size,2,1)] [.ops [1,1,1,1,1,0,1,0,1] [2,3],.code [1,1,1,1,1,1]] ⟨[(1,(pt w.heap.size 0)),(2,.bool false),(3,(pt z2 0)),(4,.bool true),(17,i6 q.epoch)],[⟨w.heap.size,25,true,(ra0_v1 q)⟩,⟨z2,25,true,(ra0_v2 q)⟩],[],z2 + 1⟩ ?_
 refine hcp (.bool (wi q.epoch 1 16777215)) 54 [i6 q.epoch,i6 1,i6 16777215] (some 18) [] tI rfl (fun wx hm=>within_any _ _ _ wx) fun z4 hz4=>?_
 replace hz4:z2 + 1 ≤ z4:=hz4
 refine hgE 76 [oh0,oh0,(oA 0 0 1),oh0,oh0,oh0,oh0,oh0,oh0,oh0,oh0,oh0,oh0,oh0,oh0,oh0,oh0,oh0,oh0,oh0,oh0,oh0,oh0,oh0,oh0,oh0,oh0,oh0,oh0,oh0,oh0,oh0,oh0,oh0] [2,3,4] [oE ((q.kind == 1) = false) (beq_eq_false_iff_ne.2 (by omega)),oE ((q.kind == 2) = false) (beq_eq_false_iff_ne.2 (by omega)),oE ((q.kind == 3) = false) (beq_eq_false_iff_ne.2 (by omega)),oE ((q.kind == 10) = false) (beq_eq_false_iff_ne.2 (by omega)),oE ((q.kind == 8) = false) (beq_eq_false_iff_ne.2 (by omega)),oE ((q.kind == 4) = false) (beq_eq_false_iff_ne.2 (by omega)),oE ((q.kind == 5) = false) (beq_eq_false_iff_ne.2 (by omega)),oE ((q.kind == 7) = false) (beq_eq_false_iff_ne.2 (by omega)),oE ((q.kind == 6) = false) (beq_eq_false_iff_ne.2 (by omega)),oE ((q.kind == 9) = false) (beq_eq_false_iff_ne.2 (by omega))] [(w.heap.size,0,1)] [.code [1,1,1,1,1,1,0,1,0,1,1,1,1,1,1,1,1,1,1,1,1,1],.blk 0,.code [1,1,1,1,1,1,1]] ⟨[(2,.bool false),(3,(pt z2 0)),(4,.bool (wi q.epoch 1 16777215))],[⟨w.heap.size,25,true,(ra0_v1 q)⟩,⟨z2,25,true,(ra0_v2 q)⟩],[],z4⟩ ?_
 refine hrt [] [.bool false] [] ?_
 intro wx hm
 exact ⟨ret_bool (by unfold rightA; rw [hs,beq_eq_false_iff_ne.2 (show (q.kind:Int) ≠ 1 by omega),beq_eq_false_iff_ne.2 (show (q.kind:Int) ≠ 2 by omega),beq_eq_false_iff_ne.2 (show (q.kind:Int) ≠ 3 by omega),beq_eq_false_iff_ne.2 (show (q.kind:Int) ≠ 4 by omega),beq_eq_false_iff_ne.2 (show (q.kind:Int) ≠ 5 by omega),beq_eq_false_iff_ne.2 (show (q.kind:Int) ≠ 6 by omega),beq_eq_false_iff_ne.2 (show (q.kind:Int) ≠ 7 by omega),beq_eq_false_iff_ne.2 (show (q.kind:Int) ≠ 8 by omega),beq_eq_false_iff_ne.2 (show (q.kind:Int) ≠ 9 by omega),beq_eq_false_iff_ne.2 (show (q.kind:Int) ≠ 10 by omega)]; rfl),hm.kept⟩
def ras_v1 (q:AskM):List Value:=(ra1_v1 q)
set_option maxRecDepth 100000 in
set_option maxHeartbeats 4000000 in
theorem askAny_s (q:AskM) (hs:wi q.stripe 0 7 = false) (w:World) :
  Calls Try.prog 35 #[.agg #[.int .i64 q.kind,.int .i64 q.stripe,.int .i64 q.epoch,.int .i64 q.seq,.int .i64 q.mask,.int .i64 q.node,.int .i64 q.oe,.int .i64 q.os,.string q.block]] w (RetK (.bool (rightA q)) w):=by
 refine calls_of_holds (S:=(fun _=>False)) (l:=[.agg (List.toArray (ras_v1 q))]) (n:=120) Try.func35 (body_of (by kernel_rfl)) rfl (by simp) (MemOk.none w _) ?_
 refine hgE 13 [oh0,oh0,oh0,(oA 0 1 1)] [1,2,6] [] [(w.heap.size,1,1)] [.ops [1,0,0] [2,3],.code [1,0,1],.code [1,1]] ⟨[(1,(pt w.heap.size 0)),(2,.bool false),(6,i6 q.stripe)],[⟨w.heap.size,25,true,(ras_v1 q)⟩],[],w.heap.size + 1⟩ ?_
 refine hcp (.bool (wi q.stripe 0 7)) 54 [i6 q.stripe,i6 0,i6 7] (some 7) [] tI rfl (fun wx hm=>within_any _ _ _ wx) fun z2 hz2=>?_
 replace hz2:w.heap.size + 1 ≤ z2:=hz2
 refine hgE 10 [oh0,oh1,oh0] [1,2] [eD (nT hs)] [] [.code [1,0,1,0,1],.code [1,1]] ⟨[(1,(pt w.heap.size 0)),(2,.bool false)],[⟨w.heap.size,25,true,(ras_v1 q)⟩],[],z2⟩ ?_
 refine hrt [] [.bool false] [] ?_
 intro wx hm
 exact ⟨ret_bool (by unfold rightA; rw [hs]; rfl),hm.kept⟩
theorem askAny (q:AskM) (w:World):Calls Try.prog 35 #[.agg #[.int .i64 q.kind,.int .i64 q.stripe,.int .i64 q.epoch,.int .i64 q.seq,.int .i64 q.mask,.int .i64 q.node,.int .i64 q.oe,.int .i64 q.os,.string q.block]] w (RetK (.bool (rightA q)) w):=by
 cases hs:wi q.stripe 0 7 with
 | false=>exact askAny_s q hs w
 | true=>
  by_cases h0:q.kind < 1 ∨ 10 < q.kind
  ·exact askAny_0 q h0 hs w
  ·have hk:q.kind = 1 ∨ q.kind = 2 ∨ q.kind = 3 ∨ q.kind = 4 ∨ q.kind = 5 ∨ q.kind = 6 ∨ q.kind = 7 ∨ q.kind = 8 ∨ q.kind = 9 ∨ q.kind = 10:=by omega
   rcases hk with hk | hk | hk | hk | hk | hk | hk | hk | hk | hk
   ·exact askAny_1 q hk hs w
   ·exact askAny_2 q hk hs w
   ·exact askAny_3 q hk hs w
   ·exact askAny_4 q hk hs w
   ·exact askAny_5 q hk hs w
   ·exact askAny_6 q hk hs w
   ·exact askAny_7 q hk hs w
   ·exact askAny_8 q hk hs w
   ·exact askAny_9 q hk hs w
   ·exact askAny_10 q hk hs w
theorem wi_true {a b c:Int} (h:b ≤ a ∧ a ≤ c):wi a b c = true:=by
 unfold wi
 rw [decide_eq_true h.1,decide_eq_true h.2]
 rfl
theorem rightA_ok {q:AskM} (h:AskOk q):rightA q = true:=by
 obtain ⟨kind,stripe,epoch,seq,mask,node,oe,os,block⟩:=q
 obtain ⟨a1,a2,a3,a4,a5,a6,a7,a8,a9,b1,b2,b3,b4,b5,b6⟩:=h
 dsimp only at *
 have hs:wi stripe 0 7 = true:=wi_true a2
 have hk:kind = 1 ∨ kind = 2 ∨ kind = 3 ∨ kind = 4 ∨ kind = 5 ∨ kind = 6 ∨ kind = 7 ∨ kind = 8 ∨ kind = 9 ∨ kind = 10:=by omega
 rcases hk with rfl | rfl | rfl | rfl | rfl | rfl | rfl | rfl | rfl | rfl
 ·rw [rightA_1 rfl hs]
  unfold askB1
  rw [wi_true (show 1 ≤ epoch ∧ epoch ≤ 16777215 by have:=a3 (by omega); omega)]
  obtain rfl:=a6 (by omega)
  obtain rfl:=a9 (by omega)
  obtain rfl:=b2 (by omega)
  obtain ⟨rfl,rfl⟩:=b4 (by omega)
  skip
  obtain rfl:=b6 (by omega)
  rfl
 ·rw [rightA_2 rfl hs]
  unfold askB2
  rw [wi_true (show 1 ≤ epoch ∧ epoch ≤ 16777215 by have:=a3 (by omega); omega)]
  obtain rfl:=a6 (by omega)
  obtain rfl:=a9 (by omega)
  obtain rfl:=b2 (by omega)
  obtain ⟨rfl,rfl⟩:=b4 (by omega)
  skip
  obtain rfl:=b6 (by omega)
  rfl
 ·rw [rightA_3 rfl hs]
  unfold askB3
  rw [wi_true (show 1 ≤ epoch ∧ epoch ≤ 16777215 by have:=a3 (by omega); omega)]
  obtain rfl:=a6 (by omega)
  obtain rfl:=a9 (by omega)
  obtain rfl:=b2 (by omega)
  obtain ⟨rfl,rfl⟩:=b4 (by omega)
  skip
  obtain rfl:=b6 (by omega)
  rfl
 ·rw [rightA_4 rfl hs]
  unfold askB4
  rw [wi_true (show 1 ≤ epoch ∧ epoch ≤ 16777215 by have:=a3 (by omega); omega)]
  rw [wi_true (show 1 ≤ seq ∧ seq ≤ 16777215 by have:=a5 (by omega); omega)]
  rw [wi_true (show 1 ≤ mask ∧ mask ≤ 63 from a7 rfl)]
  rw [show ((block.size:Int) == 16) = true by rw [b1 (by omega)]; rfl]
  obtain ⟨rfl,rfl⟩:=b4 (by omega)
  skip
  obtain rfl:=b6 (by omega)
  rfl
 ·rw [rightA_5 rfl hs]
  unfold askB5
  rw [wi_true (show 1 ≤ epoch ∧ epoch ≤ 16777215 by have:=a3 (by omega); omega)]
  rw [wi_true (show 1 ≤ seq ∧ seq ≤ 16777215 by have:=a5 (by omega); omega)]
  obtain rfl:=a9 (by omega)
  obtain rfl:=b2 (by omega)
  obtain ⟨rfl,rfl⟩:=b4 (by omega)
  skip
  obtain rfl:=b6 (by omega)
  rfl
 ·rw [rightA_6 rfl hs]
  unfold askB6
  rw [wi_true (show 1 ≤ epoch ∧ epoch ≤ 16777215 by have:=a3 (by omega); omega)]
  obtain rfl:=a6 (by omega)
  rw [wi_true (show 0 ≤ mask ∧ mask ≤ 1 from a8 rfl)]
  obtain rfl:=b2 (by omega)
  have hO:=b3 rfl
  rw [wi_true (show 0 ≤ oe ∧ oe ≤ 16777215 by have:=a3 (by omega); omega),wi_true (show 0 ≤ os ∧ os ≤ 16777215 by omega),decide_eq_true (show oe < epoch by omega)]
  obtain rfl:=b6 (by omega)
  rfl
 ·rw [rightA_7 rfl hs]
  unfold askB7
  rw [wi_true (show 1 ≤ epoch ∧ epoch ≤ 16777215 by have:=a3 (by omega); omega)]
  rw [wi_true (show 1 ≤ seq ∧ seq ≤ 16777215 by have:=a5 (by omega); omega)]
  obtain rfl:=a9 (by omega)
  rw [show ((block.size:Int) == 16) = true by rw [b1 (by omega)]; rfl]
  obtain ⟨rfl,rfl⟩:=b4 (by omega)
  skip
  obtain rfl:=b6 (by omega)
  rfl
 ·rw [rightA_8 rfl hs]
  unfold askB8
  obtain rfl:=a4 rfl
  obtain rfl:=a6 (by omega)
  obtain rfl:=a9 (by omega)
  obtain rfl:=b2 (by omega)
  obtain ⟨rfl,rfl⟩:=b4 (by omega)
  skip
  obtain rfl:=b6 (by omega)
  rfl
 ·rw [rightA_9 rfl hs]
  unfold askB9
  rw [wi_true (show 1 ≤ epoch ∧ epoch ≤ 16777215 by have:=a3 (by omega); omega)]
  obtain rfl:=a6 (by omega)
  obtain rfl:=a9 (by omega)
  obtain rfl:=b2 (by omega)
  obtain ⟨rfl,rfl⟩:=b4 (by omega)
  skip
  rw [wi_true (b5 rfl)]
  rfl
 ·rw [rightA_10 rfl hs]
  unfold askB10
  rw [wi_true (show 1 ≤ epoch ∧ epoch ≤ 16777215 by have:=a3 (by omega); omega)]
  obtain rfl:=a6 (by omega)
  obtain rfl:=a9 (by omega)
  obtain rfl:=b2 (by omega)
  obtain ⟨rfl,rfl⟩:=b4 (by omega)
  skip
  obtain rfl:=b6 (by omega)
  rfl
end Go.Proofs.Ytkffgdfbdmgncaa
