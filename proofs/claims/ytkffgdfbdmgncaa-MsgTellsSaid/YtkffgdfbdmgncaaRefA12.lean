import Derived.Test.YtkffgdfbdmgncaaAsk12
namespace Go.Proofs.Ytkffgdfbdmgncaa
open Go.RowKit
theorem ask_comm {b:ByteArray}:((⟨#[]⟩:ByteArray) == b) = (b == ⟨#[]⟩):=by
 rw [beq_toListBytes,beq_toListBytes]
 exact BEq.comm
set_option maxRecDepth 100000 in
set_option maxHeartbeats 4000000 in
theorem refNumB_any (a:Int) (w:World) :
  Calls Try.prog 55 #[.int .i64 a] w (RetK (.bool (wi a 1 16777215)) w):=by
 refine calls_of_holds (S:=(fun _=>False)) (l:=[.int .i64 a]) (n:=9) Try.func55 (body_of (by kernel_rfl)) rfl (by simp) (MemOk.none w _) ?_
 refine hgo 12 [oh0,oh0,oh0,oh0] [0,2,5] [] [] [.ops [1,0] [3,4,5,6],.code [1,1]] ⟨[(0,.int .i64 a),(2,.bool false),(5,.bool (decide ((a:Int) ≥ 1)))],[],[],w.heap.size⟩ trivial ?_
 rcases Bool.eq_false_or_eq_true (decide ((a:Int) ≥ 1)) with d1 | d1
 ·skip
  refine hgo 8 [oh1,oh1,oh3,oh0] [2] [(decide ((a:Int) ≥ 1)) = true,(decide ((a:Int) ≥ 1)) = true,(decide ((a:Int) ≥ 1)) = true] [] [.code [1,1]] ⟨[(2,.bool (decide ((a:Int) ≤ 16777215)))],[],[],w.heap.size⟩ ⟨d1,d1,d1,trivial⟩ ?_
  refine hrt [] [.bool (decide ((a:Int) ≤ 16777215))] [] ?_
  intro wx hm
  exact ⟨ret_bool (by unfold wi; rw [d1]; rfl),hm.kept⟩
 ·skip
  refine hgo 8 [oh0,oh0,⟨false,3,[]⟩,oh0] [2] [(decide ((a:Int) ≥ 1)) = false,(decide ((a:Int) ≥ 1)) = false,(decide ((a:Int) ≥ 1)) = false] [] [.code [1,1]] ⟨[(2,.bool false)],[],[],w.heap.size⟩ ⟨d1,d1,d1,trivial⟩ ?_
  refine hrt [] [.bool false] [] ?_
  intro wx hm
  exact ⟨ret_bool (by unfold wi; rw [d1]; rfl),hm.kept⟩
def rqk_v1 (q:AskM):List Value:=[.int .i64 q.kind,.int .i64 q.stripe,.int .i64 q.epoch,.int .i64 q.seq,.int .i64 q.mask,.int .i64 q.node,.int .i64 q.oe,.int .i64 q.os,.string q.block]
def rqk_v2 (q:AskM):List Value:=[.int .i64 q.kind,.int .i64 q.stripe,.int .i64 0,.int .i64 0,.int .i64 0,.int .i64 0,.int .i64 0,.int .i64 0,.string ⟨#[]⟩]
def rqk_v3 (q:AskM):List Value:=[.int .i64 q.kind,.int .i64 q.stripe,.int .i64 q.epoch,.int .i64 0,.int .i64 0,.int .i64 0,.int .i64 0,.int .i64 0,.string ⟨#[]⟩]
def rqk_v4 (q:AskM):List Value:=[.bool (((q.kind:Int) == q.kind) && (((q.stripe:Int) == q.stripe) && (((q.epoch:Int) == q.epoch) && (((0:Int) == q.seq) && (((0:Int) == q.mask) && (((0:Int) == q.node) && ((((0:Int) == q.oe) && (((0:Int) == q.os) && true)) && (((⟨#[]⟩:ByteArray) == q.block) && true))))))))]
def rqk_v5 (q:AskM):List Value:=[.int .i64 q.kind,.int .i64 q.stripe,.int .i64 q.epoch,.int .i64 q.seq,.int .i64 q.mask,.int .i64 0,.int .i64 0,.int .i64 0,.string q.block]
def rqk_v6 (q:AskM):List Value:=[.int .i64 q.kind,.int .i64 q.stripe,.int .i64 q.epoch,.int .i64 q.seq,.int .i64 0,.int .i64 0,.int .i64 0,.int .i64 0,.string ⟨#[]⟩]
def rqk_v7 (q:AskM):List Value:=[.int .i64 q.kind,.int .i64 q.stripe,.int .i64 q.epoch,.int .i64 q.seq,.int .i64 0,.int .i64 0,.int .i64 0,.int .i64 0,.string q.block]
def rqk_v8 (q:AskM):List Value:=[.int .i64 q.kind,.int .i64 q.stripe,.int .i64 q.epoch,.int .i64 0,.int .i64 q.mask,.int .i64 0,.int .i64 q.oe,.int .i64 q.os,.string ⟨#[]⟩]
def rqk_v9 (q:AskM):List Value:=[.bool (((q.kind:Int) == q.kind) && (((q.stripe:Int) == q.stripe) && (((q.epoch:Int) == q.epoch) && (((0:Int) == q.seq) && (((q.mask:Int) == q.mask) && (((0:Int) == q.node) && ((((q.oe:Int) == q.oe) && (((q.os:Int) == q.os) && true)) && (((⟨#[]⟩:ByteArray) == q.block) && true))))))))]
def rqk_v10 (q:AskM):List Value:=[.int .i64 q.kind,.int .i64 q.stripe,.int .i64 q.epoch,.int .i64 0,.int .i64 0,.int .i64 q.node,.int .i64 0,.int .i64 0,.string ⟨#[]⟩]
def rqk_n1:List Nat:=[1,1,1,1,1,0,1,0,1,0,1,0]
def rqk_n2:List Nat:=[1,1,1,1,1,0,1,0,1,0,1,1]
def rqk_n3:List Nat:=[1,1,1,1,1,0,1,0,1,1,1,0,1,1,1,1,0]
def rqk_n4:List Nat:=[1,1,1,1,1,0,1,0,1,1,1,0,1,1,1,1,1]
def rqk_n5:List Nat:=[1,1,1,1,1,0,1,0,1,1,1,1,1,0,1,1,1]
def rqk_n6:List Nat:=[1,1,1,1,1,0,1,0,1,1,1,1,1,1,1,0,1,1,1,0]
def rqk_n7:List Nat:=[1,1,1,1,1,0,1,0,1,1,1,1,1,1,1,0,1,1,1,1]
def rqk_n8:List Nat:=[1,1,1,1,1,0,1,0,1,1,1,1,1,1,1,1,1,0,1,1,1,0]
def rqk_n9:List Nat:=[1,1,1,1,1,0,1,0,1,1,1,1,1,1,1,1,1,0,1,1,1,1]
def rqk_n10:List Nat:=[1,1,1,1,1,0,1,0,1,1,1,1,1,1,1,1,1,1,1,1,1,0,1,1,0]
def rqk_n11:List Nat:=[1,1,1,1,1,0,1,0,1,1,1,1,1,1,1,1,1,1,1,1,1,0,1,1,1]
def rqk_n12:List Nat:=[1,1,1,1,1,0,1,0,1]
def rqk_n13:List Nat:=[18,19,20,21,22,23,24,25,26,27,28,29,30,31,32,33,34,35,36,37,38,39,40,41,42]
def rqk_n14:List Nat:=[26,27,28,29,30,31,32,33,34,35,36,37,38,39,40,41,42]
def rqk_n15:List OH:=[oh0,oh0,oh0,oh0,oh0,oh0,⟨false,3,[]⟩,oh0,oh0,oh0,oh0,oh0,⟨false,3,[]⟩,oh0,oh0,oh0,oh0,oh0,⟨false,3,[]⟩,oh0,oh0,oh0,oh0,⟨false,3,[]⟩,oh0]
def rqk_n16:List OH:=[oh0,oh0,oh0,oh0,⟨false,3,[]⟩,oh0,oh0,oh0,oh0,oh0,⟨false,3,[]⟩,oh0,oh0,oh0,oh0,⟨false,3,[]⟩,oh0]
def rqk_n17:List OH:=[oh0,oh0,oh0,oh0,⟨false,3,[]⟩,oh0,oh0,oh0,oh0,⟨false,3,[]⟩,oh0]
def rqk_n18:List OH:=[oh0,oh0,oh0,⟨false,3,[]⟩,oh0]
def rqk_n19:List OH:=[oh0,oh0,oh0]
def rqk_n20:List OH:=[oh1,oh1,oh0,⟨false,0,[⟨false,0,2,1⟩]⟩,oh0,⟨false,0,[⟨false,1,2,1⟩]⟩,oh0,oh0]
def rqk_n21:List OH:=[oh1,oh1,⟨true,0,[⟨false,0,6,1⟩]⟩,oh1,⟨true,0,[⟨false,0,2,1⟩]⟩,oh1,oh3,oh0]
def rqk_n22:List OH:=[oh1,oh1,⟨true,0,[⟨false,0,7,1⟩]⟩,oh1,oh3,oh0]
def rqk_n23:List OH:=[oh1,⟨true,0,[⟨false,0,8,1⟩]⟩,oh1,oh1,oh3,oh0]
def rqk_n24:List OH:=[⟨true,0,[⟨false,1,0,9⟩]⟩,⟨true,0,[⟨false,0,0,9⟩]⟩,⟨true,1,[]⟩,oh3,oh0]
@[simp] def rqk_b1 (q:AskM) (w:World):List Bk:=[⟨w.heap.size,25,true,(rqk_v1 q)⟩,⟨w.heap.size + 1,25,true,(rqk_v2 q)⟩]
@[simp] def rqk_b2 (q:AskM) (w:World):List Bk:=[⟨w.heap.size,25,true,(rqk_v1 q)⟩,⟨w.heap.size + 1,25,true,(rqk_v3 q)⟩]
@[simp] def rqk_b3 (q:AskM) (w:World):List Bk:=[⟨w.heap.size,25,true,(rqk_v1 q)⟩,⟨w.heap.size + 1,25,true,(rqk_v5 q)⟩]
@[simp] def rqk_b4 (q:AskM) (w:World):List Bk:=[⟨w.heap.size,25,true,(rqk_v1 q)⟩,⟨w.heap.size + 1,25,true,(rqk_v6 q)⟩]
@[simp] def rqk_b5 (q:AskM) (w:World):List Bk:=[⟨w.heap.size,25,true,(rqk_v1 q)⟩,⟨w.heap.size + 1,25,true,(rqk_v7 q)⟩]
@[simp] def rqk_b6 (q:AskM) (w:World):List Bk:=[⟨w.heap.size,25,true,(rqk_v1 q)⟩,⟨w.heap.size + 1,25,true,(rqk_v8 q)⟩]
@[simp] def rqk_b7 (q:AskM) (w:World):List Bk:=[⟨w.heap.size,25,true,(rqk_v1 q)⟩,⟨w.heap.size + 1,25,true,(rqk_v10 q)⟩]
set_option maxRecDepth 100000 in
set_option maxHeartbeats 4000000 in
theorem refAsk_k (q:AskM) (hs:wi q.stripe 0 7 = true) (hsb:0 ≤ q.stripe ∧ q.stripe ≤ 7) (w:World) :
  Calls Try.prog 37 #[.agg #[.int .i64 q.kind,.int .i64 q.stripe,.int .i64 q.epoch,.int .i64 q.seq,.int .i64 q.mask,.int .i64 q.node,.int .i64 q.oe,.int .i64 q.os,.string q.block]] w (RetK (.bool (rightA q)) w):=by
 refine calls_of_holds (S:=(fun _=>False)) (l:=[.agg (List.toArray (rqk_v1 q))]) (n:=205) Try.func37 (body_of (by kernel_rfl)) rfl (by simp) (MemOk.none w _) ?_
 refine hgo 36 [oh0,oh0,oh0,⟨false,0,[⟨false,0,1,1⟩]⟩,oh0,oh0,oh0,⟨false,0,[⟨false,0,1,1⟩]⟩,oh0,⟨false,3,[]⟩,oh0,oh0,⟨false,0,[⟨false,0,0,1⟩]⟩,oh0,⟨false,0,[⟨false,0,1,1⟩]⟩,oh0,oh0,⟨false,0,[⟨false,1,0,9⟩]⟩,oh0,⟨false,0,[⟨false,0,2,1⟩]⟩] [1,2,3,20] [(decide ((q.stripe:Int) < 0)) = false,(decide ((q.stripe:Int) < 0)) = false,(decide ((q.stripe:Int) < 0)) = false,(decide ((q.stripe:Int) < 0)) = false,(decide ((q.stripe:Int) ≥ 8)) = false] [(w.heap.size,1,1),(w.heap.size,1,1),(w.heap.size,0,1),(w.heap.size,1,1),(w.heap.size + 1,0,9),(w.heap.size,2,1)] [.ops [1,1,1,0] [2,3],.code [1,1,1,1]] ⟨[(1,(pt w.heap.size 0)),(2,.bool false),(3,(pt (w.heap.size + 1) 0)),(20,.int .i64 q.epoch)],(rqk_b1 q w),[],w.heap.size + 2⟩ ⟨decide_eq_false (by omega),decide_eq_false (by omega),decide_eq_false (by omega),decide_eq_false (by omega),decide_eq_false (by omega),trivial⟩ ?_
 refine hcp (.bool (wi q.epoch 1 16777215)) 55 [.int .i64 q.epoch] (some 21) [] trivial rfl (fun wx hm=>refNumB_any _ wx) fun z2 hz2=>?_
 replace hz2:w.heap.size + 2 ≤ z2:=hz2
 refine hgo 9 [oh0,oh0,⟨false,0,[⟨false,0,3,1⟩]⟩] [1,2,3,4,23] [] [(w.heap.size,3,1)] [.ops [1,1,1,1,0] [2,3],.code [1,1,1,1,1]] ⟨[(1,(pt w.heap.size 0)),(2,.bool false),(3,(pt (w.heap.size + 1) 0)),(4,.bool (wi q.epoch 1 16777215)),(23,.int .i64 q.seq)],(rqk_b1 q w),[],z2⟩ trivial ?_
 refine hcp (.bool (wi q.seq 1 16777215)) 55 [.int .i64 q.seq] (some 24) [] trivial rfl (fun wx hm=>refNumB_any _ wx) fun z4 hz4=>?_
 replace hz4:z2 ≤ z4:=hz4
 refine hgo 18 [oh0,oh0,⟨false,0,[⟨false,0,0,1⟩]⟩,oh0,oh0] [1,2,3,4,5,26,27] [] [(w.heap.size,0,1)] [.code [1,1,1,1,1,0,1,0,0,1],.code rqk_n12,.blk 0,.code [1,1,1,1,1,1]] ⟨[(1,(pt w.heap.size 0)),(2,.bool false),(3,(pt (w.heap.size + 1) 0)),(4,.bool (wi q.epoch 1 16777215)),(5,.bool (wi q.seq 1 16777215)),(26,.int .i64 q.kind),(27,.bool (q.kind == 1))],(rqk_b1 q w),[],z4⟩ trivial ?_
 rcases Bool.eq_false_or_eq_true (q.kind == 1) with d1 | d1
 ·skip
  refine hgo 17 rqk_n20 [1,2,3,36] [(q.kind == 1) = true,(q.kind == 1) = true] [(w.heap.size,2,1),(w.heap.size + 1,2,1)] [.ops rqk_n1 [2,3,4,5,6],.code rqk_n2,.blk 0,.code [1,1,1,1,1,1]] ⟨[(1,(pt w.heap.size 0)),(2,.bool false),(3,(pt (w.heap.size + 1) 0)),(36,.bool (wi q.epoch 1 16777215))],(rqk_b2 q w),[],z4⟩ ⟨d1,d1,trivial⟩ ?_
  rcases Bool.eq_false_or_eq_true (wi q.epoch 1 16777215) with d2 | d2
  ·skip
   refine hgo 9 rqk_n24 [2] [(wi q.epoch 1 16777215) = true,(wi q.epoch 1 16777215) = true,(wi q.epoch 1 16777215) = true,True,(wi q.epoch 1 16777215) = true] [(w.heap.size + 1,0,9),(w.heap.size,0,9)] [.code rqk_n2,.blk 0,.code [1,1,1,1,1,1]] ⟨[(2,.bool (((q.kind:Int) == q.kind) && (((q.stripe:Int) == q.stripe) && (((q.epoch:Int) == q.epoch) && (((0:Int) == q.seq) && (((0:Int) == q.mask) && (((0:Int) == q.node) && ((((0:Int) == q.oe) && (((0:Int) == q.os) && true)) && (((⟨#[]⟩:ByteArray) == q.block) && true)))))))))],(rqk_b2 q w),[],z4⟩ ⟨d2,d2,d2,trivial,d2,trivial⟩ ?_
   refine hrt [] (rqk_v4 q) [] ?_
   intro wx hm
   refine ⟨ret_bool ?_,hm.kept⟩
   rw [rightA_1 (eq_of_beq d1) hs]
   unfold askB1
   clear hm hs d1
   try rw [ask_comm]
   try rw [bytes_beq]
   generalize (q.block == (⟨#[]⟩:ByteArray)) = b
   refine Bool.eq_iff_iff.2 ?_
   cases b <;> simp [wi] at d2 ⊢ <;> omega
  ·skip
   refine hgo 9 rqk_n18 [2] [(wi q.epoch 1 16777215) = false,(wi q.epoch 1 16777215) = false,(wi q.epoch 1 16777215) = false,(wi q.epoch 1 16777215) = false] [] [.code rqk_n2,.blk 0,.code [1,1,1,1,1,1]] ⟨[(2,.bool false)],(rqk_b2 q w),[],z4⟩ ⟨d2,d2,d2,d2,trivial⟩ ?_
   refine hrt [] [.bool false] [] ?_
   intro wx hm
   refine ⟨ret_bool ?_,hm.kept⟩
   rw [rightA_1 (eq_of_beq d1) hs]
   unfold askB1
   clear hm hs d1
   try rw [ask_comm]
   try rw [bytes_beq]
   generalize (q.block == (⟨#[]⟩:ByteArray)) = b
   refine Bool.eq_iff_iff.2 ?_
   cases b <;> simp [wi] at d2 ⊢ <;> omega
 ·skip
  refine hgo 9 rqk_n19 [1,2,3,4,5,26,27] [(q.kind == 1) = false] [] [.code [1,1,1,1,1,0,1,0,0,1,1,1],.code rqk_n12,.blk 0,.code [1,1,1,1,1,1]] ⟨[(1,(pt w.heap.size 0)),(2,.bool false),(3,(pt (w.heap.size + 1) 0)),(4,.bool (wi q.epoch 1 16777215)),(5,.bool (wi q.seq 1 16777215)),(26,.int .i64 q.kind),(27,.bool (q.kind == 2))],(rqk_b1 q w),[],z4⟩ ⟨d1,trivial⟩ ?_
  rcases Bool.eq_false_or_eq_true (q.kind == 2) with d3 | d3
  ·skip
   refine hgo 17 rqk_n20 [1,2,3,36] [(q.kind == 2) = true,(q.kind == 2) = true] [(w.heap.size,2,1),(w.heap.size + 1,2,1)] [.ops rqk_n1 [2,3,4,5,6],.code rqk_n2,.blk 0,.code [1,1,1,1,1,1]] ⟨[(1,(pt w.heap.size 0)),(2,.bool false),(3,(pt (w.heap.size + 1) 0)),(36,.bool (wi q.epoch 1 16777215))],(rqk_b2 q w),[],z4⟩ ⟨d3,d3,trivial⟩ ?_
   rcases Bool.eq_false_or_eq_true (wi q.epoch 1 16777215) with d4 | d4
   ·skip
    refine hgo 9 rqk_n24 [2] [(wi q.epoch 1 16777215) = true,(wi q.epoch 1 16777215) = true,(wi q.epoch 1 16777215) = true,True,(wi q.epoch 1 16777215) = true] [(w.heap.size + 1,0,9),(w.heap.size,0,9)] [.code rqk_n2,.blk 0,.code [1,1,1,1,1,1]] ⟨[(2,.bool (((q.kind:Int) == q.kind) && (((q.stripe:Int) == q.stripe) && (((q.epoch:Int) == q.epoch) && (((0:Int) == q.seq) && (((0:Int) == q.mask) && (((0:Int) == q.node) && ((((0:Int) == q.oe) && (((0:Int) == q.os) && true)) && (((⟨#[]⟩:ByteArray) == q.block) && true)))))))))],(rqk_b2 q w),[],z4⟩ ⟨d4,d4,d4,trivial,d4,trivial⟩ ?_
    refine hrt [] (rqk_v4 q) [] ?_
    intro wx hm
    refine ⟨ret_bool ?_,hm.kept⟩
    rw [rightA_2 (eq_of_beq d3) hs]
    unfold askB2
    clear hm hs d1 d3
    try rw [ask_comm]
    try rw [bytes_beq]
    generalize (q.block == (⟨#[]⟩:ByteArray)) = b
    refine Bool.eq_iff_iff.2 ?_
    cases b <;> simp [wi] at d4 ⊢ <;> omega
   ·skip
    refine hgo 9 rqk_n18 [2] [(wi q.epoch 1 16777215) = false,(wi q.epoch 1 16777215) = false,(wi q.epoch 1 16777215) = false,(wi q.epoch 1 16777215) = false] [] [.code rqk_n2,.blk 0,.code [1,1,1,1,1,1]] ⟨[(2,.bool false)],(rqk_b2 q w),[],z4⟩ ⟨d4,d4,d4,d4,trivial⟩ ?_
    refine hrt [] [.bool false] [] ?_
    intro wx hm
    refine ⟨ret_bool ?_,hm.kept⟩
    rw [rightA_2 (eq_of_beq d3) hs]
    unfold askB2
    clear hm hs d1 d3
    try rw [ask_comm]
    try rw [bytes_beq]
    generalize (q.block == (⟨#[]⟩:ByteArray)) = b
    refine Bool.eq_iff_iff.2 ?_
    cases b <;> simp [wi] at d4 ⊢ <;> omega
  ·skip
   refine hgo 9 rqk_n19 [1,2,3,4,5,26,27] [(q.kind == 2) = false] [] [.code [1,1,1,1,1,0,1,0,0,1,1,1,1,1],.code rqk_n12,.blk 0,.code [1,1,1,1,1,1]] ⟨[(1,(pt w.heap.size 0)),(2,.bool false),(3,(pt (w.heap.size + 1) 0)),(4,.bool (wi q.epoch 1 16777215)),(5,.bool (wi q.seq 1 16777215)),(26,.int .i64 q.kind),(27,.bool (q.kind == 3))],(rqk_b1 q w),[],z4⟩ ⟨d3,trivial⟩ ?_
   rcases Bool.eq_false_or_eq_true (q.kind == 3) with d5 | d5
   ·skip
    refine hgo 17 rqk_n20 [1,2,3,36] [(q.kind == 3) = true,(q.kind == 3) = true] [(w.heap.size,2,1),(w.heap.size + 1,2,1)] [.ops rqk_n1 [2,3,4,5,6],.code rqk_n2,.blk 0,.code [1,1,1,1,1,1]] ⟨[(1,(pt w.heap.size 0)),(2,.bool false),(3,(pt (w.heap.size + 1) 0)),(36,.bool (wi q.epoch 1 16777215))],(rqk_b2 q w),[],z4⟩ ⟨d5,d5,trivial⟩ ?_
    rcases Bool.eq_false_or_eq_true (wi q.epoch 1 16777215) with d6 | d6
    ·skip
     refine hgo 9 rqk_n24 [2] [(wi q.epoch 1 16777215) = true,(wi q.epoch 1 16777215) = true,(wi q.epoch 1 16777215) = true,True,(wi q.epoch 1 16777215) = true] [(w.heap.size + 1,0,9),(w.heap.size,0,9)] [.code rqk_n2,.blk 0,.code [1,1,1,1,1,1]] ⟨[(2,.bool (((q.kind:Int) == q.kind) && (((q.stripe:Int) == q.stripe) && (((q.epoch:Int) == q.epoch) && (((0:Int) == q.seq) && (((0:Int) == q.mask) && (((0:Int) == q.node) && ((((0:Int) == q.oe) && (((0:Int) == q.os) && true)) && (((⟨#[]⟩:ByteArray) == q.block) && true)))))))))],(rqk_b2 q w),[],z4⟩ ⟨d6,d6,d6,trivial,d6,trivial⟩ ?_
     refine hrt [] (rqk_v4 q) [] ?_
     intro wx hm
     refine ⟨ret_bool ?_,hm.kept⟩
     rw [rightA_3 (eq_of_beq d5) hs]
     unfold askB3
     clear hm hs d1 d3 d5
     try rw [ask_comm]
     try rw [bytes_beq]
     generalize (q.block == (⟨#[]⟩:ByteArray)) = b
     refine Bool.eq_iff_iff.2 ?_
     cases b <;> simp [wi] at d6 ⊢ <;> omega
    ·skip
     refine hgo 9 rqk_n18 [2] [(wi q.epoch 1 16777215) = false,(wi q.epoch 1 16777215) = false,(wi q.epoch 1 16777215) = false,(wi q.epoch 1 16777215) = false] [] [.code rqk_n2,.blk 0,.code [1,1,1,1,1,1]] ⟨[(2,.bool false)],(rqk_b2 q w),[],z4⟩ ⟨d6,d6,d6,d6,trivial⟩ ?_
     refine hrt [] [.bool false] [] ?_
     intro wx hm
     refine ⟨ret_bool ?_,hm.kept⟩
     rw [rightA_3 (eq_of_beq d5) hs]
     unfold askB3
     clear hm hs d1 d3 d5
     try rw [ask_comm]
     try rw [bytes_beq]
     generalize (q.block == (⟨#[]⟩:ByteArray)) = b
     refine Bool.eq_iff_iff.2 ?_
     cases b <;> simp [wi] at d6 ⊢ <;> omega
   ·skip
    refine hgo 8 rqk_n19 [1,2,3,4,5,26,27] [(q.kind == 3) = false] [] [.code rqk_n12,.blk 0,.code [1,1,1,1,1,1]] ⟨[(1,(pt w.heap.size 0)),(2,.bool false),(3,(pt (w.heap.size + 1) 0)),(4,.bool (wi q.epoch 1 16777215)),(5,.bool (wi q.seq 1 16777215)),(26,.int .i64 q.kind),(27,.bool (q.kind == 10))],(rqk_b1 q w),[],z4⟩ ⟨d5,trivial⟩ ?_
    rcases Bool.eq_false_or_eq_true (q.kind == 10) with d7 | d7
    ·skip
     refine hgo 15 [oh1,oh0,⟨false,0,[⟨false,0,2,1⟩]⟩,oh0,⟨false,0,[⟨false,1,2,1⟩]⟩,oh0,oh0] [1,2,3,36] [(q.kind == 10) = true] [(w.heap.size,2,1),(w.heap.size + 1,2,1)] [.ops rqk_n1 [2,3,4,5,6],.code rqk_n2,.blk 0,.code [1,1,1,1,1,1]] ⟨[(1,(pt w.heap.size 0)),(2,.bool false),(3,(pt (w.heap.size + 1) 0)),(36,.bool (wi q.epoch 1 16777215))],(rqk_b2 q w),[],z4⟩ ⟨d7,trivial⟩ ?_
     rcases Bool.eq_false_or_eq_true (wi q.epoch 1 16777215) with d8 | d8
     ·skip
      refine hgo 9 rqk_n24 [2] [(wi q.epoch 1 16777215) = true,(wi q.epoch 1 16777215) = true,(wi q.epoch 1 16777215) = true,True,(wi q.epoch 1 16777215) = true] [(w.heap.size + 1,0,9),(w.heap.size,0,9)] [.code rqk_n2,.blk 0,.code [1,1,1,1,1,1]] ⟨[(2,.bool (((q.kind:Int) == q.kind) && (((q.stripe:Int) == q.stripe) && (((q.epoch:Int) == q.epoch) && (((0:Int) == q.seq) && (((0:Int) == q.mask) && (((0:Int) == q.node) && ((((0:Int) == q.oe) && (((0:Int) == q.os) && true)) && (((⟨#[]⟩:ByteArray) == q.block) && true)))))))))],(rqk_b2 q w),[],z4⟩ ⟨d8,d8,d8,trivial,d8,trivial⟩ ?_
      refine hrt [] (rqk_v4 q) [] ?_
      intro wx hm
      refine ⟨ret_bool ?_,hm.kept⟩
      rw [rightA_10 (eq_of_beq d7) hs]
      unfold askB10
      clear hm hs d1 d3 d5 d7
      try rw [ask_comm]
      try rw [bytes_beq]
      generalize (q.block == (⟨#[]⟩:ByteArray)) = b
      refine Bool.eq_iff_iff.2 ?_
      cases b <;> simp [wi] at d8 ⊢ <;> omega
     ·skip
      refine hgo 9 rqk_n18 [2] [(wi q.epoch 1 16777215) = false,(wi q.epoch 1 16777215) = false,(wi q.epoch 1 16777215) = false,(wi q.epoch 1 16777215) = false] [] [.code rqk_n2,.blk 0,.code [1,1,1,1,1,1]] ⟨[(2,.bool false)],(rqk_b2 q w),[],z4⟩ ⟨d8,d8,d8,d8,trivial⟩ ?_
      refine hrt [] [.bool false] [] ?_
      intro wx hm
      refine ⟨ret_bool ?_,hm.kept⟩
      rw [rightA_10 (eq_of_beq d7) hs]
      unfold askB10
      clear hm hs d1 d3 d5 d7
      try rw [ask_comm]
      try rw [bytes_beq]
      generalize (q.block == (⟨#[]⟩:ByteArray)) = b
      refine Bool.eq_iff_iff.2 ?_
      cases b <;> simp [wi] at d8 ⊢ <;> omega
    ·skip
     refine hgo 9 rqk_n19 [1,2,3,4,5,26,41] [(q.kind == 10) = false] [] [.code [1,1,1,1,1,0,1,0,1,1,1],.blk 0,.code [1,1,1,1,1,1]] ⟨[(1,(pt w.heap.size 0)),(2,.bool false),(3,(pt (w.heap.size + 1) 0)),(4,.bool (wi q.epoch 1 16777215)),(5,.bool (wi q.seq 1 16777215)),(26,.int .i64 q.kind),(41,.bool (q.kind == 4))],(rqk_b1 q w),[],z4⟩ ⟨d7,trivial⟩ ?_
     rcases Bool.eq_false_or_eq_true (q.kind == 4) with d9 | d9
     ·skip
      refine hgo 36 [oh1,oh0,⟨false,0,[⟨false,0,2,1⟩]⟩,oh0,⟨false,0,[⟨false,1,2,1⟩]⟩,oh0,⟨false,0,[⟨false,0,3,1⟩]⟩,oh0,⟨false,0,[⟨false,1,3,1⟩]⟩,oh0,⟨false,0,[⟨false,0,4,1⟩]⟩,oh0,⟨false,0,[⟨false,1,4,1⟩]⟩,oh0,⟨false,0,[⟨false,0,8,1⟩]⟩,oh0,⟨false,0,[⟨false,1,8,1⟩]⟩,oh0,oh0] [1,2,3,5,56] [(q.kind == 4) = true] [(w.heap.size,2,1),(w.heap.size + 1,2,1),(w.heap.size,3,1),(w.heap.size + 1,3,1),(w.heap.size,4,1),(w.heap.size + 1,4,1),(w.heap.size,8,1),(w.heap.size + 1,8,1)] [.ops rqk_n3 [2,3,4,5,6,7,8,9,10,11,12,13,14,15,16,17,18,19,20,21,22,23,24,25],.code rqk_n4,.blk 0,.code [1,1,1,1,1,1]] ⟨[(1,(pt w.heap.size 0)),(2,.bool false),(3,(pt (w.heap.size + 1) 0)),(5,.bool (wi q.seq 1 16777215)),(56,.bool (wi q.epoch 1 16777215))],(rqk_b3 q w),[],z4⟩ ⟨d9,trivial⟩ ?_
      rcases Bool.eq_false_or_eq_true (wi q.epoch 1 16777215) with d10 | d10
      ·skip
       refine hgo 6 [oh1,oh3,oh0] [1,2,3,59] [(wi q.epoch 1 16777215) = true,(wi q.epoch 1 16777215) = true] [] [.ops rqk_n3 [5,6,7,8,9,10,11,12,13,14,15,16,17,18,19,20,21,22,23,24,25],.code rqk_n4,.blk 0,.code [1,1,1,1,1,1]] ⟨[(1,(pt w.heap.size 0)),(2,.bool false),(3,(pt (w.heap.size + 1) 0)),(59,.bool (wi q.seq 1 16777215))],(rqk_b3 q w),[],z4⟩ ⟨d10,d10,trivial⟩ ?_
       rcases Bool.eq_false_or_eq_true (wi q.seq 1 16777215) with d11 | d11
       ·skip
        refine hgo 8 [oh1,⟨true,0,[⟨false,0,4,1⟩]⟩,oh1,oh3,oh0] [1,2,3,64] [(wi q.seq 1 16777215) = true,(wi q.seq 1 16777215) = true,(wi q.seq 1 16777215) = true,(wi q.seq 1 16777215) = true] [(w.heap.size,4,1)] [.ops rqk_n3 [10,11,12,13,14,15,16,17,18,19,20,21,22,23,24,25],.code rqk_n4,.blk 0,.code [1,1,1,1,1,1]] ⟨[(1,(pt w.heap.size 0)),(2,.bool false),(3,(pt (w.heap.size + 1) 0)),(64,.bool (decide ((q.mask:Int) ≥ 1)))],(rqk_b3 q w),[],z4⟩ ⟨d11,d11,d11,d11,trivial⟩ ?_
        rcases Bool.eq_false_or_eq_true (decide ((q.mask:Int) ≥ 1)) with d12 | d12
        ·skip
         refine hgo 8 [oh1,⟨true,0,[⟨false,0,4,1⟩]⟩,oh1,oh3,oh0] [1,2,3,69] [(decide ((q.mask:Int) ≥ 1)) = true,(decide ((q.mask:Int) ≥ 1)) = true,(decide ((q.mask:Int) ≥ 1)) = true,(decide ((q.mask:Int) ≥ 1)) = true] [(w.heap.size,4,1)] [.ops rqk_n3 [15,16,17,18,19,20,21,22,23,24,25],.code rqk_n4,.blk 0,.code [1,1,1,1,1,1]] ⟨[(1,(pt w.heap.size 0)),(2,.bool false),(3,(pt (w.heap.size + 1) 0)),(69,.bool (decide ((q.mask:Int) ≤ 63)))],(rqk_b3 q w),[],z4⟩ ⟨d12,d12,d12,d12,trivial⟩ ?_
         rcases Bool.eq_false_or_eq_true (decide ((q.mask:Int) ≤ 63)) with d13 | d13
         ·skip
          refine hgo 9 rqk_n23 [1,2,3,75] [(decide ((q.mask:Int) ≤ 63)) = true,(decide ((q.mask:Int) ≤ 63)) = true,(decide ((q.mask:Int) ≤ 63)) = true,(decide ((q.mask:Int) ≤ 63)) = true,(decide ((q.mask:Int) ≤ 63)) = true] [(w.heap.size,8,1)] [.ops rqk_n3 [21,22,23,24,25],.code rqk_n4,.blk 0,.code [1,1,1,1,1,1]] ⟨[(1,(pt w.heap.size 0)),(2,.bool false),(3,(pt (w.heap.size + 1) 0)),(75,.bool ((q.block.size:Int) == 16))],(rqk_b3 q w),[],z4⟩ ⟨d13,d13,d13,d13,d13,trivial⟩ ?_
          rcases Bool.eq_false_or_eq_true ((q.block.size:Int) == 16) with d14 | d14
          ·skip
           refine hgo 9 rqk_n24 [2] [((q.block.size:Int) == 16) = true,((q.block.size:Int) == 16) = true,((q.block.size:Int) == 16) = true,True,((q.block.size:Int) == 16) = true] [(w.heap.size + 1,0,9),(w.heap.size,0,9)] [.code rqk_n4,.blk 0,.code [1,1,1,1,1,1]] ⟨[(2,.bool (((q.kind:Int) == q.kind) && (((q.stripe:Int) == q.stripe) && (((q.epoch:Int) == q.epoch) && (((q.seq:Int) == q.seq) && (((q.mask:Int) == q.mask) && (((0:Int) == q.node) && ((((0:Int) == q.oe) && (((0:Int) == q.os) && true)) && (((q.block:ByteArray) == q.block) && true)))))))))],(rqk_b3 q w),[],z4⟩ ⟨d14,d14,d14,trivial,d14,trivial⟩ ?_
           refine hrt [] [.bool (((q.kind:Int) == q.kind) && (((q.stripe:Int) == q.stripe) && (((q.epoch:Int) == q.epoch) && (((q.seq:Int) == q.seq) && (((q.mask:Int) == q.mask) && (((0:Int) == q.node) && ((((0:Int) == q.oe) && (((0:Int) == q.os) && true)) && (((q.block:ByteArray) == q.block) && true))))))))] [] ?_
           intro wx hm
           refine ⟨ret_bool ?_,hm.kept⟩
           rw [rightA_4 (eq_of_beq d9) hs]
           unfold askB4
           clear hm hs d1 d3 d5 d7 d9
           try rw [ask_comm]
           try rw [bytes_beq]
           generalize (q.block == (⟨#[]⟩:ByteArray)) = b
           refine Bool.eq_iff_iff.2 ?_
           cases b <;> simp [wi] at d10 d11 d12 d13 d14 ⊢ <;> omega
          ·skip
           refine hgo 9 rqk_n18 [2] [((q.block.size:Int) == 16) = false,((q.block.size:Int) == 16) = false,((q.block.size:Int) == 16) = false,((q.block.size:Int) == 16) = false] [] [.code rqk_n4,.blk 0,.code [1,1,1,1,1,1]] ⟨[(2,.bool false)],(rqk_b3 q w),[],z4⟩ ⟨d14,d14,d14,d14,trivial⟩ ?_
           refine hrt [] [.bool false] [] ?_
           intro wx hm
           refine ⟨ret_bool ?_,hm.kept⟩
           rw [rightA_4 (eq_of_beq d9) hs]
           unfold askB4
           clear hm hs d1 d3 d5 d7 d9
           try rw [ask_comm]
           try rw [bytes_beq]
           generalize (q.block == (⟨#[]⟩:ByteArray)) = b
           refine Bool.eq_iff_iff.2 ?_
           cases b <;> simp [wi] at d10 d11 d12 d13 d14 ⊢ <;> omega
         ·skip
          refine hgo 15 rqk_n17 [2] [(decide ((q.mask:Int) ≤ 63)) = false,(decide ((q.mask:Int) ≤ 63)) = false,(decide ((q.mask:Int) ≤ 63)) = false,(decide ((q.mask:Int) ≤ 63)) = false,(decide ((q.mask:Int) ≤ 63)) = false,false = false,false = false,false = false,false = false] [] [.code rqk_n4,.blk 0,.code [1,1,1,1,1,1]] ⟨[(2,.bool false)],(rqk_b3 q w),[],z4⟩ ⟨d13,d13,d13,d13,d13,rfl,rfl,rfl,rfl,trivial⟩ ?_
          refine hrt [] [.bool false] [] ?_
          intro wx hm
          refine ⟨ret_bool ?_,hm.kept⟩
          rw [rightA_4 (eq_of_beq d9) hs]
          unfold askB4
          clear hm hs d1 d3 d5 d7 d9
          try rw [ask_comm]
          try rw [bytes_beq]
          generalize (q.block == (⟨#[]⟩:ByteArray)) = b
          refine Bool.eq_iff_iff.2 ?_
          cases b <;> simp [wi] at d10 d11 d12 d13 ⊢ <;> omega
        ·skip
         refine hgo 20 [oh0,oh0,oh0,⟨false,3,[]⟩,oh0,oh0,oh0,oh0,oh0,⟨false,3,[]⟩,oh0,oh0,oh0,oh0,⟨false,3,[]⟩,oh0] [2] [(decide ((q.mask:Int) ≥ 1)) = false,(decide ((q.mask:Int) ≥ 1)) = false,(decide ((q.mask:Int) ≥ 1)) = false,(decide ((q.mask:Int) ≥ 1)) = false,false = false,false = false,false = false,false = false,false = false,false = false,false = false,false = false,false = false] [] [.code rqk_n4,.blk 0,.code [1,1,1,1,1,1]] ⟨[(2,.bool false)],(rqk_b3 q w),[],z4⟩ ⟨d12,d12,d12,d12,rfl,rfl,rfl,rfl,rfl,rfl,rfl,rfl,rfl,trivial⟩ ?_
         refine hrt [] [.bool false] [] ?_
         intro wx hm
         refine ⟨ret_bool ?_,hm.kept⟩
         rw [rightA_4 (eq_of_beq d9) hs]
         unfold askB4
         clear hm hs d1 d3 d5 d7 d9
         try rw [ask_comm]
         try rw [bytes_beq]
         generalize (q.block == (⟨#[]⟩:ByteArray)) = b
         refine Bool.eq_iff_iff.2 ?_
         cases b <;> simp [wi] at d10 d11 d12 ⊢ <;> omega
       ·skip
        refine hgo 25 [oh0,oh0,oh0,⟨false,3,[]⟩,oh0,oh0,oh0,oh0,⟨false,3,[]⟩,oh0,oh0,oh0,oh0,oh0,⟨false,3,[]⟩,oh0,oh0,oh0,oh0,⟨false,3,[]⟩,oh0] [2] [(wi q.seq 1 16777215) = false,(wi q.seq 1 16777215) = false,(wi q.seq 1 16777215) = false,(wi q.seq 1 16777215) = false,false = false,false = false,false = false,false = false,false = false,false = false,false = false,false = false,false = false,false = false,false = false,false = false,false = false] [] [.code rqk_n4,.blk 0,.code [1,1,1,1,1,1]] ⟨[(2,.bool false)],(rqk_b3 q w),[],z4⟩ ⟨d11,d11,d11,d11,rfl,rfl,rfl,rfl,rfl,rfl,rfl,rfl,rfl,rfl,rfl,rfl,rfl,trivial⟩ ?_
        refine hrt [] [.bool false] [] ?_
        intro wx hm
        refine ⟨ret_bool ?_,hm.kept⟩
        rw [rightA_4 (eq_of_beq d9) hs]
        unfold askB4
        clear hm hs d1 d3 d5 d7 d9
        try rw [ask_comm]
        try rw [bytes_beq]
        generalize (q.block == (⟨#[]⟩:ByteArray)) = b
        refine Bool.eq_iff_iff.2 ?_
        cases b <;> simp [wi] at d10 d11 ⊢ <;> omega
      ·skip
       refine hgo 28 [oh0,⟨false,3,[]⟩,oh0,oh0,oh0,oh0,⟨false,3,[]⟩,oh0,oh0,oh0,oh0,⟨false,3,[]⟩,oh0,oh0,oh0,oh0,oh0,⟨false,3,[]⟩,oh0,oh0,oh0,oh0,⟨false,3,[]⟩,oh0] [2] [(wi q.epoch 1 16777215) = false,(wi q.epoch 1 16777215) = false,false = false,false = false,false = false,false = false,false = false,false = false,false = false,false = false,false = false,false = false,false = false,false = false,false = false,false = false,false = false,false = false,false = false] [] [.code rqk_n4,.blk 0,.code [1,1,1,1,1,1]] ⟨[(2,.bool false)],(rqk_b3 q w),[],z4⟩ ⟨d10,d10,rfl,rfl,rfl,rfl,rfl,rfl,rfl,rfl,rfl,rfl,rfl,rfl,rfl,rfl,rfl,rfl,rfl,trivial⟩ ?_
       refine hrt [] [.bool false] [] ?_
       intro wx hm
       refine ⟨ret_bool ?_,hm.kept⟩
       rw [rightA_4 (eq_of_beq d9) hs]
       unfold askB4
       clear hm hs d1 d3 d5 d7 d9
       try rw [ask_comm]
       try rw [bytes_beq]
       generalize (q.block == (⟨#[]⟩:ByteArray)) = b
       refine Bool.eq_iff_iff.2 ?_
       cases b <;> simp [wi] at d10 ⊢ <;> omega
     ·skip
      refine hgo 9 rqk_n19 [1,2,3,4,5,26,80] [(q.kind == 4) = false] [] [.code [1,1,1,1,1,0,1,0,1,1,1,1,1],.blk 0,.code [1,1,1,1,1,1]] ⟨[(1,(pt w.heap.size 0)),(2,.bool false),(3,(pt (w.heap.size + 1) 0)),(4,.bool (wi q.epoch 1 16777215)),(5,.bool (wi q.seq 1 16777215)),(26,.int .i64 q.kind),(80,.bool (q.kind == 5))],(rqk_b1 q w),[],z4⟩ ⟨d9,trivial⟩ ?_
      rcases Bool.eq_false_or_eq_true (q.kind == 5) with d15 | d15
      ·skip
       refine hgo 22 [oh1,oh0,⟨false,0,[⟨false,0,2,1⟩]⟩,oh0,⟨false,0,[⟨false,1,2,1⟩]⟩,oh0,⟨false,0,[⟨false,0,3,1⟩]⟩,oh0,⟨false,0,[⟨false,1,3,1⟩]⟩,oh0,oh0] [1,2,3,5,89] [(q.kind == 5) = true] [(w.heap.size,2,1),(w.heap.size + 1,2,1),(w.heap.size,3,1),(w.heap.size + 1,3,1)] [.ops [1,1,1,1,1,0,1,0,1,1,1,1,1,0,1,1,0] [2,3,4,5,6,7,8,9],.code rqk_n5,.blk 0,.code [1,1,1,1,1,1]] ⟨[(1,(pt w.heap.size 0)),(2,.bool false),(3,(pt (w.heap.size + 1) 0)),(5,.bool (wi q.seq 1 16777215)),(89,.bool (wi q.epoch 1 16777215))],(rqk_b4 q w),[],z4⟩ ⟨d15,trivial⟩ ?_
       rcases Bool.eq_false_or_eq_true (wi q.epoch 1 16777215) with d16 | d16
       ·skip
        refine hgo 6 [oh1,oh3,oh0] [1,2,3,92] [(wi q.epoch 1 16777215) = true,(wi q.epoch 1 16777215) = true] [] [.ops [1,1,1,1,1,0,1,0,1,1,1,1,1,0,1,1,0] [5,6,7,8,9],.code rqk_n5,.blk 0,.code [1,1,1,1,1,1]] ⟨[(1,(pt w.heap.size 0)),(2,.bool false),(3,(pt (w.heap.size + 1) 0)),(92,.bool (wi q.seq 1 16777215))],(rqk_b4 q w),[],z4⟩ ⟨d16,d16,trivial⟩ ?_
        rcases Bool.eq_false_or_eq_true (wi q.seq 1 16777215) with d17 | d17
        ·skip
         refine hgo 9 rqk_n24 [2] [(wi q.seq 1 16777215) = true,(wi q.seq 1 16777215) = true,(wi q.seq 1 16777215) = true,True,(wi q.seq 1 16777215) = true] [(w.heap.size + 1,0,9),(w.heap.size,0,9)] [.code rqk_n5,.blk 0,.code [1,1,1,1,1,1]] ⟨[(2,.bool (((q.kind:Int) == q.kind) && (((q.stripe:Int) == q.stripe) && (((q.epoch:Int) == q.epoch) && (((q.seq:Int) == q.seq) && (((0:Int) == q.mask) && (((0:Int) == q.node) && ((((0:Int) == q.oe) && (((0:Int) == q.os) && true)) && (((⟨#[]⟩:ByteArray) == q.block) && true)))))))))],(rqk_b4 q w),[],z4⟩ ⟨d17,d17,d17,trivial,d17,trivial⟩ ?_
         refine hrt [] [.bool (((q.kind:Int) == q.kind) && (((q.stripe:Int) == q.stripe) && (((q.epoch:Int) == q.epoch) && (((q.seq:Int) == q.seq) && (((0:Int) == q.mask) && (((0:Int) == q.node) && ((((0:Int) == q.oe) && (((0:Int) == q.os) && true)) && (((⟨#[]⟩:ByteArray) == q.block) && true))))))))] [] ?_
         intro wx hm
         refine ⟨ret_bool ?_,hm.kept⟩
         rw [rightA_5 (eq_of_beq d15) hs]
         unfold askB5
         clear hm hs d1 d3 d5 d7 d9 d15
         try rw [ask_comm]
         try rw [bytes_beq]
         generalize (q.block == (⟨#[]⟩:ByteArray)) = b
         refine Bool.eq_iff_iff.2 ?_
         cases b <;> simp [wi] at d16 d17 ⊢ <;> omega
        ·skip
         refine hgo 9 rqk_n18 [2] [(wi q.seq 1 16777215) = false,(wi q.seq 1 16777215) = false,(wi q.seq 1 16777215) = false,(wi q.seq 1 16777215) = false] [] [.code rqk_n5,.blk 0,.code [1,1,1,1,1,1]] ⟨[(2,.bool false)],(rqk_b4 q w),[],z4⟩ ⟨d17,d17,d17,d17,trivial⟩ ?_
         refine hrt [] [.bool false] [] ?_
         intro wx hm
         refine ⟨ret_bool ?_,hm.kept⟩
         rw [rightA_5 (eq_of_beq d15) hs]
         unfold askB5
         clear hm hs d1 d3 d5 d7 d9 d15
         try rw [ask_comm]
         try rw [bytes_beq]
         generalize (q.block == (⟨#[]⟩:ByteArray)) = b
         refine Bool.eq_iff_iff.2 ?_
         cases b <;> simp [wi] at d16 d17 ⊢ <;> omega
       ·skip
        refine hgo 12 [oh0,⟨false,3,[]⟩,oh0,oh0,oh0,oh0,⟨false,3,[]⟩,oh0] [2] [(wi q.epoch 1 16777215) = false,(wi q.epoch 1 16777215) = false,false = false,false = false,false = false,false = false] [] [.code rqk_n5,.blk 0,.code [1,1,1,1,1,1]] ⟨[(2,.bool false)],(rqk_b4 q w),[],z4⟩ ⟨d16,d16,rfl,rfl,rfl,rfl,trivial⟩ ?_
        refine hrt [] [.bool false] [] ?_
        intro wx hm
        refine ⟨ret_bool ?_,hm.kept⟩
        rw [rightA_5 (eq_of_beq d15) hs]
        unfold askB5
        clear hm hs d1 d3 d5 d7 d9 d15
        try rw [ask_comm]
        try rw [bytes_beq]
        generalize (q.block == (⟨#[]⟩:ByteArray)) = b
        refine Bool.eq_iff_iff.2 ?_
        cases b <;> simp [wi] at d16 ⊢ <;> omega
      ·skip
       refine hgo 9 rqk_n19 [1,2,3,4,5,26,97] [(q.kind == 5) = false] [] [.code [1,1,1,1,1,0,1,0,1,1,1,1,1,1,1],.blk 0,.code [1,1,1,1,1,1]] ⟨[(1,(pt w.heap.size 0)),(2,.bool false),(3,(pt (w.heap.size + 1) 0)),(4,.bool (wi q.epoch 1 16777215)),(5,.bool (wi q.seq 1 16777215)),(26,.int .i64 q.kind),(97,.bool (q.kind == 7))],(rqk_b1 q w),[],z4⟩ ⟨d15,trivial⟩ ?_
       rcases Bool.eq_false_or_eq_true (q.kind == 7) with d18 | d18
       ·skip
        refine hgo 29 [oh1,oh0,⟨false,0,[⟨false,0,2,1⟩]⟩,oh0,⟨false,0,[⟨false,1,2,1⟩]⟩,oh0,⟨false,0,[⟨false,0,3,1⟩]⟩,oh0,⟨false,0,[⟨false,1,3,1⟩]⟩,oh0,⟨false,0,[⟨false,0,8,1⟩]⟩,oh0,⟨false,0,[⟨false,1,8,1⟩]⟩,oh0,oh0] [1,2,3,5,109] [(q.kind == 7) = true] [(w.heap.size,2,1),(w.heap.size + 1,2,1),(w.heap.size,3,1),(w.heap.size + 1,3,1),(w.heap.size,8,1),(w.heap.size + 1,8,1)] [.ops rqk_n6 [2,3,4,5,6,7,8,9,10,11,12,13,14,15],.code rqk_n7,.blk 0,.code [1,1,1,1,1,1]] ⟨[(1,(pt w.heap.size 0)),(2,.bool false),(3,(pt (w.heap.size + 1) 0)),(5,.bool (wi q.seq 1 16777215)),(109,.bool (wi q.epoch 1 16777215))],(rqk_b5 q w),[],z4⟩ ⟨d18,trivial⟩ ?_
        rcases Bool.eq_false_or_eq_true (wi q.epoch 1 16777215) with d19 | d19
        ·skip
         refine hgo 6 [oh1,oh3,oh0] [1,2,3,112] [(wi q.epoch 1 16777215) = true,(wi q.epoch 1 16777215) = true] [] [.ops rqk_n6 [5,6,7,8,9,10,11,12,13,14,15],.code rqk_n7,.blk 0,.code [1,1,1,1,1,1]] ⟨[(1,(pt w.heap.size 0)),(2,.bool false),(3,(pt (w.heap.size + 1) 0)),(112,.bool (wi q.seq 1 16777215))],(rqk_b5 q w),[],z4⟩ ⟨d19,d19,trivial⟩ ?_
         rcases Bool.eq_false_or_eq_true (wi q.seq 1 16777215) with d20 | d20
         ·skip
          refine hgo 9 rqk_n23 [1,2,3,118] [(wi q.seq 1 16777215) = true,(wi q.seq 1 16777215) = true,(wi q.seq 1 16777215) = true,(wi q.seq 1 16777215) = true,(wi q.seq 1 16777215) = true] [(w.heap.size,8,1)] [.ops rqk_n6 [11,12,13,14,15],.code rqk_n7,.blk 0,.code [1,1,1,1,1,1]] ⟨[(1,(pt w.heap.size 0)),(2,.bool false),(3,(pt (w.heap.size + 1) 0)),(118,.bool ((q.block.size:Int) == 16))],(rqk_b5 q w),[],z4⟩ ⟨d20,d20,d20,d20,d20,trivial⟩ ?_
          rcases Bool.eq_false_or_eq_true ((q.block.size:Int) == 16) with d21 | d21
          ·skip
           refine hgo 9 rqk_n24 [2] [((q.block.size:Int) == 16) = true,((q.block.size:Int) == 16) = true,((q.block.size:Int) == 16) = true,True,((q.block.size:Int) == 16) = true] [(w.heap.size + 1,0,9),(w.heap.size,0,9)] [.code rqk_n7,.blk 0,.code [1,1,1,1,1,1]] ⟨[(2,.bool (((q.kind:Int) == q.kind) && (((q.stripe:Int) == q.stripe) && (((q.epoch:Int) == q.epoch) && (((q.seq:Int) == q.seq) && (((0:Int) == q.mask) && (((0:Int) == q.node) && ((((0:Int) == q.oe) && (((0:Int) == q.os) && true)) && (((q.block:ByteArray) == q.block) && true)))))))))],(rqk_b5 q w),[],z4⟩ ⟨d21,d21,d21,trivial,d21,trivial⟩ ?_
           refine hrt [] [.bool (((q.kind:Int) == q.kind) && (((q.stripe:Int) == q.stripe) && (((q.epoch:Int) == q.epoch) && (((q.seq:Int) == q.seq) && (((0:Int) == q.mask) && (((0:Int) == q.node) && ((((0:Int) == q.oe) && (((0:Int) == q.os) && true)) && (((q.block:ByteArray) == q.block) && true))))))))] [] ?_
           intro wx hm
           refine ⟨ret_bool ?_,hm.kept⟩
           rw [rightA_7 (eq_of_beq d18) hs]
           unfold askB7
           clear hm hs d1 d3 d5 d7 d9 d15 d18
           try rw [ask_comm]
           try rw [bytes_beq]
           generalize (q.block == (⟨#[]⟩:ByteArray)) = b
           refine Bool.eq_iff_iff.2 ?_
           cases b <;> simp [wi] at d19 d20 d21 ⊢ <;> omega
          ·skip
           refine hgo 9 rqk_n18 [2] [((q.block.size:Int) == 16) = false,((q.block.size:Int) == 16) = false,((q.block.size:Int) == 16) = false,((q.block.size:Int) == 16) = false] [] [.code rqk_n7,.blk 0,.code [1,1,1,1,1,1]] ⟨[(2,.bool false)],(rqk_b5 q w),[],z4⟩ ⟨d21,d21,d21,d21,trivial⟩ ?_
           refine hrt [] [.bool false] [] ?_
           intro wx hm
           refine ⟨ret_bool ?_,hm.kept⟩
           rw [rightA_7 (eq_of_beq d18) hs]
           unfold askB7
           clear hm hs d1 d3 d5 d7 d9 d15 d18
           try rw [ask_comm]
           try rw [bytes_beq]
           generalize (q.block == (⟨#[]⟩:ByteArray)) = b
           refine Bool.eq_iff_iff.2 ?_
           cases b <;> simp [wi] at d19 d20 d21 ⊢ <;> omega
         ·skip
          refine hgo 15 rqk_n17 [2] [(wi q.seq 1 16777215) = false,(wi q.seq 1 16777215) = false,(wi q.seq 1 16777215) = false,(wi q.seq 1 16777215) = false,(wi q.seq 1 16777215) = false,false = false,false = false,false = false,false = false] [] [.code rqk_n7,.blk 0,.code [1,1,1,1,1,1]] ⟨[(2,.bool false)],(rqk_b5 q w),[],z4⟩ ⟨d20,d20,d20,d20,d20,rfl,rfl,rfl,rfl,trivial⟩ ?_
          refine hrt [] [.bool false] [] ?_
          intro wx hm
          refine ⟨ret_bool ?_,hm.kept⟩
          rw [rightA_7 (eq_of_beq d18) hs]
          unfold askB7
          clear hm hs d1 d3 d5 d7 d9 d15 d18
          try rw [ask_comm]
          try rw [bytes_beq]
          generalize (q.block == (⟨#[]⟩:ByteArray)) = b
          refine Bool.eq_iff_iff.2 ?_
          cases b <;> simp [wi] at d19 d20 ⊢ <;> omega
        ·skip
         refine hgo 18 [oh0,⟨false,3,[]⟩,oh0,oh0,oh0,oh0,oh0,⟨false,3,[]⟩,oh0,oh0,oh0,oh0,⟨false,3,[]⟩,oh0] [2] [(wi q.epoch 1 16777215) = false,(wi q.epoch 1 16777215) = false,false = false,false = false,false = false,false = false,false = false,false = false,false = false,false = false,false = false] [] [.code rqk_n7,.blk 0,.code [1,1,1,1,1,1]] ⟨[(2,.bool false)],(rqk_b5 q w),[],z4⟩ ⟨d19,d19,rfl,rfl,rfl,rfl,rfl,rfl,rfl,rfl,rfl,trivial⟩ ?_
         refine hrt [] [.bool false] [] ?_
         intro wx hm
         refine ⟨ret_bool ?_,hm.kept⟩
         rw [rightA_7 (eq_of_beq d18) hs]
         unfold askB7
         clear hm hs d1 d3 d5 d7 d9 d15 d18
         try rw [ask_comm]
         try rw [bytes_beq]
         generalize (q.block == (⟨#[]⟩:ByteArray)) = b
         refine Bool.eq_iff_iff.2 ?_
         cases b <;> simp [wi] at d19 ⊢ <;> omega
       ·skip
        refine hgo 9 rqk_n19 [1,2,3,4,26,123] [(q.kind == 7) = false] [] [.code [1,1,1,1,1,0,1,0,1,1,1,1,1,1,1,1,1],.blk 0,.code [1,1,1,1,1,1]] ⟨[(1,(pt w.heap.size 0)),(2,.bool false),(3,(pt (w.heap.size + 1) 0)),(4,.bool (wi q.epoch 1 16777215)),(26,.int .i64 q.kind),(123,.bool (q.kind == 6))],(rqk_b1 q w),[],z4⟩ ⟨d18,trivial⟩ ?_
        rcases Bool.eq_false_or_eq_true (q.kind == 6) with d22 | d22
        ·skip
         refine hgo 29 [oh1,oh0,⟨false,0,[⟨false,0,2,1⟩]⟩,oh0,⟨false,0,[⟨false,1,2,1⟩]⟩,oh0,⟨false,0,[⟨false,0,4,1⟩]⟩,oh0,⟨false,0,[⟨false,1,4,1⟩]⟩,oh0,⟨false,0,[⟨false,0,6,2⟩]⟩,oh0,⟨false,0,[⟨false,1,6,2⟩]⟩,oh0,oh0] [1,2,3,135] [(q.kind == 6) = true] [(w.heap.size,2,1),(w.heap.size + 1,2,1),(w.heap.size,4,1),(w.heap.size + 1,4,1),(w.heap.size,6,2),(w.heap.size + 1,6,2)] [.ops rqk_n8 [2,3,4,5,6,7,8,9,10,11,12,13,14,15,16,17,18,19,20,21,22,23,24,25,26,27,28,29,30,31,32,33,34,35,36,37,38,39,40,41,42],.code rqk_n9,.blk 0,.code [1,1,1,1,1,1]] ⟨[(1,(pt w.heap.size 0)),(2,.bool false),(3,(pt (w.heap.size + 1) 0)),(135,.bool (wi q.epoch 1 16777215))],(rqk_b6 q w),[],z4⟩ ⟨d22,trivial⟩ ?_
         rcases Bool.eq_false_or_eq_true (wi q.epoch 1 16777215) with d23 | d23
         ·skip
          refine hgo 7 [oh1,⟨true,0,[⟨false,0,4,1⟩]⟩,oh1,oh1] [1,2,3,135,139] [(wi q.epoch 1 16777215) = true,(wi q.epoch 1 16777215) = true,(wi q.epoch 1 16777215) = true,(wi q.epoch 1 16777215) = true] [(w.heap.size,4,1)] [.ops rqk_n8 [6,7,8,9,10,11,12,13,14,15,16,17,18,19,20,21,22,23,24,25,26,27,28,29,30,31,32,33,34,35,36,37,38,39,40,41,42],.code rqk_n9,.blk 0,.code [1,1,1,1,1,1]] ⟨[(1,(pt w.heap.size 0)),(2,.bool false),(3,(pt (w.heap.size + 1) 0)),(135,.bool (wi q.epoch 1 16777215)),(139,.bool (q.mask == 0))],(rqk_b6 q w),[],z4⟩ ⟨d23,d23,d23,d23,trivial⟩ ?_
          rcases Bool.eq_false_or_eq_true (q.mask == 0) with d24 | d24
          ·skip
           refine hgo 15 [oh1,oh1,oh1,⟨true,2,[]⟩,oh3,oh0,oh1,oh1,⟨true,0,[⟨false,0,6,1⟩]⟩,oh1,oh3,oh0] [1,2,3,151] [(q.mask == 0) = true,(q.mask == 0) = true,(q.mask == 0) = true,(wi q.epoch 1 16777215) = true,(q.mask == 0) = true,(wi q.epoch 1 16777215) = true,true = true,true = true,true = true,true = true,true = true] [(w.heap.size,6,1)] [.ops rqk_n8 rqk_n13,.code rqk_n9,.blk 0,.code [1,1,1,1,1,1]] ⟨[(1,(pt w.heap.size 0)),(2,.bool false),(3,(pt (w.heap.size + 1) 0)),(151,.bool (decide ((q.oe:Int) ≥ 0)))],(rqk_b6 q w),[],z4⟩ ⟨d24,d24,d24,d23,d24,d23,rfl,rfl,rfl,rfl,rfl,trivial⟩ ?_
           rcases Bool.eq_false_or_eq_true (decide ((q.oe:Int) ≥ 0)) with d25 | d25
           ·skip
            refine hgo 11 rqk_n21 [1,2,3,159] [(decide ((q.oe:Int) ≥ 0)) = true,(decide ((q.oe:Int) ≥ 0)) = true,(decide ((q.oe:Int) ≥ 0)) = true,(decide ((q.oe:Int) ≥ 0)) = true,(decide ((q.oe:Int) ≥ 0)) = true,(decide ((q.oe:Int) ≥ 0)) = true,(decide ((q.oe:Int) ≥ 0)) = true] [(w.heap.size,6,1),(w.heap.size,2,1)] [.ops rqk_n8 rqk_n14,.code rqk_n9,.blk 0,.code [1,1,1,1,1,1]] ⟨[(1,(pt w.heap.size 0)),(2,.bool false),(3,(pt (w.heap.size + 1) 0)),(159,.bool (decide ((q.oe:Int) < q.epoch)))],(rqk_b6 q w),[],z4⟩ ⟨d25,d25,d25,d25,d25,d25,d25,trivial⟩ ?_
            rcases Bool.eq_false_or_eq_true (decide ((q.oe:Int) < q.epoch)) with d26 | d26
            ·skip
             refine hgo 9 rqk_n22 [1,2,3,165] [(decide ((q.oe:Int) < q.epoch)) = true,(decide ((q.oe:Int) < q.epoch)) = true,(decide ((q.oe:Int) < q.epoch)) = true,(decide ((q.oe:Int) < q.epoch)) = true,(decide ((q.oe:Int) < q.epoch)) = true] [(w.heap.size,7,1)] [.ops rqk_n8 [32,33,34,35,36,37,38,39,40,41,42],.code rqk_n9,.blk 0,.code [1,1,1,1,1,1]] ⟨[(1,(pt w.heap.size 0)),(2,.bool false),(3,(pt (w.heap.size + 1) 0)),(165,.bool (decide ((q.os:Int) ≥ 0)))],(rqk_b6 q w),[],z4⟩ ⟨d26,d26,d26,d26,d26,trivial⟩ ?_
             rcases Bool.eq_false_or_eq_true (decide ((q.os:Int) ≥ 0)) with d27 | d27
             ·skip
              refine hgo 9 rqk_n22 [1,2,3,171] [(decide ((q.os:Int) ≥ 0)) = true,(decide ((q.os:Int) ≥ 0)) = true,(decide ((q.os:Int) ≥ 0)) = true,(decide ((q.os:Int) ≥ 0)) = true,(decide ((q.os:Int) ≥ 0)) = true] [(w.heap.size,7,1)] [.ops rqk_n8 [38,39,40,41,42],.code rqk_n9,.blk 0,.code [1,1,1,1,1,1]] ⟨[(1,(pt w.heap.size 0)),(2,.bool false),(3,(pt (w.heap.size + 1) 0)),(171,.bool (decide ((q.os:Int) ≤ 16777215)))],(rqk_b6 q w),[],z4⟩ ⟨d27,d27,d27,d27,d27,trivial⟩ ?_
              rcases Bool.eq_false_or_eq_true (decide ((q.os:Int) ≤ 16777215)) with d28 | d28
              ·skip
               refine hgo 9 rqk_n24 [2] [(decide ((q.os:Int) ≤ 16777215)) = true,(decide ((q.os:Int) ≤ 16777215)) = true,(decide ((q.os:Int) ≤ 16777215)) = true,True,(decide ((q.os:Int) ≤ 16777215)) = true] [(w.heap.size + 1,0,9),(w.heap.size,0,9)] [.code rqk_n9,.blk 0,.code [1,1,1,1,1,1]] ⟨[(2,.bool (((q.kind:Int) == q.kind) && (((q.stripe:Int) == q.stripe) && (((q.epoch:Int) == q.epoch) && (((0:Int) == q.seq) && (((q.mask:Int) == q.mask) && (((0:Int) == q.node) && ((((q.oe:Int) == q.oe) && (((q.os:Int) == q.os) && true)) && (((⟨#[]⟩:ByteArray) == q.block) && true)))))))))],(rqk_b6 q w),[],z4⟩ ⟨d28,d28,d28,trivial,d28,trivial⟩ ?_
               refine hrt [] (rqk_v9 q) [] ?_
               intro wx hm
               refine ⟨ret_bool ?_,hm.kept⟩
               rw [rightA_6 (eq_of_beq d22) hs]
               unfold askB6
               clear hm hs d1 d3 d5 d7 d9 d15 d18 d22
               try rw [ask_comm]
               try rw [bytes_beq]
               generalize (q.block == (⟨#[]⟩:ByteArray)) = b
               refine Bool.eq_iff_iff.2 ?_
               cases b <;> simp [wi] at d23 d24 d25 d26 d27 d28 ⊢ <;> omega
              ·skip
               refine hgo 9 rqk_n18 [2] [(decide ((q.os:Int) ≤ 16777215)) = false,(decide ((q.os:Int) ≤ 16777215)) = false,(decide ((q.os:Int) ≤ 16777215)) = false,(decide ((q.os:Int) ≤ 16777215)) = false] [] [.code rqk_n9,.blk 0,.code [1,1,1,1,1,1]] ⟨[(2,.bool false)],(rqk_b6 q w),[],z4⟩ ⟨d28,d28,d28,d28,trivial⟩ ?_
               refine hrt [] [.bool false] [] ?_
               intro wx hm
               refine ⟨ret_bool ?_,hm.kept⟩
               rw [rightA_6 (eq_of_beq d22) hs]
               unfold askB6
               clear hm hs d1 d3 d5 d7 d9 d15 d18 d22
               try rw [ask_comm]
               try rw [bytes_beq]
               generalize (q.block == (⟨#[]⟩:ByteArray)) = b
               refine Bool.eq_iff_iff.2 ?_
               cases b <;> simp [wi] at d23 d24 d25 d26 d27 d28 ⊢ <;> omega
             ·skip
              refine hgo 15 rqk_n17 [2] [(decide ((q.os:Int) ≥ 0)) = false,(decide ((q.os:Int) ≥ 0)) = false,(decide ((q.os:Int) ≥ 0)) = false,(decide ((q.os:Int) ≥ 0)) = false,(decide ((q.os:Int) ≥ 0)) = false,false = false,false = false,false = false,false = false] [] [.code rqk_n9,.blk 0,.code [1,1,1,1,1,1]] ⟨[(2,.bool false)],(rqk_b6 q w),[],z4⟩ ⟨d27,d27,d27,d27,d27,rfl,rfl,rfl,rfl,trivial⟩ ?_
              refine hrt [] [.bool false] [] ?_
              intro wx hm
              refine ⟨ret_bool ?_,hm.kept⟩
              rw [rightA_6 (eq_of_beq d22) hs]
              unfold askB6
              clear hm hs d1 d3 d5 d7 d9 d15 d18 d22
              try rw [ask_comm]
              try rw [bytes_beq]
              generalize (q.block == (⟨#[]⟩:ByteArray)) = b
              refine Bool.eq_iff_iff.2 ?_
              cases b <;> simp [wi] at d23 d24 d25 d26 d27 ⊢ <;> omega
            ·skip
             refine hgo 21 rqk_n16 [2] [(decide ((q.oe:Int) < q.epoch)) = false,(decide ((q.oe:Int) < q.epoch)) = false,(decide ((q.oe:Int) < q.epoch)) = false,(decide ((q.oe:Int) < q.epoch)) = false,(decide ((q.oe:Int) < q.epoch)) = false,false = false,false = false,false = false,false = false,false = false,false = false,false = false,false = false,false = false] [] [.code rqk_n9,.blk 0,.code [1,1,1,1,1,1]] ⟨[(2,.bool false)],(rqk_b6 q w),[],z4⟩ ⟨d26,d26,d26,d26,d26,rfl,rfl,rfl,rfl,rfl,rfl,rfl,rfl,rfl,trivial⟩ ?_
             refine hrt [] [.bool false] [] ?_
             intro wx hm
             refine ⟨ret_bool ?_,hm.kept⟩
             rw [rightA_6 (eq_of_beq d22) hs]
             unfold askB6
             clear hm hs d1 d3 d5 d7 d9 d15 d18 d22
             try rw [ask_comm]
             try rw [bytes_beq]
             generalize (q.block == (⟨#[]⟩:ByteArray)) = b
             refine Bool.eq_iff_iff.2 ?_
             cases b <;> simp [wi] at d23 d24 d25 d26 ⊢ <;> omega
           ·skip
            refine hgo 29 rqk_n15 [2] [(decide ((q.oe:Int) ≥ 0)) = false,(decide ((q.oe:Int) ≥ 0)) = false,(decide ((q.oe:Int) ≥ 0)) = false,(decide ((q.oe:Int) ≥ 0)) = false,(decide ((q.oe:Int) ≥ 0)) = false,(decide ((q.oe:Int) ≥ 0)) = false,(decide ((q.oe:Int) ≥ 0)) = false,false = false,false = false,false = false,false = false,false = false,false = false,false = false,false = false,false = false,false = false,false = false,false = false,false = false,false = false] [] [.code rqk_n9,.blk 0,.code [1,1,1,1,1,1]] ⟨[(2,.bool false)],(rqk_b6 q w),[],z4⟩ ⟨d25,d25,d25,d25,d25,d25,d25,rfl,rfl,rfl,rfl,rfl,rfl,rfl,rfl,rfl,rfl,rfl,rfl,rfl,rfl,trivial⟩ ?_
            refine hrt [] [.bool false] [] ?_
            intro wx hm
            refine ⟨ret_bool ?_,hm.kept⟩
            rw [rightA_6 (eq_of_beq d22) hs]
            unfold askB6
            clear hm hs d1 d3 d5 d7 d9 d15 d18 d22
            try rw [ask_comm]
            try rw [bytes_beq]
            generalize (q.block == (⟨#[]⟩:ByteArray)) = b
            refine Bool.eq_iff_iff.2 ?_
            cases b <;> simp [wi] at d23 d24 d25 ⊢ <;> omega
          ·skip
           refine hgo 9 [oh0,⟨false,0,[⟨false,0,4,1⟩]⟩,oh0,⟨true,3,[]⟩,oh3,oh0] [1,2,3,145] [(q.mask == 0) = false,(q.mask == 0) = false,(q.mask == 0) = false,(wi q.epoch 1 16777215) = true,(q.mask == 0) = false,(wi q.epoch 1 16777215) = true] [(w.heap.size,4,1)] [.ops rqk_n8 [12,13,14,15,16,17,18,19,20,21,22,23,24,25,26,27,28,29,30,31,32,33,34,35,36,37,38,39,40,41,42],.code rqk_n9,.blk 0,.code [1,1,1,1,1,1]] ⟨[(1,(pt w.heap.size 0)),(2,.bool false),(3,(pt (w.heap.size + 1) 0)),(145,.bool (q.mask == 1))],(rqk_b6 q w),[],z4⟩ ⟨d24,d24,d24,d23,d24,d23,trivial⟩ ?_
           rcases Bool.eq_false_or_eq_true (q.mask == 1) with d29 | d29
           ·skip
            refine hgo 9 [oh1,oh1,⟨true,0,[⟨false,0,6,1⟩]⟩,oh1,oh3,oh0] [1,2,3,151] [(q.mask == 1) = true,(q.mask == 1) = true,(q.mask == 1) = true,(q.mask == 1) = true,(q.mask == 1) = true] [(w.heap.size,6,1)] [.ops rqk_n8 rqk_n13,.code rqk_n9,.blk 0,.code [1,1,1,1,1,1]] ⟨[(1,(pt w.heap.size 0)),(2,.bool false),(3,(pt (w.heap.size + 1) 0)),(151,.bool (decide ((q.oe:Int) ≥ 0)))],(rqk_b6 q w),[],z4⟩ ⟨d29,d29,d29,d29,d29,trivial⟩ ?_
            rcases Bool.eq_false_or_eq_true (decide ((q.oe:Int) ≥ 0)) with d30 | d30
            ·skip
             refine hgo 11 rqk_n21 [1,2,3,159] [(decide ((q.oe:Int) ≥ 0)) = true,(decide ((q.oe:Int) ≥ 0)) = true,(decide ((q.oe:Int) ≥ 0)) = true,(decide ((q.oe:Int) ≥ 0)) = true,(decide ((q.oe:Int) ≥ 0)) = true,(decide ((q.oe:Int) ≥ 0)) = true,(decide ((q.oe:Int) ≥ 0)) = true] [(w.heap.size,6,1),(w.heap.size,2,1)] [.ops rqk_n8 rqk_n14,.code rqk_n9,.blk 0,.code [1,1,1,1,1,1]] ⟨[(1,(pt w.heap.size 0)),(2,.bool false),(3,(pt (w.heap.size + 1) 0)),(159,.bool (decide ((q.oe:Int) < q.epoch)))],(rqk_b6 q w),[],z4⟩ ⟨d30,d30,d30,d30,d30,d30,d30,trivial⟩ ?_
             rcases Bool.eq_false_or_eq_true (decide ((q.oe:Int) < q.epoch)) with d31 | d31
             ·skip
              refine hgo 9 rqk_n22 [1,2,3,165] [(decide ((q.oe:Int) < q.epoch)) = true,(decide ((q.oe:Int) < q.epoch)) = true,(decide ((q.oe:Int) < q.epoch)) = true,(decide ((q.oe:Int) < q.epoch)) = true,(decide ((q.oe:Int) < q.epoch)) = true] [(w.heap.size,7,1)] [.ops rqk_n8 [32,33,34,35,36,37,38,39,40,41,42],.code rqk_n9,.blk 0,.code [1,1,1,1,1,1]] ⟨[(1,(pt w.heap.size 0)),(2,.bool false),(3,(pt (w.heap.size + 1) 0)),(165,.bool (decide ((q.os:Int) ≥ 0)))],(rqk_b6 q w),[],z4⟩ ⟨d31,d31,d31,d31,d31,trivial⟩ ?_
              rcases Bool.eq_false_or_eq_true (decide ((q.os:Int) ≥ 0)) with d32 | d32
              ·skip
               refine hgo 9 rqk_n22 [1,2,3,171] [(decide ((q.os:Int) ≥ 0)) = true,(decide ((q.os:Int) ≥ 0)) = true,(decide ((q.os:Int) ≥ 0)) = true,(decide ((q.os:Int) ≥ 0)) = true,(decide ((q.os:Int) ≥ 0)) = true] [(w.heap.size,7,1)] [.ops rqk_n8 [38,39,40,41,42],.code rqk_n9,.blk 0,.code [1,1,1,1,1,1]] ⟨[(1,(pt w.heap.size 0)),(2,.bool false),(3,(pt (w.heap.size + 1) 0)),(171,.bool (decide ((q.os:Int) ≤ 16777215)))],(rqk_b6 q w),[],z4⟩ ⟨d32,d32,d32,d32,d32,trivial⟩ ?_
               rcases Bool.eq_false_or_eq_true (decide ((q.os:Int) ≤ 16777215)) with d33 | d33
               ·skip
                refine hgo 9 rqk_n24 [2] [(decide ((q.os:Int) ≤ 16777215)) = true,(decide ((q.os:Int) ≤ 16777215)) = true,(decide ((q.os:Int) ≤ 16777215)) = true,True,(decide ((q.os:Int) ≤ 16777215)) = true] [(w.heap.size + 1,0,9),(w.heap.size,0,9)] [.code rqk_n9,.blk 0,.code [1,1,1,1,1,1]] ⟨[(2,.bool (((q.kind:Int) == q.kind) && (((q.stripe:Int) == q.stripe) && (((q.epoch:Int) == q.epoch) && (((0:Int) == q.seq) && (((q.mask:Int) == q.mask) && (((0:Int) == q.node) && ((((q.oe:Int) == q.oe) && (((q.os:Int) == q.os) && true)) && (((⟨#[]⟩:ByteArray) == q.block) && true)))))))))],(rqk_b6 q w),[],z4⟩ ⟨d33,d33,d33,trivial,d33,trivial⟩ ?_
                refine hrt [] (rqk_v9 q) [] ?_
                intro wx hm
                refine ⟨ret_bool ?_,hm.kept⟩
                rw [rightA_6 (eq_of_beq d22) hs]
                unfold askB6
                clear hm hs d1 d3 d5 d7 d9 d15 d18 d22
                try rw [ask_comm]
                try rw [bytes_beq]
                generalize (q.block == (⟨#[]⟩:ByteArray)) = b
                refine Bool.eq_iff_iff.2 ?_
                cases b <;> simp [wi] at d23 d24 d29 d30 d31 d32 d33 ⊢ <;> omega
               ·skip
                refine hgo 9 rqk_n18 [2] [(decide ((q.os:Int) ≤ 16777215)) = false,(decide ((q.os:Int) ≤ 16777215)) = false,(decide ((q.os:Int) ≤ 16777215)) = false,(decide ((q.os:Int) ≤ 16777215)) = false] [] [.code rqk_n9,.blk 0,.code [1,1,1,1,1,1]] ⟨[(2,.bool false)],(rqk_b6 q w),[],z4⟩ ⟨d33,d33,d33,d33,trivial⟩ ?_
                refine hrt [] [.bool false] [] ?_
                intro wx hm
                refine ⟨ret_bool ?_,hm.kept⟩
                rw [rightA_6 (eq_of_beq d22) hs]
                unfold askB6
                clear hm hs d1 d3 d5 d7 d9 d15 d18 d22
                try rw [ask_comm]
                try rw [bytes_beq]
                generalize (q.block == (⟨#[]⟩:ByteArray)) = b
                refine Bool.eq_iff_iff.2 ?_
                cases b <;> simp [wi] at d23 d24 d29 d30 d31 d32 d33 ⊢ <;> omega
              ·skip
               refine hgo 15 rqk_n17 [2] [(decide ((q.os:Int) ≥ 0)) = false,(decide ((q.os:Int) ≥ 0)) = false,(decide ((q.os:Int) ≥ 0)) = false,(decide ((q.os:Int) ≥ 0)) = false,(decide ((q.os:Int) ≥ 0)) = false,false = false,false = false,false = false,false = false] [] [.code rqk_n9,.blk 0,.code [1,1,1,1,1,1]] ⟨[(2,.bool false)],(rqk_b6 q w),[],z4⟩ ⟨d32,d32,d32,d32,d32,rfl,rfl,rfl,rfl,trivial⟩ ?_
               refine hrt [] [.bool false] [] ?_
               intro wx hm
               refine ⟨ret_bool ?_,hm.kept⟩
               rw [rightA_6 (eq_of_beq d22) hs]
               unfold askB6
               clear hm hs d1 d3 d5 d7 d9 d15 d18 d22
               try rw [ask_comm]
               try rw [bytes_beq]
               generalize (q.block == (⟨#[]⟩:ByteArray)) = b
               refine Bool.eq_iff_iff.2 ?_
               cases b <;> simp [wi] at d23 d24 d29 d30 d31 d32 ⊢ <;> omega
             ·skip
              refine hgo 21 rqk_n16 [2] [(decide ((q.oe:Int) < q.epoch)) = false,(decide ((q.oe:Int) < q.epoch)) = false,(decide ((q.oe:Int) < q.epoch)) = false,(decide ((q.oe:Int) < q.epoch)) = false,(decide ((q.oe:Int) < q.epoch)) = false,false = false,false = false,false = false,false = false,false = false,false = false,false = false,false = false,false = false] [] [.code rqk_n9,.blk 0,.code [1,1,1,1,1,1]] ⟨[(2,.bool false)],(rqk_b6 q w),[],z4⟩ ⟨d31,d31,d31,d31,d31,rfl,rfl,rfl,rfl,rfl,rfl,rfl,rfl,rfl,trivial⟩ ?_
              refine hrt [] [.bool false] [] ?_
              intro wx hm
              refine ⟨ret_bool ?_,hm.kept⟩
              rw [rightA_6 (eq_of_beq d22) hs]
              unfold askB6
              clear hm hs d1 d3 d5 d7 d9 d15 d18 d22
              try rw [ask_comm]
              try rw [bytes_beq]
              generalize (q.block == (⟨#[]⟩:ByteArray)) = b
              refine Bool.eq_iff_iff.2 ?_
              cases b <;> simp [wi] at d23 d24 d29 d30 d31 ⊢ <;> omega
            ·skip
             refine hgo 29 rqk_n15 [2] [(decide ((q.oe:Int) ≥ 0)) = false,(decide ((q.oe:Int) ≥ 0)) = false,(decide ((q.oe:Int) ≥ 0)) = false,(decide ((q.oe:Int) ≥ 0)) = false,(decide ((q.oe:Int) ≥ 0)) = false,(decide ((q.oe:Int) ≥ 0)) = false,(decide ((q.oe:Int) ≥ 0)) = false,false = false,false = false,false = false,false = false,false = false,false = false,false = false,false = false,false = false,false = false,false = false,false = false,false = false,false = false] [] [.code rqk_n9,.blk 0,.code [1,1,1,1,1,1]] ⟨[(2,.bool false)],(rqk_b6 q w),[],z4⟩ ⟨d30,d30,d30,d30,d30,d30,d30,rfl,rfl,rfl,rfl,rfl,rfl,rfl,rfl,rfl,rfl,rfl,rfl,rfl,rfl,trivial⟩ ?_
             refine hrt [] [.bool false] [] ?_
             intro wx hm
             refine ⟨ret_bool ?_,hm.kept⟩
             rw [rightA_6 (eq_of_beq d22) hs]
             unfold askB6
             clear hm hs d1 d3 d5 d7 d9 d15 d18 d22
             try rw [ask_comm]
             try rw [bytes_beq]
             generalize (q.block == (⟨#[]⟩:ByteArray)) = b
             refine Bool.eq_iff_iff.2 ?_
             cases b <;> simp [wi] at d23 d24 d29 d30 ⊢ <;> omega
           ·skip
            refine hgo 35 [oh0,oh0,oh0,oh0,⟨false,3,[]⟩,oh0,oh0,oh0,oh0,oh0,oh0,oh0,⟨false,3,[]⟩,oh0,oh0,oh0,oh0,oh0,⟨false,3,[]⟩,oh0,oh0,oh0,oh0,oh0,⟨false,3,[]⟩,oh0,oh0,oh0,oh0,⟨false,3,[]⟩,oh0] [2] [(q.mask == 1) = false,(q.mask == 1) = false,(q.mask == 1) = false,(q.mask == 1) = false,(q.mask == 1) = false,false = false,false = false,false = false,false = false,false = false,false = false,false = false,false = false,false = false,false = false,false = false,false = false,false = false,false = false,false = false,false = false,false = false,false = false,false = false,false = false,false = false] [] [.code rqk_n9,.blk 0,.code [1,1,1,1,1,1]] ⟨[(2,.bool false)],(rqk_b6 q w),[],z4⟩ ⟨d29,d29,d29,d29,d29,rfl,rfl,rfl,rfl,rfl,rfl,rfl,rfl,rfl,rfl,rfl,rfl,rfl,rfl,rfl,rfl,rfl,rfl,rfl,rfl,rfl,trivial⟩ ?_
            refine hrt [] [.bool false] [] ?_
            intro wx hm
            refine ⟨ret_bool ?_,hm.kept⟩
            rw [rightA_6 (eq_of_beq d22) hs]
            unfold askB6
            clear hm hs d1 d3 d5 d7 d9 d15 d18 d22
            try rw [ask_comm]
            try rw [bytes_beq]
            generalize (q.block == (⟨#[]⟩:ByteArray)) = b
            refine Bool.eq_iff_iff.2 ?_
            cases b <;> simp [wi] at d23 d24 d29 ⊢ <;> omega
         ·skip
          refine hgo 45 [oh0,oh0,oh0,oh0,oh0,oh0,oh0,oh0,⟨false,3,[]⟩,oh0,oh0,oh0,oh0,oh0,⟨false,3,[]⟩,oh0,oh0,oh0,oh0,oh0,oh0,oh0,⟨false,3,[]⟩,oh0,oh0,oh0,oh0,oh0,⟨false,3,[]⟩,oh0,oh0,oh0,oh0,oh0,⟨false,3,[]⟩,oh0,oh0,oh0,oh0,⟨false,3,[]⟩,oh0] [2] [(wi q.epoch 1 16777215) = false,(wi q.epoch 1 16777215) = false,(wi q.epoch 1 16777215) = false,(wi q.epoch 1 16777215) = false,(wi q.epoch 1 16777215) = false,(wi q.epoch 1 16777215) = false,false = false,false = false,false = false,false = false,false = false,false = false,false = false,false = false,false = false,false = false,false = false,false = false,false = false,false = false,false = false,false = false,false = false,false = false,false = false,false = false,false = false,false = false,false = false,false = false,false = false,false = false] [] [.code rqk_n9,.blk 0,.code [1,1,1,1,1,1]] ⟨[(2,.bool false)],(rqk_b6 q w),[],z4⟩ ⟨d23,d23,d23,d23,d23,d23,rfl,rfl,rfl,rfl,rfl,rfl,rfl,rfl,rfl,rfl,rfl,rfl,rfl,rfl,rfl,rfl,rfl,rfl,rfl,rfl,rfl,rfl,rfl,rfl,rfl,rfl,trivial⟩ ?_
          refine hrt [] [.bool false] [] ?_
          intro wx hm
          refine ⟨ret_bool ?_,hm.kept⟩
          rw [rightA_6 (eq_of_beq d22) hs]
          unfold askB6
          clear hm hs d1 d3 d5 d7 d9 d15 d18 d22
          try rw [ask_comm]
          try rw [bytes_beq]
          generalize (q.block == (⟨#[]⟩:ByteArray)) = b
          refine Bool.eq_iff_iff.2 ?_
          cases b <;> simp [wi] at d23 ⊢ <;> omega
        ·skip
         refine hgo 9 rqk_n19 [1,2,3,4,26,176] [(q.kind == 6) = false] [] [.code [1,1,1,1,1,0,1,0,1,1,1,1,1,1,1,1,1,1,1],.blk 0,.code [1,1,1,1,1,1]] ⟨[(1,(pt w.heap.size 0)),(2,.bool false),(3,(pt (w.heap.size + 1) 0)),(4,.bool (wi q.epoch 1 16777215)),(26,.int .i64 q.kind),(176,.bool (q.kind == 8))],(rqk_b1 q w),[],z4⟩ ⟨d22,trivial⟩ ?_
         rcases Bool.eq_false_or_eq_true (q.kind == 8) with d34 | d34
         ·skip
          refine hgo 11 [oh1,⟨false,0,[⟨false,1,0,9⟩]⟩,⟨false,0,[⟨false,0,0,9⟩]⟩,oh2,oh0] [2] [(q.kind == 8) = true,True] [(w.heap.size + 1,0,9),(w.heap.size,0,9)] [.code [1,1,1,1,1,0,1,0,1,1,1,1,1,1,1,1,1,1,1,0,1],.blk 0,.code [1,1,1,1,1,1]] ⟨[(2,.bool (((q.kind:Int) == q.kind) && (((q.stripe:Int) == q.stripe) && (((0:Int) == q.epoch) && (((0:Int) == q.seq) && (((0:Int) == q.mask) && (((0:Int) == q.node) && ((((0:Int) == q.oe) && (((0:Int) == q.os) && true)) && (((⟨#[]⟩:ByteArray) == q.block) && true)))))))))],(rqk_b1 q w),[],z4⟩ ⟨d34,trivial,trivial⟩ ?_
          refine hrt [] [.bool (((q.kind:Int) == q.kind) && (((q.stripe:Int) == q.stripe) && (((0:Int) == q.epoch) && (((0:Int) == q.seq) && (((0:Int) == q.mask) && (((0:Int) == q.node) && ((((0:Int) == q.oe) && (((0:Int) == q.os) && true)) && (((⟨#[]⟩:ByteArray) == q.block) && true))))))))] [] ?_
          intro wx hm
          refine ⟨ret_bool ?_,hm.kept⟩
          rw [rightA_8 (eq_of_beq d34) hs]
          unfold askB8
          clear hm hs d1 d3 d5 d7 d9 d15 d18 d22 d34
          try rw [ask_comm]
          try rw [bytes_beq]
          generalize (q.block == (⟨#[]⟩:ByteArray)) = b
          refine Bool.eq_iff_iff.2 ?_
          cases b <;> simp <;> omega
         ·skip
          refine hgo 9 rqk_n19 [1,2,3,4,181] [(q.kind == 8) = false] [] [.code [1,1,1,1,1,0,1,0,1,1,1,1,1,1,1,1,1,1,1,1,1],.blk 0,.code [1,1,1,1,1,1]] ⟨[(1,(pt w.heap.size 0)),(2,.bool false),(3,(pt (w.heap.size + 1) 0)),(4,.bool (wi q.epoch 1 16777215)),(181,.bool (q.kind == 9))],(rqk_b1 q w),[],z4⟩ ⟨d34,trivial⟩ ?_
          rcases Bool.eq_false_or_eq_true (q.kind == 9) with d35 | d35
          ·skip
           refine hgo 22 [oh1,oh0,⟨false,0,[⟨false,0,2,1⟩]⟩,oh0,⟨false,0,[⟨false,1,2,1⟩]⟩,oh0,⟨false,0,[⟨false,0,5,1⟩]⟩,oh0,⟨false,0,[⟨false,1,5,1⟩]⟩,oh0,oh0] [1,2,3,190] [(q.kind == 9) = true] [(w.heap.size,2,1),(w.heap.size + 1,2,1),(w.heap.size,5,1),(w.heap.size + 1,5,1)] [.ops rqk_n10 [2,3,4,5,6,7,8,9,10,11,12,13,14,15,16],.code rqk_n11,.blk 0,.code [1,1,1,1,1,1]] ⟨[(1,(pt w.heap.size 0)),(2,.bool false),(3,(pt (w.heap.size + 1) 0)),(190,.bool (wi q.epoch 1 16777215))],(rqk_b7 q w),[],z4⟩ ⟨d35,trivial⟩ ?_
           rcases Bool.eq_false_or_eq_true (wi q.epoch 1 16777215) with d36 | d36
           ·skip
            refine hgo 8 [oh1,⟨true,0,[⟨false,0,5,1⟩]⟩,oh1,oh3,oh0] [1,2,3,195] [(wi q.epoch 1 16777215) = true,(wi q.epoch 1 16777215) = true,(wi q.epoch 1 16777215) = true,(wi q.epoch 1 16777215) = true] [(w.heap.size,5,1)] [.ops rqk_n10 [7,8,9,10,11,12,13,14,15,16],.code rqk_n11,.blk 0,.code [1,1,1,1,1,1]] ⟨[(1,(pt w.heap.size 0)),(2,.bool false),(3,(pt (w.heap.size + 1) 0)),(195,.bool (decide ((q.node:Int) ≥ 0)))],(rqk_b7 q w),[],z4⟩ ⟨d36,d36,d36,d36,trivial⟩ ?_
            rcases Bool.eq_false_or_eq_true (decide ((q.node:Int) ≥ 0)) with d37 | d37
            ·skip
             refine hgo 8 [oh1,⟨true,0,[⟨false,0,5,1⟩]⟩,oh1,oh3,oh0] [1,2,3,200] [(decide ((q.node:Int) ≥ 0)) = true,(decide ((q.node:Int) ≥ 0)) = true,(decide ((q.node:Int) ≥ 0)) = true,(decide ((q.node:Int) ≥ 0)) = true] [(w.heap.size,5,1)] [.ops rqk_n10 [12,13,14,15,16],.code rqk_n11,.blk 0,.code [1,1,1,1,1,1]] ⟨[(1,(pt w.heap.size 0)),(2,.bool false),(3,(pt (w.heap.size + 1) 0)),(200,.bool (decide ((q.node:Int) ≤ 5)))],(rqk_b7 q w),[],z4⟩ ⟨d37,d37,d37,d37,trivial⟩ ?_
             rcases Bool.eq_false_or_eq_true (decide ((q.node:Int) ≤ 5)) with d38 | d38
             ·skip
              refine hgo 9 rqk_n24 [2] [(decide ((q.node:Int) ≤ 5)) = true,(decide ((q.node:Int) ≤ 5)) = true,(decide ((q.node:Int) ≤ 5)) = true,True,(decide ((q.node:Int) ≤ 5)) = true] [(w.heap.size + 1,0,9),(w.heap.size,0,9)] [.code rqk_n11,.blk 0,.code [1,1,1,1,1,1]] ⟨[(2,.bool (((q.kind:Int) == q.kind) && (((q.stripe:Int) == q.stripe) && (((q.epoch:Int) == q.epoch) && (((0:Int) == q.seq) && (((0:Int) == q.mask) && (((q.node:Int) == q.node) && ((((0:Int) == q.oe) && (((0:Int) == q.os) && true)) && (((⟨#[]⟩:ByteArray) == q.block) && true)))))))))],(rqk_b7 q w),[],z4⟩ ⟨d38,d38,d38,trivial,d38,trivial⟩ ?_
              refine hrt [] [.bool (((q.kind:Int) == q.kind) && (((q.stripe:Int) == q.stripe) && (((q.epoch:Int) == q.epoch) && (((0:Int) == q.seq) && (((0:Int) == q.mask) && (((q.node:Int) == q.node) && ((((0:Int) == q.oe) && (((0:Int) == q.os) && true)) && (((⟨#[]⟩:ByteArray) == q.block) && true))))))))] [] ?_
              intro wx hm
              refine ⟨ret_bool ?_,hm.kept⟩
              rw [rightA_9 (eq_of_beq d35) hs]
              unfold askB9
              clear hm hs d1 d3 d5 d7 d9 d15 d18 d22 d34 d35
              try rw [ask_comm]
              try rw [bytes_beq]
              generalize (q.block == (⟨#[]⟩:ByteArray)) = b
              refine Bool.eq_iff_iff.2 ?_
              cases b <;> simp [wi] at d36 d37 d38 ⊢ <;> omega
             ·skip
              refine hgo 9 rqk_n18 [2] [(decide ((q.node:Int) ≤ 5)) = false,(decide ((q.node:Int) ≤ 5)) = false,(decide ((q.node:Int) ≤ 5)) = false,(decide ((q.node:Int) ≤ 5)) = false] [] [.code rqk_n11,.blk 0,.code [1,1,1,1,1,1]] ⟨[(2,.bool false)],(rqk_b7 q w),[],z4⟩ ⟨d38,d38,d38,d38,trivial⟩ ?_
              refine hrt [] [.bool false] [] ?_
              intro wx hm
              refine ⟨ret_bool ?_,hm.kept⟩
              rw [rightA_9 (eq_of_beq d35) hs]
              unfold askB9
              clear hm hs d1 d3 d5 d7 d9 d15 d18 d22 d34 d35
              try rw [ask_comm]
              try rw [bytes_beq]
              generalize (q.block == (⟨#[]⟩:ByteArray)) = b
              refine Bool.eq_iff_iff.2 ?_
              cases b <;> simp [wi] at d36 d37 d38 ⊢ <;> omega
            ·skip
             refine hgo 14 [oh0,oh0,oh0,⟨false,3,[]⟩,oh0,oh0,oh0,oh0,⟨false,3,[]⟩,oh0] [2] [(decide ((q.node:Int) ≥ 0)) = false,(decide ((q.node:Int) ≥ 0)) = false,(decide ((q.node:Int) ≥ 0)) = false,(decide ((q.node:Int) ≥ 0)) = false,false = false,false = false,false = false,false = false] [] [.code rqk_n11,.blk 0,.code [1,1,1,1,1,1]] ⟨[(2,.bool false)],(rqk_b7 q w),[],z4⟩ ⟨d37,d37,d37,d37,rfl,rfl,rfl,rfl,trivial⟩ ?_
             refine hrt [] [.bool false] [] ?_
             intro wx hm
             refine ⟨ret_bool ?_,hm.kept⟩
             rw [rightA_9 (eq_of_beq d35) hs]
             unfold askB9
             clear hm hs d1 d3 d5 d7 d9 d15 d18 d22 d34 d35
             try rw [ask_comm]
             try rw [bytes_beq]
             generalize (q.block == (⟨#[]⟩:ByteArray)) = b
             refine Bool.eq_iff_iff.2 ?_
             cases b <;> simp [wi] at d36 d37 ⊢ <;> omega
           ·skip
            refine hgo 19 [oh0,oh0,oh0,⟨false,3,[]⟩,oh0,oh0,oh0,oh0,⟨false,3,[]⟩,oh0,oh0,oh0,oh0,⟨false,3,[]⟩,oh0] [2] [(wi q.epoch 1 16777215) = false,(wi q.epoch 1 16777215) = false,(wi q.epoch 1 16777215) = false,(wi q.epoch 1 16777215) = false,false = false,false = false,false = false,false = false,false = false,false = false,false = false,false = false] [] [.code rqk_n11,.blk 0,.code [1,1,1,1,1,1]] ⟨[(2,.bool false)],(rqk_b7 q w),[],z4⟩ ⟨d36,d36,d36,d36,rfl,rfl,rfl,rfl,rfl,rfl,rfl,rfl,trivial⟩ ?_
            refine hrt [] [.bool false] [] ?_
            intro wx hm
            refine ⟨ret_bool ?_,hm.kept⟩
            rw [rightA_9 (eq_of_beq d35) hs]
            unfold askB9
            clear hm hs d1 d3 d5 d7 d9 d15 d18 d22 d34 d35
            try rw [ask_comm]
            try rw [bytes_beq]
            generalize (q.block == (⟨#[]⟩:ByteArray)) = b
            refine Bool.eq_iff_iff.2 ?_
            cases b <;> simp [wi] at d36 ⊢ <;> omega
          ·skip
           refine hgo 10 [oh0,oh0] [2] [(q.kind == 9) = false] [] [.code [1,1,1,1,1,1,1]] ⟨[(2,.bool false)],(rqk_b1 q w),[],z4⟩ ⟨d35,trivial⟩ ?_
           refine hrt [] [.bool false] [] ?_
           intro wx hm
           exact ⟨ret_bool (by unfold rightA; rw [hs,d1,d3,d5,d9,d15,d22,d18,d34,d35,d7]; rfl),hm.kept⟩
def rqs0_v1 (q:AskM):List Value:=[.int .i64 q.kind,.int .i64 q.stripe,.int .i64 q.epoch,.int .i64 q.seq,.int .i64 q.mask,.int .i64 q.node,.int .i64 q.oe,.int .i64 q.os,.string q.block]
set_option maxRecDepth 100000 in
set_option maxHeartbeats 4000000 in
theorem refAsk_s0 (q:AskM) (hs:wi q.stripe 0 7 = false) (hsb:q.stripe < 0) (w:World) :
  Calls Try.prog 37 #[.agg #[.int .i64 q.kind,.int .i64 q.stripe,.int .i64 q.epoch,.int .i64 q.seq,.int .i64 q.mask,.int .i64 q.node,.int .i64 q.oe,.int .i64 q.os,.string q.block]] w (RetK (.bool (rightA q)) w):=by
 refine calls_of_holds (S:=(fun _=>False)) (l:=[.agg (List.toArray (rqs0_v1 q))]) (n:=205) Try.func37 (body_of (by kernel_rfl)) rfl (by simp) (MemOk.none w _) ?_
 refine hgo 25 [oh0,oh0,oh0,⟨false,0,[⟨false,0,1,1⟩]⟩,oh0,oh0,oh1,oh1,oh1,oh3,oh1,oh0] [1,2] [(decide ((q.stripe:Int) < 0)) = true,(decide ((q.stripe:Int) < 0)) = true,(decide ((q.stripe:Int) < 0)) = true,(decide ((q.stripe:Int) < 0)) = true,true = true] [(w.heap.size,1,1)] [.code [1,0,1,0,1],.code [1,1]] ⟨[(1,(pt w.heap.size 0)),(2,.bool false)],[⟨w.heap.size,25,true,(rqs0_v1 q)⟩],[],w.heap.size + 1⟩ ⟨decide_eq_true (by omega),decide_eq_true (by omega),decide_eq_true (by omega),decide_eq_true (by omega),rfl,trivial⟩ ?_
 refine hrt [] [.bool false] [] ?_
 intro wx hm
 exact ⟨ret_bool (by unfold rightA; rw [hs]; rfl),hm.kept⟩
def rqs1_v1 (q:AskM):List Value:=[.int .i64 q.kind,.int .i64 q.stripe,.int .i64 q.epoch,.int .i64 q.seq,.int .i64 q.mask,.int .i64 q.node,.int .i64 q.oe,.int .i64 q.os,.string q.block]
set_option maxRecDepth 100000 in
set_option maxHeartbeats 4000000 in
theorem refAsk_s1 (q:AskM) (hs:wi q.stripe 0 7 = false) (hsb:7 < q.stripe) (w:World) :
  Calls Try.prog 37 #[.agg #[.int .i64 q.kind,.int .i64 q.stripe,.int .i64 q.epoch,.int .i64 q.seq,.int .i64 q.mask,.int .i64 q.node,.int .i64 q.oe,.int .i64 q.os,.string q.block]] w (RetK (.bool (rightA q)) w):=by
 refine calls_of_holds (S:=(fun _=>False)) (l:=[.agg (List.toArray (rqs1_v1 q))]) (n:=205) Try.func37 (body_of (by kernel_rfl)) rfl (by simp) (MemOk.none w _) ?_
 refine hgo 25 [oh0,oh0,oh0,⟨false,0,[⟨false,0,1,1⟩]⟩,oh0,oh0,oh0,⟨false,0,[⟨false,0,1,1⟩]⟩,oh0,⟨false,3,[]⟩,oh1,oh0] [1,2] [(decide ((q.stripe:Int) < 0)) = false,(decide ((q.stripe:Int) < 0)) = false,(decide ((q.stripe:Int) < 0)) = false,(decide ((q.stripe:Int) < 0)) = false,(decide ((q.stripe:Int) ≥ 8)) = true] [(w.heap.size,1,1),(w.heap.size,1,1)] [.code [1,0,1,0,1],.code [1,1]] ⟨[(1,(pt w.heap.size 0)),(2,.bool false)],[⟨w.heap.size,25,true,(rqs1_v1 q)⟩],[],w.heap.size + 1⟩ ⟨decide_eq_false (by omega),decide_eq_false (by omega),decide_eq_false (by omega),decide_eq_false (by omega),decide_eq_true (by omega),trivial⟩ ?_
 refine hrt [] [.bool false] [] ?_
 intro wx hm
 exact ⟨ret_bool (by unfold rightA; rw [hs]; rfl),hm.kept⟩
theorem refAskAny (q:AskM) (w:World):Calls Try.prog 37 #[.agg #[.int .i64 q.kind,.int .i64 q.stripe,.int .i64 q.epoch,.int .i64 q.seq,.int .i64 q.mask,.int .i64 q.node,.int .i64 q.oe,.int .i64 q.os,.string q.block]] w (RetK (.bool (rightA q)) w):=by
 by_cases h0:q.stripe < 0
 ·exact refAsk_s0 q (by unfold wi; rw [decide_eq_false (by omega)]; rfl) h0 w
 by_cases h7:7 < q.stripe
 ·exact refAsk_s1 q (by unfold wi; rw [decide_eq_false (show ¬ q.stripe ≤ 7 by omega),Bool.and_false]) h7 w
 have hs:wi q.stripe 0 7 = true:=wi_true (by omega)
 have hsb:0 ≤ q.stripe ∧ q.stripe ≤ 7:=by omega
 exact refAsk_k q hs hsb w
end Go.Proofs.Ytkffgdfbdmgncaa
