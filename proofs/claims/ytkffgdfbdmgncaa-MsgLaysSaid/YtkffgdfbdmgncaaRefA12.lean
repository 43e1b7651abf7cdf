import Derived.Test.YtkffgdfbdmgncaaAsk12
namespace Go.Proofs.Ytkffgdfbdmgncaa
open Go.RowKit
theorem ask_comm {b:ByteArray}:((⟨#[]⟩:ByteArray) == b) = (b == ⟨#[]⟩):=by
 rw [beq_toListBytes,beq_toListBytes]
 exact BEq.comm
set_option maxRecDepth 100000 in
set_option maxHeartbeats 4000000 in
theorem refNumB_any (a:Int) (w:World) :
  Calls Try.prog 55 #[.int .i64 a] w (RetK (.bool (wi a 1 16777215)) w):=by
 refine calls_of_holds (S:=(fun _=>False)) (l:=[.int .i64 a]) (n:=9) Try.func55 (body_of (by kernel_rfl)) rfl (by simp) (MemOk.none w _) ?_
 refine hgE 12 [oh0,oh0,oh0,oh0] [0,2,5] [] [] [.ops [1,0] [3,4,5,6],.code [1,1]] ⟨[(0,i6 a),(2,.bool false),(5,.bool (decide ((a:Int) ≥ 1)))],[],[],w.heap.size⟩ ?_
 rcases Bool.eq_false_or_eq_true (decide ((a:Int) ≥ 1)) with d1 | d1
 ·skip
  refine hgE 8 [oh1,oh1,oh3,oh0] [2] [eD d1,eD d1,eD d1] [] [.code [1,1]] ⟨[(2,.bool (decide ((a:Int) ≤ 16777215)))],[],[],w.heap.size⟩ ?_
  refine hrt [] [.bool (decide ((a:Int) ≤ 16777215))] [] ?_
  intro wx hm
  exact ⟨ret_bool (by unfold wi; rw [d1]; rfl),hm.kept⟩
 ·skip
  refine hgE 8 [oh0,oh0,⟨false,3,[]⟩,oh0] [2] [eD d1,eD d1,eD d1] [] [.code [1,1]] ⟨[(2,.bool false)],[],[],w.heap.size⟩ ?_
  refine hrt [] [.bool false] [] ?_
  intro wx hm
  exact ⟨ret_bool (by unfold wi; rw [d1]; rfl),hm.kept⟩
theorem rightA_G {q:AskM} (hk:q.kind = 1 ∨ q.kind = 2 ∨ q.kind = 3 ∨ q.kind = 10) (hs:wi q.stripe 0 7 = true):rightA q = askB1 q:=by
 rcases hk with hk | hk | hk | hk
 ·exact rightA_1 hk hs
 ·exact rightA_2 hk hs
 ·exact rightA_3 hk hs
 ·exact rightA_10 hk hs
def rqk_v1 (q:AskM):List Value:=[i6 q.kind,i6 q.stripe,i6 q.epoch,i6 q.seq,i6 q.mask,i6 q.node,i6 q.oe,i6 q.os,sT q.block]
def rqk_v2 (q:AskM):List Value:=[i6 q.kind,i6 q.stripe] ++ rp 6 (i6 0) ++ [sT ⟨#[]⟩]
def rqk_v3 (q:AskM):List Value:=((rqk_v2 q).set 2 (i6 q.epoch))
def rqk_v4 (q:AskM):List Value:=((((rqk_v1 q).set 5 (i6 0)).set 6 (i6 0)).set 7 (i6 0))
def rqk_v5 (q:AskM):List Value:=((rqk_v3 q).set 3 (i6 q.seq))
def rqk_v6 (q:AskM):List Value:=((rqk_v4 q).set 4 (i6 0))
def rqk_v7 (q:AskM):List Value:=((((rqk_v1 q).set 3 (i6 0)).set 5 (i6 0)).set 8 (sT ⟨#[]⟩))
def rqk_v8 (q:AskM):List Value:=[.bool (((q.kind:Int) == q.kind) && (((q.stripe:Int) == q.stripe) && (((q.epoch:Int) == q.epoch) && (((0:Int) == q.seq) && (((q.mask:Int) == q.mask) && (((0:Int) == q.node) && ((((q.oe:Int) == q.oe) && (((q.os:Int) == q.os) && true)) && (((⟨#[]⟩:ByteArray) == q.block) && true))))))))]
def rqk_v9 (q:AskM):List Value:=((rqk_v3 q).set 5 (i6 q.node))
def rqk_n1:List Nat:=[1,1,1,1,1,0,1,0,1,0,1,0]
def rqk_n2:List Nat:=[1,1,1,1,1,0,1,0,1,0,1,1]
def rqk_n3:List Nat:=[1,1,1,1,1,0,1,0,1,1,1,0,1,1,1,1,0]
def rqk_n4:List Nat:=[1,1,1,1,1,0,1,0,1,1,1,0,1,1,1,1,1]
def rqk_n5:List Nat:=[1,1,1,1,1,0,1,0,1,1,1,1,1,0,1,1,1]
def rqk_n6:List Nat:=[1,1,1,1,1,0,1,0,1,1,1,1,1,1,1,0,1,1,1,0]
def rqk_n7:List Nat:=[1,1,1,1,1,0,1,0,1,1,1,1,1,1,1,0,1,1,1,1]
def rqk_n8:List Nat:=[1,1,1,1,1,0,1,0,1,1,1,1,1,1,1,1,1,0,1,1,1,0]
def rqk_n9:List Nat:=[1,1,1,1,1,0,1,0,1,1,1,1,1,1,1,1,1,0,1,1,1,1]
def rqk_n10:List Nat:=[1,1,1,1,1,0,1,0,1,1,1,1,1,1,1,1,1,1,1,1,1,0,1,1,0]
def rqk_n11:List Nat:=[1,1,1,1,1,0,1,0,1,1,1,1,1,1,1,1,1,1,1,1,1,0,1,1,1]
def rqk_n12:List Nat:=[1,1,1,1,1,0,1,0,1]
def rqk_n13:List Nat:=[18,19,20,21,22,23,24,25,26,27,28,29,30,31,32,33,34,35,36,37,38,39,40,41,42]
def rqk_n14:List Nat:=[26,27,28,29,30,31,32,33,34,35,36,37,38,39,40,41,42]
def rqk_n15:List OH:=[oh0,oh0,oh0,oh0,oh0,oh0,⟨false,3,[]⟩,oh0,oh0,oh0,oh0,oh0,⟨false,3,[]⟩,oh0,oh0,oh0,oh0,oh0,⟨false,3,[]⟩,oh0,oh0,oh0,oh0,⟨false,3,[]⟩,oh0]
def rqk_n16:List OH:=[oh0,oh0,oh0,oh0,⟨false,3,[]⟩,oh0,oh0,oh0,oh0,oh0,⟨false,3,[]⟩,oh0,oh0,oh0,oh0,⟨false,3,[]⟩,oh0]
def rqk_n17:List OH:=[oh0,oh0,oh0,oh0,⟨false,3,[]⟩,oh0,oh0,oh0,oh0,⟨false,3,[]⟩,oh0]
def rqk_n18:List OH:=[oh0,oh0,oh0,⟨false,3,[]⟩,oh0]
def rqk_n19:List OH:=[oh0,oh0,oh0]
def rqk_n20:List OH:=[oh1,oh1,oh0,⟨false,0,[⟨false,0,2,1⟩]⟩,oh0,⟨false,0,[⟨false,1,2,1⟩]⟩,oh0,oh0]
def rqk_n21:List OH:=[oh1,oh1,⟨true,0,[⟨false,0,6,1⟩]⟩,oh1,⟨true,0,[⟨false,0,2,1⟩]⟩,oh1,oh3,oh0]
def rqk_n22:List OH:=[oh1,oh1,⟨true,0,[⟨false,0,7,1⟩]⟩,oh1,oh3,oh0]
def rqk_n23:List OH:=[oh1,⟨true,0,[⟨false,0,8,1⟩]⟩,oh1,oh1,oh3,oh0]
def rqk_n24:List OH:=[⟨true,0,[⟨false,1,0,9⟩]⟩,⟨true,0,[⟨false,0,0,9⟩]⟩,⟨true,1,[]⟩,oh3,oh0]
@[simp] def rqk_b1 (q:AskM) (w:World):List Bk:=[⟨w.heap.size,25,true,(rqk_v1 q)⟩,⟨w.heap.size + 1,25,true,(rqk_v2 q)⟩]
@[simp] def rqk_b2 (q:AskM) (w:World):List Bk:=[⟨w.heap.size,25,true,(rqk_v1 q)⟩,⟨w.heap.size + 1,25,true,(rqk_v3 q)⟩]
@[simp] def rqk_b3 (q:AskM) (w:World):List Bk:=[⟨w.heap.size,25,true,(rqk_v1 q)⟩,⟨w.heap.size + 1,25,true,(rqk_v4 q)⟩]
@[simp] def rqk_b4 (q:AskM) (w:World):List Bk:=[⟨w.heap.size,25,true,(rqk_v1 q)⟩,⟨w.heap.size + 1,25,true,(rqk_v5 q)⟩]
@[simp] def rqk_b5 (q:AskM) (w:World):List Bk:=[⟨w.heap.size,25,true,(rqk_v1 q)⟩,⟨w.heap.size + 1,25,true,(rqk_v6 q)⟩]
@[simp] def rqk_b6 (q:AskM) (w:World):List Bk:=[⟨w.heap.size,25,true,(rqk_v1 q)⟩,⟨w.heap.size + 1,25,true,(rqk_v7 q)⟩]
@[simp] def rqk_b7 (q:AskM) (w:World):List Bk:=[⟨w.heap.size,25,true,(rqk_v1 q)⟩,⟨w.heap.size + 1,25,true,(rqk_v9 q)⟩]
set_option maxRecDepth 100000 in
set_option maxHeartbeats 4000000 in
theorem refAsk_k (q:AskM) (hs:wi q.stripe 0 7 = true) (hsb:0 ≤ q.stripe ∧ q.stripe ≤ 7) (w:World) :
  Calls Try.prog 37 #[.agg #[.int .i64 q.kind,.int .i64 q.stripe,.int .i64 q.epoch,.int .i64 q.seq,.int .i64 q.mask,.int .i64 q.node,.int .i64 q.oe,.int .i64 q.os,.string q.block]] w (RetK (.bool (rightA q)) w):=by
 refine calls_of_holds (S:=(fun _=>False)) (l:=[.agg (List.toArray (rqk_v1 q))]) (n:=205) Try.func37 (body_of (by kernel_rfl)) rfl (by simp) (MemOk.none w _) ?_
 refine hgE 36 [oh0,oh0,oh0,(oA 0 1 1),oh0,oh0,oh0,(oA 0 1 1),oh0,⟨false,3,[]⟩,oh0,oh0,(oA 0 0 1),oh0,(oA 0 1 1),oh0,oh0,(oA 1 0 9),oh0,(oA 0 2 1)] [1,2,3,20] [dF ((q.stripe:Int) < 0),dF ((q.stripe:Int) < 0),dF ((q.stripe:Int) < 0),dF ((q.stripe:Int) < 0),dF ((q.stripe:Int) ≥ 8)] [(w.heap.size,1,1),(w.heap.size,1,1),(w.heap.size,0,1),(w.heap.size,1,1),(w.heap.size + 1,0,9),(w.heap.size,2,1)] [.ops [1,1,1,0] [2,3],.code [1,1,1,1]] ⟨[(1,(pt w.heap.size 0)),(2,.bool false),(3,(pt (w.heap.size + 1) 0)),(20,i6 q.epoch)],(rqk_b1 q w),[],w.heap.size + 2⟩ ?_
 refine hcp (.bool (wi q.epoch 1 16777215)) 55 [i6 q.epoch] (some 21) [] tI rfl (fun wx hm=>refNumB_any _ wx) fun z2 hz2=>?_
 replace hz2:w.heap.size + 2 ≤ z2:=hz2
 refine hgE 9 [oh0,oh0,(oA 0 3 1)] [1,2,3,4,23] [] [(w.heap.size,3,1)] [.ops [1,1,1,1,0] [2,3],.code [1,1,1,1,1]] ⟨[(1,(pt w.heap.size 0)),(2,.bool false),(3,(pt (w.heap.size + 1) 0)),(4,.bool (wi q.epoch 1 16777215)),(23,i6 q.seq)],(rqk_b1 q w),[],z2⟩ ?_
 refine hcp (.bool (wi q.seq 1 16777215)) 55 [i6 q.seq] (some 24) [] tI rfl (fun wx hm=>refNumB_any _ wx) fun z4 hz4=>?_
 replace hz4:z2 ≤ z4:=hz4
 refine hgE 18 [oh0,oh0,(oA 0 0 1),oh0,oh0] [1,2,3,4,5,26,27] [] [(w.heap.size,0,1)] [.code [1,1,1,1,1,0,1,0,0,1],.code rqk_n12,.blk 0,.code [1,1,1,1,1,1]] ⟨[(1,(pt w.heap.size 0)),(2,.bool false),(3,(pt (w.heap.size + 1) 0)),(4,.bool (wi q.epoch 1 16777215)),(5,.bool (wi q.seq 1 16777215)),(26,i6 q.kind),(27,.bool (q.kind == 1))],(rqk_b1 q w),[],z4⟩ ?_
 suffices HL:(q.kind = 1 ∨ q.kind = 2 ∨ q.kind = 3 ∨ q.kind = 10) → Holds [] Try.prog (bodyOf Try.f37) 205 w (fun _=>False) (bodyPost Try.prog Try.f37 (RetK (.bool (rightA q)) w)) [.ops rqk_n1 [2,3,4,5,6],.code rqk_n2,.blk 0,.code [1,1,1,1,1,1]] ⟨[(1,(pt w.heap.size 0)),(2,.bool false),(3,(pt (w.heap.size + 1) 0)),(36,.bool (wi q.epoch 1 16777215))],(rqk_b2 q w),[],z4⟩ by
  refine hgE 3 [] [1,2,3,4,5,26,27] [] [] [.code [1,1,1,1,1,0,1,0,0,1],.code rqk_n12,.blk 0,.code [1,1,1,1,1,1]] ⟨[(1,(pt w.heap.size 0)),(2,.bool false),(3,(pt (w.heap.size + 1) 0)),(4,.bool (wi q.epoch 1 16777215)),(5,.bool (wi q.seq 1 16777215)),(26,i6 q.kind),(27,.bool (q.kind == 1))],(rqk_b1 q w),[],z4⟩ ?_
  rcases Bool.eq_false_or_eq_true (q.kind == 1) with d1 | d1
  ·skip
   refine hgE 17 rqk_n20 [1,2,3,36] [eD d1,eD d1] [(w.heap.size,2,1),(w.heap.size + 1,2,1)] [.ops rqk_n1 [2,3,4,5,6],.code rqk_n2,.blk 0,.code [1,1,1,1,1,1]] ⟨[(1,(pt w.heap.size 0)),(2,.bool false),(3,(pt (w.heap.size + 1) 0)),(36,.bool (wi q.epoch 1 16777215))],(rqk_b2 q w),[],z4⟩ ?_
   exact HL (by have:=eq_of_beq d1; omega)
  ·skip
   refine hgE 9 rqk_n19 [1,2,3,4,5,26,27] [eD d1] [] [.code [1,1,1,1,1,0,1,0,0,1,1,1],.code rqk_n12,.blk 0,.code [1,1,1,1,1,1]] ⟨[(1,(pt w.heap.size 0)),(2,.bool false),(3,(pt (w.heap.size + 1) 0)),(4,.bool (wi q.epoch 1 16777215)),(5,.bool (wi q.seq 1 16777215)),(26,i6 q.kind),(27,.bool (q.kind == 2))],(rqk_b1 q w),[],z4⟩ ?_
   rcases Bool.eq_false_or_eq_true (q.kind == 2) with d2 | d2
   ·skip
    refine hgE 17 rqk_n20 [1,2,3,36] [eD d2,eD d2] [(w.heap.size,2,1),(w.heap.size + 1,2,1)] [.ops rqk_n1 [2,3,4,5,6],.code rqk_n2,.blk 0,.code [1,1,1,1,1,1]] ⟨[(1,(pt w.heap.size 0)),(2,.bool false),(3,(pt (w.heap.size + 1) 0)),(36,.bool (wi q.epoch 1 16777215))],(rqk_b2 q w),[],z4⟩ ?_
    exact HL (by have:=eq_of_beq d2; omega)
   ·skip
    refine hgE 9 rqk_n19 [1,2,3,4,5,26,27] [eD d2] [] [.code [1,1,1,1,1,0,1,0,0,1,1,1,1,1],.code rqk_n12,.blk 0,.code [1,1,1,1,1,1]] ⟨[(1,(pt w.heap.size 0)),(2,.bool false),(3,(pt (w.heap.size + 1) 0)),(4,.bool (wi q.epoch 1 16777215)),(5,.bool (wi q.seq 1 16777215)),(26,i6 q.kind),(27,.bool (q.kind == 3))],(rqk_b1 q w),[],z4⟩ ?_
    rcases Bool.eq_false_or_eq_true (q.kind == 3) with d3 | d3
    ·skip
     refine hgE 17 rqk_n20 [1,2,3,36] [eD d3,eD d3] [(w.heap.size,2,1),(w.heap.size + 1,2,1)] [.ops rqk_n1 [2,3,4,5,6],.code rqk_n2,.blk 0,.code [1,1,1,1,1,1]] ⟨[(1,(pt w.heap.size 0)),(2,.bool false),(3,(pt (w.heap.size + 1) 0)),(36,.bool (wi q.epoch 1 16777215))],(rqk_b2 q w),[],z4⟩ ?_
     exact HL (by have:=eq_of_beq d3; omega)
    ·skip
     refine hgE 8 rqk_n19 [1,2,3,4,5,26,27] [eD d3] [] [.code rqk_n12,.blk 0,.code [1,1,1,1,1,1]] ⟨[(1,(pt w.heap.size 0)),(2,.bool false),(3,(pt (w.heap.size + 1) 0)),(4,.bool (wi q.epoch 1 16777215)),(5,.bool (wi q.seq 1 16777215)),(26,i6 q.kind),(27,.bool (q.kind == 10))],(rqk_b1 q w),[],z4⟩ ?_
     rcases Bool.eq_false_or_eq_true (q.kind == 10) with d4 | d4
     ·skip
      refine hgE 15 [oh1,oh0,(oA 0 2 1),oh0,(oA 1 2 1),oh0,oh0] [1,2,3,36] [eD d4] [(w.heap.size,2,1),(w.heap.size + 1,2,1)] [.ops rqk_n1 [2,3,4,5,6],.code rqk_n2,.blk 0,.code [1,1,1,1,1,1]] ⟨[(1,(pt w.heap.size 0)),(2,.bool false),(3,(pt (w.heap.size + 1) 0)),(36,.bool (wi q.epoch 1 16777215))],(rqk_b2 q w),[],z4⟩ ?_
      exact HL (by have:=eq_of_beq d4; omega)
     ·skip
      refine hgE 9 rqk_n19 [1,2,3,4,5,26,41] [eD d4] [] [.code [1,1,1,1,1,0,1,0,1,1,1],.blk 0,.code [1,1,1,1,1,1]] ⟨[(1,(pt w.heap.size 0)),(2,.bool false),(3,(pt (w.heap.size + 1) 0)),(4,.bool (wi q.epoch 1 16777215)),(5,.bool (wi q.seq 1 16777215)),(26,i6 q.kind),(41,.bool (q.kind == 4))],(rqk_b1 q w),[],z4⟩ ?_
      rcases Bool.eq_false_or_eq_true (q.kind == 4) with d5 | d5
      ·skip
       refine hgE 36 [oh1,oh0,(oA 0 2 1),oh0,(oA 1 2 1),oh0,(oA 0 3 1),oh0,(oA 1 3 1),oh0,(oA 0 4 1),oh0,(oA 1 4 1),oh0,(oA 0 8 1),oh0,(oA 1 8 1),oh0,oh0] [1,2,3,5,56] [eD d5] [(w.heap.size,2,1),(w.heap.size + 1,2,1),(w.heap.size,3,1),(w.heap.size + 1,3,1),(w.heap.size,4,1),(w.heap.size + 1,4,1),(w.heap.size,8,1),(w.heap.size + 1,8,1)] [.ops rqk_n3 [2,3,4,5,6,7,8,9,10,11,12,13,14,15,16,17,18,19,20,21,22,23,24,25],.code rqk_n4,.blk 0,.code [1,1,1,1,1,1]] ⟨[(1,(pt w.heap.size 0)),(2,.bool false),(3,(pt (w.heap.size + 1) 0)),(5,.bool (wi q.seq 1 16777215)),(56,.bool (wi q.epoch 1 16777215))],(rqk_b3 q w),[],z4⟩ ?_
       rcases Bool.eq_false_or_eq_true (wi q.epoch 1 16777215) with d6 | d6
       ·skip
        refine hgE 6 [oh1,oh3,oh0] [1,2,3,59] [eD d6,eD d6] [] [.ops rqk_n3 [5,6,7,8,9,10,11,12,13,14,15,16,17,18,19,20,21,22,23,24,25],.code rqk_n4,.blk 0,.code [1,1,1,1,1,1]] ⟨[(1,(pt w.heap.size 0)),(2,.bool false),(3,(pt (w.heap.size + 1) 0)),(59,.bool (wi q.seq 1 16777215))],(rqk_b3 q w),[],z4⟩ ?_
        rcases Bool.eq_false_or_eq_true (wi q.seq 1 16777215) with d7 | d7
        ·skip
         refine hgE 8 [oh1,⟨true,0,[⟨false,0,4,1⟩]⟩,oh1,oh3,oh0] [1,2,3,64] [eD d7,eD d7,eD d7,eD d7] [(w.heap.size,4,1)] [.ops rqk_n3 [10,11,12,13,14,15,16,17,18,19,20,21,22,23,24,25],.code rqk_n4,.blk 0,.code [1,1,1,1,1,1]] ⟨[(1,(pt w.heap.size 0)),(2,.bool false),(3,(pt (w.heap.size + 1) 0)),(64,.bool (decide ((q.mask:Int) ≥ 1)))],(rqk_b3 q w),[],z4⟩ ?_
         rcases Bool.eq_false_or_eq_true (decide ((q.mask:Int) ≥ 1)) with d8 | d8
         ·skip
          refine hgE 8 [oh1,⟨true,0,[⟨false,0,4,1⟩]⟩,oh1,oh3,oh0] [1,2,3,69] [eD d8,eD d8,eD d8,eD d8] [(w.heap.size,4,1)] [.ops rqk_n3 [15,16,17,18,19,20,21,22,23,24,25],.code rqk_n4,.blk 0,.code [1,1,1,1,1,1]] ⟨[(1,(pt w.heap.size 0)),(2,.bool false),(3,(pt (w.heap.size + 1) 0)),(69,.bool (decide ((q.mask:Int) ≤ 63)))],(rqk_b3 q w),[],z4⟩ ?_
          rcases Bool.eq_false_or_eq_true (decide ((q.mask:Int) ≤ 63)) with d9 | d9
          ·skip
           refine hgE 9 rqk_n23 [1,2,3,75] [eD d9,eD d9,eD d9,eD d9,eD d9] [(w.heap.size,8,1)] [.ops rqk_n3 [21,22,23,24,25],.code rqk_n4,.blk 0,.code [1,1,1,1,1,1]] ⟨[(1,(pt w.heap.size 0)),(2,.bool false),(3,(pt (w.heap.size + 1) 0)),(75,.bool ((q.block.size:Int) == 16))],(rqk_b3 q w),[],z4⟩ ?_
           rcases Bool.eq_false_or_eq_true ((q.block.size:Int) == 16) with d10 | d10
           ·skip
            refine hgE 9 rqk_n24 [2] [eD d10,eD d10,eD d10,vV,eD d10] [(w.heap.size + 1,0,9),(w.heap.size,0,9)] [.code rqk_n4,.blk 0,.code [1,1,1,1,1,1]] ⟨[(2,.bool (((q.kind:Int) == q.kind) && (((q.stripe:Int) == q.stripe) && (((q.epoch:Int) == q.epoch) && (((q.seq:Int) == q.seq) && (((q.mask:Int) == q.mask) && (((0:Int) == q.node) && ((((0:Int) == q.oe) && (((0:Int) == q.os) && true)) && (((q.block:ByteArray) == q.block) && true)))))))))],(rqk_b3 q w),[],z4⟩ ?_
            refine hrt [] [.bool (((q.kind:Int) == q.kind) && (((q.stripe:Int) == q.stripe) && (((q.epoch:Int) == q.epoch) && (((q.seq:Int) == q.seq) && (((q.mask:Int) == q.mask) && (((0:Int) == q.node) && ((((0:Int) == q.oe) && (((0:Int) == q.os) && true)) && (((q.block:ByteArray) == q.block) && true))))))))] [] ?_
            intro wx hm
            refine ⟨ret_bool ?_,hm.kept⟩
            rw [rightA_4 (eq_of_beq d5) hs]
            unfold askB4
            clear hm hs d1 d2 d3 d4 d5
            try rw [ask_comm]
            try rw [bytes_beq]
            generalize (q.block == (⟨#[]⟩:ByteArray)) = b
            refine Bool.eq_iff_iff.2 ?_
            cases b <;> simp [wi] at d6 d7 d8 d9 d10 ⊢ <;> omega
           ·skip
            refine hgE 9 rqk_n18 [2] [eD d10,eD d10,eD d10,eD d10] [] [.code rqk_n4,.blk 0,.code [1,1,1,1,1,1]] ⟨[(2,.bool false)],(rqk_b3 q w),[],z4⟩ ?_
            refine hrt [] [.bool false] [] ?_
            intro wx hm
            refine ⟨ret_bool ?_,hm.kept⟩
            rw [rightA_4 (eq_of_beq d5) hs]
            unfold askB4
            clear hm hs d1 d2 d3 d4 d5
            try rw [ask_comm]
            try rw [bytes_beq]
            generalize (q.block == (⟨#[]⟩:ByteArray)) = b
            refine Bool.eq_iff_iff.2 ?_
            cases b <;> simp [wi] at d6 d7 d8 d9 d10 ⊢ <;> omega
          ·skip
           refine hgE 15 rqk_n17 [2] [eD d9,eD d9,eD d9,eD d9,eD d9,fF,fF,fF,fF] [] [.code rqk_n4,.blk 0,.code [1,1,1,1,1,1]] ⟨[(2,.bool false)],(rqk_b3 q w),[],z4⟩ ?_
           refine hrt [] [.bool false] [] ?_
           intro wx hm
           refine ⟨ret_bool ?_,hm.kept⟩
           rw [rightA_4 (eq_of_beq d5) hs]
           unfold askB4
           clear hm hs d1 d2 d3 d4 d5
           try rw [ask_comm]
           try rw [bytes_beq]
           generalize (q.block == (⟨#[]⟩:ByteArray)) = b
           refine Bool.eq_iff_iff.2 ?_
           cases b <;> simp [wi] at d6 d7 d8 d9 ⊢ <;> omega
         ·skip
          refine hgE 20 [oh0,oh0,oh0,⟨false,3,[]⟩,oh0,oh0,oh0,oh0,oh0,⟨false,3,[]⟩,oh0,oh0,oh0,oh0,⟨false,3,[]⟩,oh0] [2] [eD d8,eD d8,eD d8,eD d8,fF,fF,fF,fF,fF,fF,fF,fF,fF] [] [.code rqk_n4,.blk 0,.code [1,1,1,1,1,1]] ⟨[(2,.bool false)],(rqk_b3 q w),[],z4⟩ ?_
          refine hrt [] [.bool false] [] ?_
          intro wx hm
          refine ⟨ret_bool ?_,hm.kept⟩
          rw [rightA_4 (eq_of_beq d5) hs]
          unfold askB4
          clear hm hs d1 d2 d3 d4 d5
          try rw [ask_comm]
          try rw [bytes_beq]
          generalize (q.block == (⟨#[]⟩:ByteArray)) = b
          refine Bool.eq_iff_iff.2 ?_
          cases b <;> simp [wi] at d6 d7 d8 ⊢ <;> omega
        ·skip
         refine hgE 25 [oh0,oh0,oh0,⟨false,3,[]⟩,oh0,oh0,oh0,oh0,⟨false,3,[]⟩,oh0,oh0,oh0,oh0,oh0,⟨false,3,[]⟩,oh0,oh0,oh0,oh0,⟨false,3,[]⟩,oh0] [2] [eD d7,eD d7,eD d7,eD d7,fF,fF,fF,fF,fF,fF,fF,fF,fF,fF,fF,fF,fF] [] [.code rqk_n4,.blk 0,.code [1,1,1,1,1,1]] ⟨[(2,.bool false)],(rqk_b3 q w),[],z4⟩ ?_
         refine hrt [] [.bool false] [] ?_
         intro wx hm
         refine ⟨ret_bool ?_,hm.kept⟩
         rw [rightA_4 (eq_of_beq d5) hs]
         unfold askB4
         clear hm hs d1 d2 d3 d4 d5
         try rw [ask_comm]
         try rw [bytes_beq]
         generalize (q.block == (⟨#[]⟩:ByteArray)) = b
         refine Bool.eq_iff_iff.2 ?_
         cases b <;> simp [wi] at d6 d7 ⊢ <;> omega
       ·skip
        refine hgE 28 [oh0,⟨false,3,[]⟩,oh0,oh0,oh0,oh0,⟨false,3,[]⟩,oh0,oh0,oh0,oh0,⟨false,3,[]⟩,oh0,oh0,oh0,oh0,oh0,⟨false,3,[]⟩,oh0,oh0,oh0,oh0,⟨false,3,[]⟩,oh0] [2] [eD d6,eD d6,fF,fF,fF,fF,fF,fF,fF,fF,fF,fF,fF,fF,fF,fF,fF,fF,fF] [] [.code rqk_n4,.blk 0,.code [1,1,1,1,1,1]] ⟨[(2,.bool false)],(rqk_b3 q w),[],z4⟩ ?_
        refine hrt [] [.bool false] [] ?_
        intro wx hm
        refine ⟨ret_bool ?_,hm.kept⟩
        rw [rightA_4 (eq_of_beq d5) hs]
        unfold askB4
        clear hm hs d1 d2 d3 d4 d5
        try rw [ask_comm]
        try rw [bytes_beq]
        generalize (q.block == (⟨#[]⟩:ByteArray)) = b
        refine Bool.eq_iff_iff.2 ?_
        cases b <;> simp [wi] at d6 ⊢ <;> omega
      ·skip
       refine hgE 9 rqk_n19 [1,2,3,4,5,26,80] [eD d5] [] [.code [1,1,1,1,1,0,1,0,1,1,1,1,1],.blk 0,.code [1,1,1,1,1,1]] ⟨[(1,(pt w.heap.size 0)),(2,.bool false),(3,(pt (w.heap.size + 1) 0)),(4,.bool (wi q.epoch 1 16777215)),(5,.bool (wi q.seq 1 16777215)),(26,i6 q.kind),(80,.bool (q.kind == 5))],(rqk_b1 q w),[],z4⟩ ?_
       rcases Bool.eq_false_or_eq_true (q.kind == 5) with d11 | d11
       ·skip
        refine hgE 22 [oh1,oh0,(oA 0 2 1),oh0,(oA 1 2 1),oh0,(oA 0 3 1),oh0,(oA 1 3 1),oh0,oh0] [1,2,3,5,89] [eD d11] [(w.heap.size,2,1),(w.heap.size + 1,2,1),(w.heap.size,3,1),(w.heap.size + 1,3,1)] [.ops [1,1,1,1,1,0,1,0,1,1,1,1,1,0,1,1,0] [2,3,4,5,6,7,8,9],.code rqk_n5,.blk 0,.code [1,1,1,1,1,1]] ⟨[(1,(pt w.heap.size 0)),(2,.bool false),(3,(pt (w.heap.size + 1) 0)),(5,.bool (wi q.seq 1 16777215)),(89,.bool (wi q.epoch 1 16777215))],(rqk_b4 q w),[],z4⟩ ?_
        rcases Bool.eq_false_or_eq_true (wi q.epoch 1 16777215) with d12 | d12
        ·skip
         refine hgE 6 [oh1,oh3,oh0] [1,2,3,92] [eD d12,eD d12] [] [.ops [1,1,1,1,1,0,1,0,1,1,1,1,1,0,1,1,0] [5,6,7,8,9],.code rqk_n5,.blk 0,.code [1,1,1,1,1,1]] ⟨[(1,(pt w.heap.size 0)),(2,.bool false),(3,(pt (w.heap.size + 1) 0)),(92,.bool (wi q.seq 1 16777215))],(rqk_b4 q w),[],z4⟩ ?_
         rcases Bool.eq_false_or_eq_true (wi q.seq 1 16777215) with d13 | d13
         ·skip
          refine hgE 9 rqk_n24 [2] [eD d13,eD d13,eD d13,vV,eD d13] [(w.heap.size + 1,0,9),(w.heap.size,0,9)] [.code rqk_n5,.blk 0,.code [1,1,1,1,1,1]] ⟨[(2,.bool (((q.kind:Int) == q.kind) && (((q.stripe:Int) == q.stripe) && (((q.epoch:Int) == q.epoch) && (((q.seq:Int) == q.seq) && (((0:Int) == q.mask) && (((0:Int) == q.node) && ((((0:Int) == q.oe) && (((0:Int) == q.os) && true)) && (((⟨#[]⟩:ByteArray) == q.block) && true)))))))))],(rqk_b4 q w),[],z4⟩ ?_
          refine hrt [] [.bool (((q.kind:Int) == q.kind) && (((q.stripe:Int) == q.stripe) && (((q.epoch:Int) == q.epoch) && (((q.seq:Int) == q.seq) && (((0:Int) == q.mask) && (((0:Int) == q.node) && ((((0:Int) == q.oe) && (((0:Int) == q.os) && true)) && (((⟨#[]⟩:ByteArray) == q.block) && true))))))))] [] ?_
          intro wx hm
          refine ⟨ret_bool ?_,hm.kept⟩
          rw [rightA_5 (eq_of_beq d11) hs]
          unfold askB5
          clear hm hs d1 d2 d3 d4 d5 d11
          try rw [ask_comm]
          try rw [bytes_beq]
          generalize (q.block == (⟨#[]⟩:ByteArray)) = b
          refine Bool.eq_iff_iff.2 ?_
          cases b <;> simp [wi] at d12 d13 ⊢ <;> omega
         ·skip
          refine hgE 9 rqk_n18 [2] [eD d13,eD d13,eD d13,eD d13] [] [.code rqk_n5,.blk 0,.code [1,1,1,1,1,1]] ⟨[(2,.bool false)],(rqk_b4 q w),[],z4⟩ ?_
          refine hrt [] [.bool false] [] ?_
          intro wx hm
          refine ⟨ret_bool ?_,hm.kept⟩
          rw [rightA_5 (eq_of_beq d11) hs]
          unfold askB5
          clear hm hs d1 d2 d3 d4 d5 d11
          try rw [ask_comm]
          try rw [bytes_beq]
          generalize (q.block == (⟨#[]⟩:ByteArray)) = b
          refine Bool.eq_iff_iff.2 ?_
          cases b <;> simp [wi] at d12 d13 ⊢ <;> omega
        ·skip
         refine hgE 12 [oh0,⟨false,3,[]⟩,oh0,oh0,oh0,oh0,⟨false,3,[]⟩,oh0] [2] [eD d12,eD d12,fF,fF,fF,fF] [] [.code rqk_n5,.blk 0,.code [1,1,1,1,1,1]] ⟨[(2,.bool false)],(rqk_b4 q w),[],z4⟩ ?_
         refine hrt [] [.bool false] [] ?_
         intro wx hm
         refine ⟨ret_bool ?_,hm.kept⟩
         rw [rightA_5 (eq_of_beq d11) hs]
         unfold askB5
         clear hm hs d1 d2 d3 d4 d5 d11
         try rw [ask_comm]
         try rw [bytes_beq]
         generalize (q.block == (⟨#[]⟩:ByteArray)) = b
         refine Bool.eq_iff_iff.2 ?_
         cases b <;> simp [wi] at d12 ⊢ <;> omega
       ·skip
        refine hgE 9 rqk_n19 [1,2,3,4,5,26,97] [eD d11] [] [.code [1,1,1,1,1,0,1,0,1,1,1,1,1,1,1],.blk 0,.code [1,1,1,1,1,1]] ⟨[(1,(pt w.heap.size 0)),(2,.bool false),(3,(pt (w.heap.size + 1) 0)),(4,.bool (wi q.epoch 1 16777215)),(5,.bool (wi q.seq 1 16777215)),(26,i6 q.kind),(97,.bool (q.kind == 7))],(rqk_b1 q w),[],z4⟩ ?_
        rcases Bool.eq_false_or_eq_true (q.kind == 7) with d14 | d14
        ·skip
         refine hgE 29 [oh1,oh0,(oA 0 2 1),oh0,(oA 1 2 1),oh0,(oA 0 3 1),oh0,(oA 1 3 1),oh0,(oA 0 8 1),oh0,(oA 1 8 1),oh0,oh0] [1,2,3,5,109] [eD d14] [(w.heap.size,2,1),(w.heap.size + 1,2,1),(w.heap.size,3,1),(w.heap.size + 1,3,1),(w.heap.size,8,1),(w.heap.size + 1,8,1)] [.ops rqk_n6 [2,3,4,5,6,7,8,9,10,11,12,13,14,15],.code rqk_n7,.blk 0,.code [1,1,1,1,1,1]] ⟨[(1,(pt w.heap.size 0)),(2,.bool false),(3,(pt (w.heap.size + 1) 0)),(5,.bool (wi q.seq 1 16777215)),(109,.bool (wi q.epoch 1 16777215))],(rqk_b5 q w),[],z4⟩ ?_
         rcases Bool.eq_false_or_eq_true (wi q.epoch 1 16777215) with d15 | d15
         ·skip
          refine hgE 6 [oh1,oh3,oh0] [1,2,3,112] [eD d15,eD d15] [] [.ops rqk_n6 [5,6,7,8,9,10,11,12,13,14,15],.code rqk_n7,.blk 0,.code [1,1,1,1,1,1]] ⟨[(1,(pt w.heap.size 0)),(2,.bool false),(3,(pt (w.heap.size + 1) 0)),(112,.bool (wi q.seq 1 16777215))],(rqk_b5 q w),[],z4⟩ ?_
          rcases Bool.eq_false_or_eq_true (wi q.seq 1 16777215) with d16 | d16
          ·skip
           refine hgE 9 rqk_n23 [1,2,3,118] [eD d16,eD d16,eD d16,eD d16,eD d16] [(w.heap.size,8,1)] [.ops rqk_n6 [11,12,13,14,15],.code rqk_n7,.blk 0,.code [1,1,1,1,1,1]] ⟨[(1,(pt w.heap.size 0)),(2,.bool false),(3,(pt (w.heap.size + 1) 0)),(118,.bool ((q.block.size:Int) == 16))],(rqk_b5 q w),[],z4⟩ ?_
           rcases Bool.eq_false_or_eq_true ((q.block.size:Int) == 16) with d17 | d17
           ·skip
            refine hgE 9 rqk_n24 [2] [eD d17,eD d17,eD d17,vV,eD d17] [(w.heap.size + 1,0,9),(w.heap.size,0,9)] [.code rqk_n7,.blk 0,.code [1,1,1,1,1,1]] ⟨[(2,.bool (((q.kind:Int) == q.kind) && (((q.stripe:Int) == q.stripe) && (((q.epoch:Int) == q.epoch) && (((q.seq:Int) == q.seq) && (((0:Int) == q.mask) && (((0:Int) == q.node) && ((((0:Int) == q.oe) && (((0:Int) == q.os) && true)) && (((q.block:ByteArray) == q.block) && true)))))))))],(rqk_b5 q w),[],z4⟩ ?_
            refine hrt [] [.bool (((q.kind:Int) == q.kind) && (((q.stripe:Int) == q.stripe) && (((q.epoch:Int) == q.epoch) && (((q.seq:Int) == q.seq) && (((0:Int) == q.mask) && (((0:Int) == q.node) && ((((0:Int) == q.oe) && (((0:Int) == q.os) && true)) && (((q.block:ByteArray) == q.block) && true))))))))] [] ?_
            intro wx hm
            refine ⟨ret_bool ?_,hm.kept⟩
            rw [rightA_7 (eq_of_beq d14) hs]
            unfold askB7
            clear hm hs d1 d2 d3 d4 d5 d11 d14
            try rw [ask_comm]
            try rw [bytes_beq]
            generalize (q.block == (⟨#[]⟩:ByteArray)) = b
            refine Bool.eq_iff_iff.2 ?_
            cases b <;> simp [wi] at d15 d16 d17 ⊢ <;> omega
           ·skip
            refine hgE 9 rqk_n18 [2] [eD d17,eD d17,eD d17,eD d17] [] [.code rqk_n7,.blk 0,.code [1,1,1,1,1,1]] ⟨[(2,.bool false)],(rqk_b5 q w),[],z4⟩ ?_
            refine hrt [] [.bool false] [] ?_
            intro wx hm
            refine ⟨ret_bool ?_,hm.kept⟩
            rw [rightA_7 (eq_of_beq d14) hs]
            unfold askB7
            clear hm hs d1 d2 d3 d4 d5 d11 d14
            try rw [ask_comm]
            try rw [bytes_beq]
            generalize (q.block == (⟨#[]⟩:ByteArray)) = b
            refine Bool.eq_iff_iff.2 ?_
            cases b <;> simp [wi] at d15 d16 d17 ⊢ <;> omega
          ·skip
           refine hgE 15 rqk_n17 [2] [eD d16,eD d16,eD d16,eD d16,eD d16,fF,fF,fF,fF] [] [.code rqk_n7,.blk 0,.code [1,1,1,1,1,1]] ⟨[(2,.bool false)],(rqk_b5 q w),[],z4⟩ ?_
           refine hrt [] [.bool false] [] ?_
           intro wx hm
           refine ⟨ret_bool ?_,hm.kept⟩
           rw [rightA_7 (eq_of_beq d14) hs]
           unfold askB7
           clear hm hs d1 d2 d3 d4 d5 d11 d14
           try rw [ask_comm]
           try rw [bytes_beq]
           generalize (q.block == (⟨#[]⟩:ByteArray)) = b
           refine Bool.eq_iff_iff.2 ?_
           cases b <;> simp [wi] at d15 d16 ⊢ <;> omega
         ·skip
          refine hgE 18 [oh0,⟨false,3,[]⟩,oh0,oh0,oh0,oh0,oh0,⟨false,3,[]⟩,oh0,oh0,oh0,oh0,⟨false,3,[]⟩,oh0] [2] [eD d15,eD d15,fF,fF,fF,fF,fF,fF,fF,fF,fF] [] [.code rqk_n7,.blk 0,.code [1,1,1,1,1,1]] ⟨[(2,.bool false)],(rqk_b5 q w),[],z4⟩ ?_
          refine hrt [] [.bool false] [] ?_
          intro wx hm
          refine ⟨ret_bool ?_,hm.kept⟩
          rw [rightA_7 (eq_of_beq d14) hs]
          unfold askB7
          clear hm hs d1 d2 d3 d4 d5 d11 d14
          try rw [ask_comm]
          try rw [bytes_beq]
          generalize (q.block == (⟨#[]⟩:ByteArray)) = b
          refine Bool.eq_iff_iff.2 ?_
          cases b <;> simp [wi] at d15 ⊢ <;> omega
        ·skip
         refine hgE 9 rqk_n19 [1,2,3,4,26,123] [eD d14] [] [.code [1,1,1,1,1,0,1,0,1,1,1,1,1,1,1,1,1],.blk 0,.code [1,1,1,1,1,1]] ⟨[(1,(pt w.heap.size 0)),(2,.bool false),(3,(pt (w.heap.size + 1) 0)),(4,.bool (wi q.epoch 1 16777215)),(26,i6 q.kind),(123,.bool (q.kind == 6))],(rqk_b1 q w),[],z4⟩ ?_
         rcases Bool.eq_false_or_eq_true (q.kind == 6) with d18 | d18
         ·skip
          refine hgE 29 [oh1,oh0,(oA 0 2 1),oh0,(oA 1 2 1),oh0,(oA 0 4 1),oh0,(oA 1 4 1),oh0,(oA 0 6 2),oh0,(oA 1 6 2),oh0,oh0] [1,2,3,135] [eD d18] [(w.heap.size,2,1),(w.heap.size + 1,2,1),(w.heap.size,4,1),(w.heap.size + 1,4,1),(w.heap.size,6,2),(w.heap.size + 1,6,2)] [.ops rqk_n8 [2,3,4,5,6,7,8,9,10,11,12,13,14,15,16,17,18,19,20,21,22,23,24,25,26,27,28,29,30,31,32,33,34,35,36,37,38,39,40,41,42],.code rqk_n9,.blk 0,.code [1,1,1,1,1,1]] ⟨[(1,(pt w.heap.size 0)),(2,.bool false),(3,(pt (w.heap.size + 1) 0)),(135,.bool (wi q.epoch 1 16777215))],(rqk_b6 q w),[],z4⟩ ?_
          rcases Bool.eq_false_or_eq_true (wi q.epoch 1 16777215) with d19 | d19
          ·skip
           refine hgE 7 [oh1,⟨true,0,[⟨false,0,4,1⟩]⟩,oh1,oh1] [1,2,3,135,139] [eD d19,eD d19,eD d19,eD d19] [(w.heap.size,4,1)] [.ops rqk_n8 [6,7,8,9,10,11,12,13,14,15,16,17,18,19,20,21,22,23,24,25,26,27,28,29,30,31,32,33,34,35,36,37,38,39,40,41,42],.code rqk_n9,.blk 0,.code [1,1,1,1,1,1]] ⟨[(1,(pt w.heap.size 0)),(2,.bool false),(3,(pt (w.heap.size + 1) 0)),(135,.bool (wi q.epoch 1 16777215)),(139,.bool (q.mask == 0))],(rqk_b6 q w),[],z4⟩ ?_
           rcases Bool.eq_false_or_eq_true (q.mask == 0) with d20 | d20
           ·skip
            refine hgE 15 [oh1,oh1,oh1,⟨true,2,[]⟩,oh3,oh0,oh1,oh1,⟨true,0,[⟨false,0,6,1⟩]⟩,oh1,oh3,oh0] [1,2,3,151] [eD d20,eD d20,eD d20,eD d19,eD d20,eD d19,tT,tT,tT,tT,tT] [(w.heap.size,6,1)] [.ops rqk_n8 rqk_n13,.code rqk_n9,.blk 0,.code [1,1,1,1,1,1]] ⟨[(1,(pt w.heap.size 0)),(2,.bool false),(3,(pt (w.heap.size + 1) 0)),(151,.bool (decide ((q.oe:Int) ≥ 0)))],(rqk_b6 q w),[],z4⟩ ?_
            rcases Bool.eq_false_or_eq_true (decide ((q.oe:Int) ≥ 0)) with d21 | d21
            ·skip
             refine hgE 11 rqk_n21 [1,2,3,159] [eD d21,eD d21,eD d21,eD d21,eD d21,eD d21,eD d21] [(w.heap.size,6,1),(w.heap.size,2,1)] [.ops rqk_n8 rqk_n14,.code rqk_n9,.blk 0,.code [1,1,1,1,1,1]] ⟨[(1,(pt w.heap.size 0)),(2,.bool false),(3,(pt (w.heap.size + 1) 0)),(159,.bool (decide ((q.oe:Int) < q.epoch)))],(rqk_b6 q w),[],z4⟩ ?_
             rcases Bool.eq_false_or_eq_true (decide ((q.oe:Int) < q.epoch)) with d22 | d22
             ·skip
              refine hgE 9 rqk_n22 [1,2,3,165] [eD d22,eD d22,eD d22,eD d22,eD d22] [(w.heap.size,7,1)] [.ops rqk_n8 [32,33,34,35,36,37,38,39,40,41,42],.code rqk_n9,.blk 0,.code [1,1,1,1,1,1]] ⟨[(1,(pt w.heap.size 0)),(2,.bool false),(3,(pt (w.heap.size + 1) 0)),(165,.bool (decide ((q.os:Int) ≥ 0)))],(rqk_b6 q w),[],z4⟩ ?_
              rcases Bool.eq_false_or_eq_true (decide ((q.os:Int) ≥ 0)) with d23 | d23
              ·skip
               refine hgE 9 rqk_n22 [1,2,3,171] [eD d23,eD d23,eD d23,eD d23,eD d23] [(w.heap.size,7,1)] [.ops rqk_n8 [38,39,40,41,42],.code rqk_n9,.blk 0,.code [1,1,1,1,1,1]] ⟨[(1,(pt w.heap.size 0)),(2,.bool false),(3,(pt (w.heap.size + 1) 0)),(171,.bool (decide ((q.os:Int) ≤ 16777215)))],(rqk_b6 q w),[],z4⟩ ?_
               rcases Bool.eq_false_or_eq_true (decide ((q.os:Int) ≤ 16777215)) with d24 | d24
               ·skip
                refine hgE 9 rqk_n24 [2] [eD d24,eD d24,eD d24,vV,eD d24] [(w.heap.size + 1,0,9),(w.heap.size,0,9)] [.code rqk_n9,.blk 0,.code [1,1,1,1,1,1]] ⟨[(2,.bool (((q.kind:Int) == q.kind) && (((q.stripe:Int) == q.stripe) && (((q.epoch:Int) == q.epoch) && (((0:Int) == q.seq) && (((q.mask:Int) == q.mask) && (((0:Int) == q.node) && ((((q.oe:Int) == q.oe) && (((q.os:Int) == q.os) && true)) && (((⟨#[]⟩:ByteArray) == q.block) && true)))))))))],(rqk_b6 q w),[],z4⟩ ?_
                refine hrt [] (rqk_v8 q) [] ?_
                intro wx hm
                refine ⟨ret_bool ?_,hm.kept⟩
                rw [rightA_6 (eq_of_beq d18) hs]
                unfold askB6
                clear hm hs d1 d2 d3 d4 d5 d11 d14 d18
                try rw [ask_comm]
                try rw [bytes_beq]
                generalize (q.block == (⟨#[]⟩:ByteArray)) = b
                refine Bool.eq_iff_iff.2 ?_
                cases b <;> simp [wi] at d19 d20 d21 d22 d23 d24 ⊢ <;> omega
               ·skip
                refine hgE 9 rqk_n18 [2] [eD d24,eD d24,eD d24,eD d24] [] [.code rqk_n9,.blk 0,.code [1,1,1,1,1,1]] ⟨[(2,.bool false)],(rqk_b6 q w),[],z4⟩ ?_
                refine hrt [] [.bool false] [] ?_
                intro wx hm
                refine ⟨ret_bool ?_,hm.kept⟩
                rw [rightA_6 (eq_of_beq d18) hs]
                unfold askB6
                clear hm hs d1 d2 d3 d4 d5 d11 d14 d18
                try rw [ask_comm]
                try rw [bytes_beq]
                generalize (q.block == (⟨#[]⟩:ByteArray)) = b
                refine Bool.eq_iff_iff.2 ?_
                cases b <;> simp [wi] at d19 d20 d21 d22 d23 d24 ⊢ <;> omega
              ·skip
               refine hgE 15 rqk_n17 [2] [eD d23,eD d23,eD d23,eD d23,eD d23,fF,fF,fF,fF] [] [.code rqk_n9,.blk 0,.code [1,1,1,1,1,1]] ⟨[(2,.bool false)],(rqk_b6 q w),[],z4⟩ ?_
               refine hrt [] [.bool false] [] ?_
               intro wx hm
               refine ⟨ret_bool ?_,hm.kept⟩
               rw [rightA_6 (eq_of_beq d18) hs]
               unfold askB6
               clear hm hs d1 d2 d3 d4 d5 d11 d14 d18
               try rw [ask_comm]
               try rw [bytes_beq]
               generalize (q.block == (⟨#[]⟩:ByteArray)) = b
               refine Bool.eq_iff_iff.2 ?_
               cases b <;> simp [wi] at d19 d20 d21 d22 d23 ⊢ <;> omega
             ·skip
              refine hgE 21 rqk_n16 [2] [eD d22,eD d22,eD d22,eD d22,eD d22,fF,fF,fF,fF,fF,fF,fF,fF,fF] [] [.code rqk_n9,.blk 0,.code [1,1,1,1,1,1]] ⟨[(2,.bool false)],(rqk_b6 q w),[],z4⟩ ?_
              refine hrt [] [.bool false] [] ?_
              intro wx hm
              refine ⟨ret_bool ?_,hm.kept⟩
              rw [rightA_6 (eq_of_beq d18) hs]
              unfold askB6
              clear hm hs d1 d2 d3 d4 d5 d11 d14 d18
              try rw [ask_comm]
              try rw [bytes_beq]
              generalize (q.block == (⟨#[]⟩:ByteArray)) = b
              refine Bool.eq_iff_iff.2 ?_
              cases b <;> simp [wi] at d19 d20 d21 d22 ⊢ <;> omega
            ·skip
             refine hgE 29 rqk_n15 [2] [eD d21,eD d21,eD d21,eD d21,eD d21,eD d21,eD d21,fF,fF,fF,fF,fF,fF,fF,fF,fF,fF,fF,fF,fF,fF] [] [.code rqk_n9,.blk 0,.code [1,1,1,1,1,1]] ⟨[(2,.bool false)],(rqk_b6 q w),[],z4⟩ ?_
             refine hrt [] [.bool false] [] ?_
             intro wx hm
             refine ⟨ret_bool ?_,hm.kept⟩
             rw [rightA_6 (eq_of_beq d18) hs]
             unfold askB6
             clear hm hs d1 d2 d3 d4 d5 d11 d14 d18
             try rw [ask_comm]
             try rw [bytes_beq]
             generalize (q.block == (⟨#[]⟩:ByteArray)) = b
             refine Bool.eq_iff_iff.2 ?_
             cases b <;> simp [wi] at d19 d20 d21 ⊢ <;> omega
           ·skip
            refine hgE 9 [oh0,(oA 0 4 1),oh0,⟨true,3,[]⟩,oh3,oh0] [1,2,3,145] [eD d20,eD d20,eD d20,eD d19,eD d20,eD d19] [(w.heap.size,4,1)] [.ops rqk_n8 [12,13,14,15,16,17,18,19,20,21,22,23,24,25,26,27,28,29,30,31,32,33,34,35,36,37,38,39,40,41,42],.code rqk_n9,.blk 0,.code [1,1,1,1,1,1]] ⟨[(1,(pt w.heap.size 0)),(2,.bool false),(3,(pt (w.heap.size + 1) 0)),(145,.bool (q.mask == 1))],(rqk_b6 q w),[],z4⟩ ?_
            rcases Bool.eq_false_or_eq_true (q.mask == 1) with d25 | d25
            ·skip
             refine hgE 9 [oh1,oh1,⟨true,0,[⟨false,0,6,1⟩]⟩,oh1,oh3,oh0] [1,2,3,151] [eD d25,eD d25,eD d25,eD d25,eD d25] [(w.heap.size,6,1)] [.ops rqk_n8 rqk_n13,.code rqk_n9,.blk 0,.code [1,1,1,1,1,1]] ⟨[(1,(pt w.heap.size 0)),(2,.bool false),(3,(pt (w.heap.size + 1) 0)),(151,.bool (decide ((q.oe:Int) ≥ 0)))],(rqk_b6 q w),[],z4⟩ ?_
             rcases Bool.eq_false_or_eq_true (decide ((q.oe:Int) ≥ 0)) with d26 | d26
             ·skip
              refine hgE 11 rqk_n21 [1,2,3,159] [eD d26,eD d26,eD d26,eD d26,eD d26,eD d26,eD d26] [(w.heap.size,6,1),(w.heap.size,2,1)] [.ops rqk_n8 rqk_n14,.code rqk_n9,.blk 0,.code [1,1,1,1,1,1]] ⟨[(1,(pt w.heap.size 0)),(2,.bool false),(3,(pt (w.heap.size + 1) 0)),(159,.bool (decide ((q.oe:Int) < q.epoch)))],(rqk_b6 q w),[],z4⟩ ?_
              rcases Bool.eq_false_or_eq_true (decide ((q.oe:Int) < q.epoch)) with d27 | d27
              ·skip
               refine hgE 9 rqk_n22 [1,2,3,165] [eD d27,eD d27,eD d27,eD d27,eD d27] [(w.heap.size,7,1)] [.ops rqk_n8 [32,33,34,35,36,37,38,39,40,41,42],.code rqk_n9,.blk 0,.code [1,1,1,1,1,1]] ⟨[(1,(pt w.heap.size 0)),(2,.bool false),(3,(pt (w.heap.size + 1) 0)),(165,.bool (decide ((q.os:Int) ≥ 0)))],(rqk_b6 q w),[],z4⟩ ?_
               rcases Bool.eq_false_or_eq_true (decide ((q.os:Int) ≥ 0)) with d28 | d28
               ·skip
                refine hgE 9 rqk_n22 [1,2,3,171] [eD d28,eD d28,eD d28,eD d28,eD d28] [(w.heap.size,7,1)] [.ops rqk_n8 [38,39,40,41,42],.code rqk_n9,.blk 0,.code [1,1,1,1,1,1]] ⟨[(1,(pt w.heap.size 0)),(2,.bool false),(3,(pt (w.heap.size + 1) 0)),(171,.bool (decide ((q.os:Int) ≤ 16777215)))],(rqk_b6 q w),[],z4⟩ ?_
                rcases Bool.eq_false_or_eq_true (decide ((q.os:Int) ≤ 16777215)) with d29 | d29
                ·skip
                 refine hgE 9 rqk_n24 [2] [eD d29,eD d29,eD d29,vV,eD d29] [(w.heap.size + 1,0,9),(w.heap.size,0,9)] [.code rqk_n9,.blk 0,.code [1,1,1,1,1,1]] ⟨[(2,.bool (((q.kind:Int) == q.kind) && (((q.stripe:Int) == q.stripe) && (((q.epoch:Int) == q.epoch) && (((0:Int) == q.seq) && (((q.mask:Int) == q.mask) && (((0:Int) == q.node) && ((((q.oe:Int) == q.oe) && (((q.os:Int) == q.os) && true)) && (((⟨#[]⟩:ByteArray) == q.block) && true)))))))))],(rqk_b6 q w),[],z4⟩ ?_
                 refine hrt [] (rqk_v8 q) [] ?_
                 intro wx hm
                 refine ⟨ret_bool ?_,hm.kept⟩
                 rw [rightA_6 (eq_of_beq d18) hs]
                 unfold askB6
                 clear hm hs d1 d2 d3 d4 d5 d11 d14 d18
                 try rw [ask_comm]
                 try rw [bytes_beq]
                 generalize (q.block == (⟨#[]⟩:ByteArray)) = b
                 refine Bool.eq_iff_iff.2 ?_
                 cases b <;> simp [wi] at d19 d20 d25 d26 d27 d28 d29 ⊢ <;> omega
                ·skip
                 refine hgE 9 rqk_n18 [2] [eD d29,eD d29,eD d29,eD d29] [] [.code rqk_n9,.blk 0,.code [1,1,1,1,1,1]] ⟨[(2,.bool false)],(rqk_b6 q w),[],z4⟩ ?_
                 refine hrt [] [.bool false] [] ?_
                 intro wx hm
                 refine ⟨ret_bool ?_,hm.kept⟩
                 rw [rightA_6 (eq_of_beq d18) hs]
                 unfold askB6
                 clear hm hs d1 d2 d3 d4 d5 d11 d14 d18
                 try rw [ask_comm]
                 try rw [bytes_beq]
                 generalize (q.block == (⟨#[]⟩:ByteArray)) = b
                 refine Bool.eq_iff_iff.2 ?_
                 cases b <;> simp [wi] at d19 d20 d25 d26 d27 d28 d29 ⊢ <;> omega
               ·skip
                refine hgE 15 rqk_n17 [2] [eD d28,eD d28,eD d28,eD d28,eD d28,fF,fF,fF,fF] [] [.code rqk_n9,.blk 0,.code [1,1,1,1,1,1]] ⟨[(2,.bool false)],(rqk_b6 q w),[],z4⟩ ?_
                refine hrt [] [.bool false] [] ?_
                intro wx hm
                refine ⟨ret_bool ?_,hm.kept⟩
                rw [rightA_6 (eq_of_beq d18) hs]
                unfold askB6
                clear hm hs d1 d2 d3 d4 d5 d11 d14 d18
                try rw [ask_comm]
                try rw [bytes_beq]
                generalize (q.block == (⟨#[]⟩:ByteArray)) = b
                refine Bool.eq_iff_iff.2 ?_
                cases b <;> simp [wi] at d19 d20 d25 d26 d27 d28 ⊢ <;> omega
              ·skip
               refine hgE 21 rqk_n16 [2] [eD d27,eD d27,eD d27,eD d27,eD d27,fF,fF,fF,fF,fF,fF,fF,fF,fF] [] [.code rqk_n9,.blk 0,.code [1,1,1,1,1,1]] ⟨[(2,.bool false)],(rqk_b6 q w),[],z4⟩ ?_
               refine hrt [] [.bool false] [] ?_
               intro wx hm
               refine ⟨ret_bool ?_,hm.kept⟩
               rw [rightA_6 (eq_of_beq d18) hs]
               unfold askB6
               clear hm hs d1 d2 d3 d4 d5 d11 d14 d18
               try rw [ask_comm]
               try rw [bytes_beq]
               generalize (q.block == (⟨#[]⟩:ByteArray)) = b
               refine Bool.eq_iff_iff.2 ?_
               cases b <;> simp [wi] at d19 d20 d25 d26 d27 ⊢ <;> omega
             ·skip
              refine hgE 29 rqk_n15 [2] [eD d26,eD d26,eD d26,eD d26,eD d26,eD d26,eD d26,fF,fF,fF,fF,fF,fF,fF,fF,fF,fF,fF,fF,fF,fF] [] [.code rqk_n9,.blk 0,.code [1,1,1,1,1,1]] ⟨[(2,.bool false)],(rqk_b6 q w),[],z4⟩ ?_
              refine hrt [] [.bool false] [] ?_
              intro wx hm
              refine ⟨ret_bool ?_,hm.kept⟩
              rw [rightA_6 (eq_of_beq d18) hs]
              unfold askB6
              clear hm hs d1 d2 d3 d4 d5 d11 d14 d18
              try rw [ask_comm]
              try rw [bytes_beq]
              generalize (q.block == (⟨#[]⟩:ByteArray)) = b
              refine Bool.eq_iff_iff.2 ?_
              cases b <;> simp [wi] at d19 d20 d25 d26 ⊢ <;> omega
            ·skip
             refine hgE 35 [oh0,oh0,oh0,oh0,⟨false,3,[]⟩,oh0,oh0,oh0,oh0,oh0,oh0,oh0,⟨false,3,[]⟩,oh0,oh0,oh0,oh0,oh0,⟨false,3,[]⟩,oh0,oh0,oh0,oh0,oh0,⟨false,3,[]⟩,oh0,oh0,oh0,oh0,⟨false,3,[]⟩,oh0] [2] [eD d25,eD d25,eD d25,eD d25,eD d25,fF,fF,fF,fF,fF,fF,fF,fF,fF,fF,fF,fF,fF,fF,fF,fF,fF,fF,fF,fF,fF] [] [.code rqk_n9,.blk 0,.code [1,1,1,1,1,1]] ⟨[(2,.bool false)],(rqk_b6 q w),[],z4⟩ ?_
             refine hrt [] [.bool false] [] ?_
             intro wx hm
             refine ⟨ret_bool ?_,hm.kept⟩
             rw [rightA_6 (eq_of_beq d18) hs]
             unfold askB6
             clear hm hs d1 d2 d3 d4 d5 d11 d14 d18
             try rw [ask_comm]
             try rw [bytes_beq]
             generalize (q.block == (⟨#[]⟩:ByteArray)) = b
             refine Bool.eq_iff_iff.2 ?_
             cases b <;> simp [wi] at d19 d20 d25 ⊢ <;> omega
          ·skip
           refine hgE 45 [oh0,oh0,oh0,oh0,oh0,oh0,oh0,oh0,⟨false,3,[]⟩,oh0,oh0,oh0,oh0,oh0,⟨false,3,[]⟩,oh0,oh0,oh0,oh0,oh0,oh0,oh0,⟨false,3,[]⟩,oh0,oh0,oh0,oh0,oh0,⟨false,3,[]⟩,oh0,oh0,oh0,oh0,oh0,⟨false,3,[]⟩,oh0,oh0,oh0,oh0,⟨false,3,[]⟩,oh0] [2] [eD d19,eD d19,eD d19,eD d19,eD d19,eD d19,fF,fF,fF,fF,fF,fF,fF,fF,fF,fF,fF,fF,fF,fF,fF,fF,fF,fF,fF,fF,fF,fF,fF,fF,fF,fF] [] [.code rqk_n9,.blk 0,.code [1,1,1,1,1,1]] ⟨[(2,.bool false)],(rqk_b6 q w),[],z4⟩ ?_
           refine hrt [] [.bool false] [] ?_
           intro wx hm
           refine ⟨ret_bool ?_,hm.kept⟩
           rw [rightA_6 (eq_of_beq d18) hs]
           unfold askB6
           clear hm hs d1 d2 d3 d4 d5 d11 d14 d18
           try rw [ask_comm]
           try rw [bytes_beq]
           generalize (q.block == (⟨#[]⟩:ByteArray)) = b
           refine Bool.eq_iff_iff.2 ?_
           cases b <;> simp [wi] at d19 ⊢ <;> omega
         ·skip
          refine hgE 9 rqk_n19 [1,2,3,4,26,176] [eD d18] [] [.code [1,1,1,1,1,0,1,0,1,1,1,1,1,1,1,1,1,1,1],.blk 0,.code [1,1,1,1,1,1]] ⟨[(1,(pt w.heap.size 0)),(2,.bool false),(3,(pt (w.heap.size + 1) 0)),(4,.bool (wi q.epoch 1 16777215)),(26,i6 q.kind),(176,.bool (q.kind == 8))],(rqk_b1 q w),[],z4⟩ ?_
          rcases Bool.eq_false_or_eq_true (q.kind == 8) with d30 | d30
          ·skip
           refine hgE 11 [oh1,(oA 1 0 9),(oA 0 0 9),oh2,oh0] [2] [eD d30,vV] [(w.heap.size + 1,0,9),(w.heap.size,0,9)] [.code [1,1,1,1,1,0,1,0,1,1,1,1,1,1,1,1,1,1,1,0,1],.blk 0,.code [1,1,1,1,1,1]] ⟨[(2,.bool (((q.kind:Int) == q.kind) && (((q.stripe:Int) == q.stripe) && (((0:Int) == q.epoch) && (((0:Int) == q.seq) && (((0:Int) == q.mask) && (((0:Int) == q.node) && ((((0:Int) == q.oe) && (((0:Int) == q.os) && true)) && (((⟨#[]⟩:ByteArray) == q.block) && true)))))))))],(rqk_b1 q w),[],z4⟩ ?_
           refine hrt [] [.bool (((q.kind:Int) == q.kind) && (((q.stripe:Int) == q.stripe) && (((0:Int) == q.epoch) && (((0:Int) == q.seq) && (((0:Int) == q.mask) && (((0:Int) == q.node) && ((((0:Int) == q.oe) && (((0:Int) == q.os) && true)) && (((⟨#[]⟩:ByteArray) == q.block) && true))))))))] [] ?_
           intro wx hm
           refine ⟨ret_bool ?_,hm.kept⟩
           rw [rightA_8 (eq_of_beq d30) hs]
           unfold askB8
           clear hm hs d1 d2 d3 d4 d5 d11 d14 d18 d30
           try rw [ask_comm]
           try rw [bytes_beq]
           generalize (q.block == (⟨#[]⟩:ByteArray)) = b
           refine Bool.eq_iff_iff.2 ?_
           cases b <;> simp <;> omega
          ·skip
           refine hgE 9 rqk_n19 [1,2,3,4,181] [eD d30] [] [.code [1,1,1,1,1,0,1,0,1,1,1,1,1,1,1,1,1,1,1,1,1],.blk 0,.code [1,1,1,1,1,1]] ⟨[(1,(pt w.heap.size 0)),(2,.bool false),(3,(pt (w.heap.size + 1) 0)),(4,.bool (wi q.epoch 1 16777215)),(181,.bool (q.kind == 9))],(rqk_b1 q w),[],z4⟩ ?_
           rcases Bool.eq_false_or_eq_true (q.kind == 9) with d31 | d31
           ·skip
            refine hgE 22 [oh1,oh0,(oA 0 2 1),oh0,(oA 1 2 1),oh0,(oA 0 5 1),oh0,(oA 1 5 1),oh0,oh0] [1,2,3,190] [eD d31] [(w.heap.size,2,1),(w.heap.size + 1,2,1),(w.heap.size,5,1),(w.heap.size + 1,5,1)] [.ops rqk_n10 [2,3,4,5,6,7,8,9,10,11,12,13,14,15,16],.code rqk_n11,.blk 0,.code [1,1,1,1,1,1]] ⟨[(1,(pt w.heap.size 0)),(2,.bool false),(3,(pt (w.heap.size + 1) 0)),(190,.bool (wi q.epoch 1 16777215))],(rqk_b7 q w),[],z4⟩ ?_
            rcases Bool.eq_false_or_eq_true (wi q.epoch 1 16777215) with d32 | d32
            ·skip
             refine hgE 8 [oh1,⟨true,0,[⟨false,0,5,1⟩]⟩,oh1,oh3,oh0] [1,2,3,195] [eD d32,eD d32,eD d32,eD d32] [(w.heap.size,5,1)] [.ops rqk_n10 [7,8,9,10,11,12,13,14,15,16],.code rqk_n11,.blk 0,.code [1,1,1,1,1,1]] ⟨[(1,(pt w.heap.size 0)),(2,.bool false),(3,(pt (w.heap.size + 1) 0)),(195,.bool (decide ((q.node:Int) ≥ 0)))],(rqk_b7 q w),[],z4⟩ ?_
             rcases Bool.eq_false_or_eq_true (decide ((q.node:Int) ≥ 0)) with d33 | d33
             ·skip
              refine hgE 8 [oh1,⟨true,0,[⟨false,0,5,1⟩]⟩,oh1,oh3,oh0] [1,2,3,200] [eD d33,eD d33,eD d33,eD d33] [(w.heap.size,5,1)] [.ops rqk_n10 [12,13,14,15,16],.code rqk_n11,.blk 0,.code [1,1,1,1,1,1]] ⟨[(1,(pt w.heap.size 0)),(2,.bool false),(3,(pt (w.heap.size + 1) 0)),(200,.bool (decide ((q.node:Int) ≤ 5)))],(rqk_b7 q w),[],z4⟩ ?_
              rcases Bool.eq_false_or_eq_true (decide ((q.node:Int) ≤ 5)) with d34 | d34
              ·skip
               refine hgE 9 rqk_n24 [2] [eD d34,eD d34,eD d34,vV,eD d34] [(w.heap.size + 1,0,9),(w.heap.size,0,9)] [.code rqk_n11,.blk 0,.code [1,1,1,1,1,1]] ⟨[(2,.bool (((q.kind:Int) == q.kind) && (((q.stripe:Int) == q.stripe) && (((q.epoch:Int) == q.epoch) && (((0:Int) == q.seq) && (((0:Int) == q.mask) && (((q.node:Int) == q.node) && ((((0:Int) == q.oe) && (((0:Int) == q.os) && true)) && (((⟨#[]⟩:ByteArray) == q.block) && true)))))))))],(rqk_b7 q w),[],z4⟩ ?_
               refine hrt [] [.bool (((q.kind:Int) == q.kind) && (((q.stripe:Int) == q.stripe) && (((q.epoch:Int) == q.epoch) && (((0:Int) == q.seq) && (((0:Int) == q.mask) && (((q.node:Int) == q.node) && ((((0:Int) == q.oe) && (((0:Int) == q.os) && true)) && (((⟨#[]⟩:ByteArray) == q.block) && true))))))))] [] ?_
               intro wx hm
               refine ⟨ret_bool ?_,hm.kept⟩
               rw [rightA_9 (eq_of_beq d31) hs]
               unfold askB9
               clear hm hs d1 d2 d3 d4 d5 d11 d14 d18 d30 d31
               try rw [ask_comm]
               try rw [bytes_beq]
               generalize (q.block == (⟨#[]⟩:ByteArray)) = b
               refine Bool.eq_iff_iff.2 ?_
               cases b <;> simp [wi] at d32 d33 d34 ⊢ <;> omega
              ·skip
               refine hgE 9 rqk_n18 [2] [eD d34,eD d34,eD d34,eD d34] [] [.code rqk_n11,.blk 0,.code [1,1,1,1,1,1]] ⟨[(2,.bool false)],(rqk_b7 q w),[],z4⟩ ?_
               refine hrt [] [.bool false] [] ?_
               intro wx hm
               refine ⟨ret_bool ?_,hm.kept⟩
               rw [rightA_9 (eq_of_beq d31) hs]
               unfold askB9
               clear hm hs d1 d2 d3 d4 d5 d11 d14 d18 d30 d31
               try rw [ask_comm]
               try rw [bytes_beq]
               generalize (q.block == (⟨#[]⟩:ByteArray)) = b
               refine Bool.eq_iff_iff.2 ?_
               cases b <;> simp [wi] at d32 d33 d34 ⊢ <;> omega
             ·skip
              refine hgE 14 [oh0,oh0,oh0,⟨false,3,[]⟩,oh0,oh0,oh0,oh0,⟨false,3,[]⟩,oh0] [2] [eD d33,eD d33,eD d33,eD d33,fF,fF,fF,fF] [] [.code rqk_n11,.blk 0,.code [1,1,1,1,1,1]] ⟨[(2,.bool false)],(rqk_b7 q w),[],z4⟩ ?_
              refine hrt [] [.bool false] [] ?_
              intro wx hm
              refine ⟨ret_bool ?_,hm.kept⟩
              rw [rightA_9 (eq_of_beq d31) hs]
              unfold askB9
              clear hm hs d1 d2 d3 d4 d5 d11 d14 d18 d30 d31
              try rw [ask_comm]
              try rw [bytes_beq]
              generalize (q.block == (⟨#[]⟩:ByteArray)) = b
              refine Bool.eq_iff_iff.2 ?_
              cases b <;> simp [wi] at d32 d33 ⊢ <;> omega
            ·skip
             refine hgE 19 [oh0,oh0,oh0,⟨false,3,[]⟩,oh0,oh0,oh0,oh0,⟨false,3,[]⟩,oh0,oh0,oh0,oh0,⟨false,3,[]⟩,oh0] [2] [eD d32,eD d32,eD d32,eD d32,fF,fF,fF,fF,fF,fF,fF,fF] [] [.code rqk_n11,.blk 0,.code [1,1,1,1,1,1]] ⟨[(2,.bool false)],(rqk_b7 q w),[],z4⟩ ?_
             refine hrt [] [.bool false] [] ?_
             intro wx hm
             refine ⟨ret_bool ?_,hm.kept⟩
             rw [rightA_9 (eq_of_beq d31) hs]
             unfold askB9
             clear hm hs d1 d2 d3 d4 d5 d11 d14 d18 d30 d31
             try rw [ask_comm]
             try rw [bytes_beq]
             generalize (q.block == (⟨#[]⟩:ByteArray)) = b
             refine Bool.eq_iff_iff.2 ?_
             cases b <;> simp [wi] at d32 ⊢ <;> omega
           ·skip
            refine hgE 10 [oh0,oh0] [2] [eD d31] [] [.code [1,1,1,1,1,1,1]] ⟨[(2,.bool false)],(rqk_b1 q w),[],z4⟩ ?_
            refine hrt [] [.bool false] [] ?_
            intro wx hm
            exact ⟨ret_bool (by unfold rightA; rw [hs,d1,d2,d3,d5,d11,d18,d14,d30,d31,d4]; rfl),hm.kept⟩
 intro hk
 refine hgE 3 [] [1,2,3,36] [] [] [.ops rqk_n1 [2,3,4,5,6],.code rqk_n2,.blk 0,.code [1,1,1,1,1,1]] ⟨[(1,(pt w.heap.size 0)),(2,.bool false),(3,(pt (w.heap.size + 1) 0)),(36,.bool (wi q.epoch 1 16777215))],(rqk_b2 q w),[],z4⟩ ?_
 rcases Bool.eq_false_or_eq_true (wi q.epoch 1 16777215) with d35 | d35
 ·skip
  refine hgE 9 rqk_n24 [2] [eD d35,eD d35,eD d35,vV,eD d35] [(w.heap.size + 1,0,9),(w.heap.size,0,9)] [.code rqk_n2,.blk 0,.code [1,1,1,1,1,1]] ⟨[(2,.bool (((q.kind:Int) == q.kind) && (((q.stripe:Int) == q.stripe) && (((q.epoch:Int) == q.epoch) && (((0:Int) == q.seq) && (((0:Int) == q.mask) && (((0:Int) == q.node) && ((((0:Int) == q.oe) && (((0:Int) == q.os) && true)) && (((⟨#[]⟩:ByteArray) == q.block) && true)))))))))],(rqk_b2 q w),[],z4⟩ ?_
  refine hrt [] [.bool (((q.kind:Int) == q.kind) && (((q.stripe:Int) == q.stripe) && (((q.epoch:Int) == q.epoch) && (((0:Int) == q.seq) && (((0:Int) == q.mask) && (((0:Int) == q.node) && ((((0:Int) == q.oe) && (((0:Int) == q.os) && true)) && (((⟨#[]⟩:ByteArray) == q.block) && true))))))))] [] ?_
  intro wx hm
  refine ⟨ret_bool ?_,hm.kept⟩
  rw [rightA_G hk hs]
  unfold askB1
  clear hm hs hk
  try rw [ask_comm]
  try rw [bytes_beq]
  generalize (q.block == (⟨#[]⟩:ByteArray)) = b
  refine Bool.eq_iff_iff.2 ?_
  cases b <;> simp [wi] at d35 ⊢ <;> omega
 ·skip
  refine hgE 9 rqk_n18 [2] [eD d35,eD d35,eD d35,eD d35] [] [.code rqk_n2,.blk 0,.code [1,1,1,1,1,1]] ⟨[(2,.bool false)],(rqk_b2 q w),[],z4⟩ ?_
  refine hrt [] [.bool false] [] ?_
  intro wx hm
  refine ⟨ret_bool ?_,hm.kept⟩
  rw [rightA_G hk hs]
  unfold askB1
  clear hm hs hk
  try rw [ask_comm]
  try rw [bytes_beq]
  generalize (q.block == (⟨#[]⟩:ByteArray)) = b
  refine Bool.eq_iff_iff.2 ?_
  cases b <;> simp [wi] at d35 ⊢ <;> omega
def rqs0_v1 (q:AskM):List Value:=(rqk_v1 q)
set_option maxRecDepth 100000 in
set_option maxHeartbeats 4000000 in
theorem refAsk_s0 (q:AskM) (hs:wi q.stripe 0 7 = false) (hsb:q.stripe < 0) (w:World) :
  Calls Try.prog 37 #[.agg #[.int .i64 q.kind,.int .i64 q.stripe,.int .i64 q.epoch,.int .i64 q.seq,.int .i64 q.mask,.int .i64 q.node,.int .i64 q.oe,.int .i64 q.os,.string q.block]] w (RetK (.bool (rightA q)) w):=by
 refine calls_of_holds (S:=(fun _=>False)) (l:=[.agg (List.toArray (rqs0_v1 q))]) (n:=205) Try.func37 (body_of (by kernel_rfl)) rfl (by simp) (MemOk.none w _) ?_
 refine hgE 25 [oh0,oh0,oh0,(oA 0 1 1),oh0,oh0,oh1,oh1,oh1,oh3,oh1,oh0] [1,2] [dT ((q.stripe:Int) < 0),dT ((q.stripe:Int) < 0),dT ((q.stripe:Int) < 0),dT ((q.stripe:Int) < 0),tT] [(w.heap.size,1,1)] [.code [1,0,1,0,1],.code [1,1]] ⟨[(1,(pt w.heap.size 0)),(2,.bool false)],[⟨w.heap.size,25,true,(rqs0_v1 q)⟩],[],w.heap.size + 1⟩ ?_
 refine hrt [] [.bool false] [] ?_
 intro wx hm
 exact ⟨ret_bool (by unfold rightA; rw [hs]; rfl),hm.kept⟩
def rqs1_v1 (q:AskM):List Value:=(rqk_v1 q)
set_option maxRecDepth 100000 in
set_option maxHeartbeats 4000000 in
theorem refAsk_s1 (q:AskM) (hs:wi q.stripe 0 7 = false) (hsb:7 < q.stripe) (w:World) :
  Calls Try.prog 37 #[.agg #[.int .i64 q.kind,.int .i64 q.stripe,.int .i64 q.epoch,.int .i64 q.seq,.int .i64 q.mask,.int .i64 q.node,.int .i64 q.oe,.int .i64 q.os,.string q.block]] w (RetK (.bool (rightA q)) w):=by
 refine calls_of_holds (S:=(fun _=>False)) (l:=[.agg (List.toArray (rqs1_v1 q))]) (n:=205) Try.func37 (body_of (by kernel_rfl)) rfl (by simp) (MemOk.none w _) ?_
 refine hgE 25 [oh0,oh0,oh0,(oA 0 1 1),oh0,oh0,oh0,(oA 0 1 1),oh0,⟨false,3,[]⟩,oh1,oh0] [1,2] [dF ((q.stripe:Int) < 0),dF ((q.stripe:Int) < 0),dF ((q.stripe:Int) < 0),dF ((q.stripe:Int) < 0),dT ((q.stripe:Int) ≥ 8)] [(w.heap.size,1,1),(w.heap.size,1,1)] [.code [1,0,1,0,1],.code [1,1]] ⟨[(1,(pt w.heap.size 0)),(2,.bool false)],[⟨w.heap.size,25,true,(rqs1_v1 q)⟩],[],w.heap.size + 1⟩ ?_
 refine hrt [] [.bool false] [] ?_
 intro wx hm
 exact ⟨ret_bool (by unfold rightA; rw [hs]; rfl),hm.kept⟩
theorem refAskAny (q:AskM) (w:World):Calls Try.prog 37 #[.agg #[.int .i64 q.kind,.int .i64 q.stripe,.int .i64 q.epoch,.int .i64 q.seq,.int .i64 q.mask,.int .i64 q.node,.int .i64 q.oe,.int .i64 q.os,.string q.block]] w (RetK (.bool (rightA q)) w):=by
 by_cases h0:q.stripe < 0
 ·exact refAsk_s0 q (by unfold wi; rw [decide_eq_false (by omega)]; rfl) h0 w
 by_cases h7:7 < q.stripe
 ·exact refAsk_s1 q (by unfold wi; rw [decide_eq_false (show ¬ q.stripe ≤ 7 by omega),Bool.and_false]) h7 w
 have hs:wi q.stripe 0 7 = true:=wi_true (by omega)
 have hsb:0 ≤ q.stripe ∧ q.stripe ≤ 7:=by omega
 exact refAsk_k q hs hsb w
end Go.Proofs.Ytkffgdfbdmgncaa
