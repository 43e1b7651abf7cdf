import Derived.Test.YtkffgdfbdmgncaaRight8
namespace Go.Proofs.Ytkffgdfbdmgncaa
open Go.RowKit
@[simp] def tg8_b1 (a:Int) (b:Int) (w:World):List Bk:=[⟨w.heap.size,23,true,[.int .i64 a,.int .i64 b]⟩]
set_option maxRecDepth 100000 in
set_option maxHeartbeats 4000000 in
theorem tag8_any (a b:Int) (w:World) :
  Calls Try.prog 56 #[.agg #[.int .i64 a,.int .i64 b]] w (RetK (.bool (n24 a && n24 b)) w):=by
 refine calls_of_holds (S:=(fun _=>False)) (l:=[.agg #[.int .i64 a,.int .i64 b]]) (n:=21) Try.func56 (body_of (by kernel_rfl)) rfl (by simp) (MemOk.none w _) ?_
 refine hgo 14 [oh0,oh0,oh0,⟨false,0,[⟨false,0,0,1⟩]⟩,oh0,oh0] [1,2,6] [] [(w.heap.size,0,1)] [.ops [1,0] [4,5,6,7,8,9,10,11,12,13,14,15,16,17,18],.code [1,1]] ⟨[(1,(pt w.heap.size 0)),(2,.bool false),(6,.bool (decide ((a:Int) ≥ 0)))],(tg8_b1 a b w),[],w.heap.size + 1⟩ trivial ?_
 rcases Bool.eq_false_or_eq_true (decide ((a:Int) ≥ 0)) with d1 | d1
 ·skip
  refine hgo 8 [oh1,⟨true,0,[⟨false,0,0,1⟩]⟩,oh1,oh3,oh0] [1,2,11] [(decide ((a:Int) ≥ 0)) = true,(decide ((a:Int) ≥ 0)) = true,(decide ((a:Int) ≥ 0)) = true,(decide ((a:Int) ≥ 0)) = true] [(w.heap.size,0,1)] [.ops [1,0] [9,10,11,12,13,14,15,16,17,18],.code [1,1]] ⟨[(1,(pt w.heap.size 0)),(2,.bool false),(11,.bool (decide ((a:Int) ≤ 16777215)))],(tg8_b1 a b w),[],w.heap.size + 1⟩ ⟨d1,d1,d1,d1,trivial⟩ ?_
  rcases Bool.eq_false_or_eq_true (decide ((a:Int) ≤ 16777215)) with d2 | d2
  ·skip
   refine hgo 8 [oh1,⟨true,0,[⟨false,0,1,1⟩]⟩,oh1,oh3,oh0] [1,2,16] [(decide ((a:Int) ≤ 16777215)) = true,(decide ((a:Int) ≤ 16777215)) = true,(decide ((a:Int) ≤ 16777215)) = true,(decide ((a:Int) ≤ 16777215)) = true] [(w.heap.size,1,1)] [.ops [1,0] [14,15,16,17,18],.code [1,1]] ⟨[(1,(pt w.heap.size 0)),(2,.bool false),(16,.bool (decide ((b:Int) ≥ 0)))],(tg8_b1 a b w),[],w.heap.size + 1⟩ ⟨d2,d2,d2,d2,trivial⟩ ?_
   rcases Bool.eq_false_or_eq_true (decide ((b:Int) ≥ 0)) with d3 | d3
   ·skip
    refine hgo 9 [oh1,⟨true,0,[⟨false,0,1,1⟩]⟩,oh1,oh3,oh0] [2] [(decide ((b:Int) ≥ 0)) = true,(decide ((b:Int) ≥ 0)) = true,(decide ((b:Int) ≥ 0)) = true,(decide ((b:Int) ≥ 0)) = true] [(w.heap.size,1,1)] [.code [1,1]] ⟨[(2,.bool (decide ((b:Int) ≤ 16777215)))],(tg8_b1 a b w),[],w.heap.size + 1⟩ ⟨d3,d3,d3,d3,trivial⟩ ?_
    refine hrt [] [.bool (decide ((b:Int) ≤ 16777215))] [] ?_
    intro wx hm
    refine ⟨ret_bool ?_,hm.kept⟩
    simp only [ge_iff_le] at d1 d2 d3
    simp [n24,d1,d2,d3]
   ·skip
    refine hgo 9 [oh0,oh0,oh0,⟨false,3,[]⟩,oh0] [2] [(decide ((b:Int) ≥ 0)) = false,(decide ((b:Int) ≥ 0)) = false,(decide ((b:Int) ≥ 0)) = false,(decide ((b:Int) ≥ 0)) = false] [] [.code [1,1]] ⟨[(2,.bool false)],(tg8_b1 a b w),[],w.heap.size + 1⟩ ⟨d3,d3,d3,d3,trivial⟩ ?_
    refine hrt [] [.bool false] [] ?_
    intro wx hm
    refine ⟨ret_bool ?_,hm.kept⟩
    simp only [ge_iff_le] at d1 d2 d3
    simp [n24,d1,d2,d3]
  ·skip
   refine hgo 14 [oh0,oh0,oh0,⟨false,3,[]⟩,oh0,oh0,oh0,oh0,⟨false,3,[]⟩,oh0] [2] [(decide ((a:Int) ≤ 16777215)) = false,(decide ((a:Int) ≤ 16777215)) = false,(decide ((a:Int) ≤ 16777215)) = false,(decide ((a:Int) ≤ 16777215)) = false,false = false,false = false,false = false,false = false] [] [.code [1,1]] ⟨[(2,.bool false)],(tg8_b1 a b w),[],w.heap.size + 1⟩ ⟨d2,d2,d2,d2,rfl,rfl,rfl,rfl,trivial⟩ ?_
   refine hrt [] [.bool false] [] ?_
   intro wx hm
   refine ⟨ret_bool ?_,hm.kept⟩
   simp only [ge_iff_le] at d1 d2
   simp [n24,d1,d2]
 ·skip
  refine hgo 19 [oh0,oh0,oh0,⟨false,3,[]⟩,oh0,oh0,oh0,oh0,⟨false,3,[]⟩,oh0,oh0,oh0,oh0,⟨false,3,[]⟩,oh0] [2] [(decide ((a:Int) ≥ 0)) = false,(decide ((a:Int) ≥ 0)) = false,(decide ((a:Int) ≥ 0)) = false,(decide ((a:Int) ≥ 0)) = false,false = false,false = false,false = false,false = false,false = false,false = false,false = false,false = false] [] [.code [1,1]] ⟨[(2,.bool false)],(tg8_b1 a b w),[],w.heap.size + 1⟩ ⟨d1,d1,d1,d1,rfl,rfl,rfl,rfl,rfl,rfl,rfl,rfl,trivial⟩ ?_
  refine hrt [] [.bool false] [] ?_
  intro wx hm
  refine ⟨ret_bool ?_,hm.kept⟩
  simp only [ge_iff_le] at d1
  simp [n24,d1]
theorem recOk_iff (r:RecM):RecOk r ↔ ((0 ≤ r.fence ∧ r.fence ≤ 16777215) ∧ (0 ≤ r.de ∧ r.de ≤ 16777215) ∧ (0 ≤ r.ds ∧ r.ds ≤ 16777215) ∧ (0 ≤ r.ie ∧ r.ie ≤ 16777215) ∧ (0 ≤ r.is ∧ r.is ≤ 16777215) ∧ (0 ≤ r.mask ∧ r.mask ≤ 63) ∧
  (r.used = true → r.block.size = 16) ∧ (r.used = false → r.block.size = 0 ∧ r.op = false ∧ r.de = 0 ∧ r.ds = 0) ∧ (r.op = true → r.staged.size = 16) ∧ (r.op = false → r.staged.size = 0 ∧ r.ie = 0 ∧ r.is = 0 ∧ r.mask = 0)):=by
 simp only [size_zero]
 exact ⟨fun h=>⟨h.fence,h.de,h.ds,h.ie,h.is,h.mask,h.block,h.none,h.staged,h.shut⟩,fun ⟨h1,h2,h3,h4,h5,h6,h7,h8,h9,h10⟩=>⟨h1,h2,h3,h4,h5,h6,h7,h8,h9,h10⟩⟩
def rr_v1 (r:RecM):List Value:=[.bool r.used,.int .i64 r.fence,.int .i64 r.de,.int .i64 r.ds,.string r.block,.bool r.op,.int .i64 r.ie,.int .i64 r.is,.int .i64 r.mask,.string r.staged]
def rr_n1:List Nat:=[1,1,1,1,0,1,0,1]
def rr_n2:List Nat:=[4,5,6,7,8,9,10,11,12,13,14,15,16,17,18,19,20]
def rr_n3:List OH:=[oh0,oh0,oh0,oh0,⟨false,3,[]⟩,oh0,oh0,oh0,oh0,oh0,⟨false,3,[]⟩,oh0,oh0,oh0,oh0,⟨false,3,[]⟩,oh0]
def rr_n4:List OH:=[oh0,oh0,oh0,oh0,⟨false,3,[]⟩,oh0,oh0,oh0,oh0,⟨false,3,[]⟩,oh0]
def rr_n5:List OH:=[oh0,⟨false,0,[⟨false,0,1,1⟩]⟩,oh0,⟨false,3,[]⟩,oh0]
def rr_n6:List OH:=[oh1,oh1,⟨true,0,[⟨false,0,6,1⟩]⟩,oh1,oh3,oh0]
def rr_n7:List OH:=[oh1,oh1,⟨true,0,[⟨false,0,7,1⟩]⟩,oh1,oh3,oh0]
set_option maxRecDepth 100000 in
set_option maxHeartbeats 4000000 in
theorem refRight_any (r:RecM) (w:World) :
  Calls Try.prog 38 #[.agg #[.bool r.used,.int .i64 r.fence,.int .i64 r.de,.int .i64 r.ds,.string r.block,.bool r.op,.int .i64 r.ie,.int .i64 r.is,.int .i64 r.mask,.string r.staged]] w (RetK (.bool (okB r)) w):=by
 refine calls_of_holds (S:=(fun _=>False)) (l:=[.agg (List.toArray (rr_v1 r))]) (n:=97) Try.func38 (body_of (by kernel_rfl)) rfl (by simp) (MemOk.none w _) ?_
 refine hgo 12 [oh0,oh0,oh0,⟨false,0,[⟨false,0,2,2⟩]⟩] [1,2,6] [] [(w.heap.size,2,2)] [.ops [1,0] [2,3],.code [1,1]] ⟨[(1,(pt w.heap.size 0)),(2,.bool false),(6,.agg #[.int .i64 r.de,.int .i64 r.ds])],[⟨w.heap.size,27,true,(rr_v1 r)⟩],[],w.heap.size + 1⟩ trivial ?_
 refine hcp (.bool (n24 r.de && n24 r.ds)) 56 [.agg #[.int .i64 r.de,.int .i64 r.ds]] (some 7) [] trivial rfl (fun wx hm=>tag8_any _ _ wx) fun z2 hz2=>?_
 replace hz2:w.heap.size + 1 ≤ z2:=hz2
 refine hgo 9 [oh0,oh0,⟨false,0,[⟨false,0,6,2⟩]⟩] [1,2,3,9] [] [(w.heap.size,6,2)] [.ops [1,1,0] [2,3],.code [1,1,1]] ⟨[(1,(pt w.heap.size 0)),(2,.bool false),(3,.bool (n24 r.de && n24 r.ds)),(9,.agg #[.int .i64 r.ie,.int .i64 r.is])],[⟨w.heap.size,27,true,(rr_v1 r)⟩],[],z2⟩ trivial ?_
 refine hcp (.bool (n24 r.ie && n24 r.is)) 56 [.agg #[.int .i64 r.ie,.int .i64 r.is]] (some 10) [] trivial rfl (fun wx hm=>tag8_any _ _ wx) fun z4 hz4=>?_
 replace hz4:z2 ≤ z4:=hz4
 refine hgo 11 [oh0,oh0,oh0,oh0] [1,2,4,13] [] [] [.ops [1,1,1,0,0] [3,4,5,6,7,8,9,10,11,12,13,14,15,16,17,18,19,20,21,22,23,24,25],.code [1,1,1,0,1],.code [1,1,1,1]] ⟨[(1,(pt w.heap.size 0)),(2,.bool false),(4,.bool (n24 r.ie && n24 r.is)),(13,.bool (!(n24 r.de && n24 r.ds)))],[⟨w.heap.size,27,true,(rr_v1 r)⟩],[],z4⟩ trivial ?_
 rcases Bool.eq_false_or_eq_true (n24 r.de && n24 r.ds) with d1 | d1
 ·skip
  refine hgo 7 [oh0,oh0,⟨false,3,[]⟩,oh0] [1,2,17] [(!(n24 r.de && n24 r.ds)) = false,(!(n24 r.de && n24 r.ds)) = false,(!(n24 r.de && n24 r.ds)) = false] [] [.ops [1,1,1,0,0] [7,8,9,10,11,12,13,14,15,16,17,18,19,20,21,22,23,24,25],.code [1,1,1,0,1],.code [1,1,1,1]] ⟨[(1,(pt w.heap.size 0)),(2,.bool false),(17,.bool (!(n24 r.ie && n24 r.is)))],[⟨w.heap.size,27,true,(rr_v1 r)⟩],[],z4⟩ ⟨(by rw [d1]; rfl),(by rw [d1]; rfl),(by rw [d1]; rfl),trivial⟩ ?_
  rcases Bool.eq_false_or_eq_true (n24 r.ie && n24 r.is) with d2 | d2
  ·skip
   refine hgo 8 rr_n5 [1,2,22] [(!(n24 r.ie && n24 r.is)) = false,(!(n24 r.ie && n24 r.is)) = false,(!(n24 r.ie && n24 r.is)) = false,(!(n24 r.ie && n24 r.is)) = false] [(w.heap.size,1,1)] [.ops [1,1,1,0,0] [12,13,14,15,16,17,18,19,20,21,22,23,24,25],.code [1,1,1,0,1],.code [1,1,1,1]] ⟨[(1,(pt w.heap.size 0)),(2,.bool false),(22,.bool (decide ((r.fence:Int) < 0)))],[⟨w.heap.size,27,true,(rr_v1 r)⟩],[],z4⟩ ⟨(by rw [d2]; rfl),(by rw [d2]; rfl),(by rw [d2]; rfl),(by rw [d2]; rfl),trivial⟩ ?_
   rcases Bool.eq_false_or_eq_true (decide ((r.fence:Int) < 0)) with d3 | d3
   ·skip
    refine hgo 23 [oh1,oh1,oh1,oh3,oh0,oh1,oh1,oh1,oh3,oh0,oh1,oh1,oh1,oh3,oh1,oh0] [1,2] [(decide ((r.fence:Int) < 0)) = true,(decide ((r.fence:Int) < 0)) = true,(decide ((r.fence:Int) < 0)) = true,(decide ((r.fence:Int) < 0)) = true,true = true,true = true,true = true,true = true,true = true,true = true,true = true,true = true,true = true] [] [.code [1,1,1,0,1,0,1],.code [1,1,1,1]] ⟨[(1,(pt w.heap.size 0)),(2,.bool false)],[⟨w.heap.size,27,true,(rr_v1 r)⟩],[],z4⟩ ⟨d3,d3,d3,d3,rfl,rfl,rfl,rfl,rfl,rfl,rfl,rfl,rfl,trivial⟩ ?_
    refine hrt [] [.bool false] [] ?_
    intro wx hm
    refine ⟨ret_bool ?_,hm.kept⟩
    clear hm
    refine bool_eq_iff ?_
    rw [okB_iff,recOk_iff]
    simp_all [n24]
    try omega
   ·skip
    refine hgo 8 rr_n5 [1,2,27] [(decide ((r.fence:Int) < 0)) = false,(decide ((r.fence:Int) < 0)) = false,(decide ((r.fence:Int) < 0)) = false,(decide ((r.fence:Int) < 0)) = false] [(w.heap.size,1,1)] [.ops [1,1,1,0,0] [17,18,19,20,21,22,23,24,25],.code [1,1,1,0,1],.code [1,1,1,1]] ⟨[(1,(pt w.heap.size 0)),(2,.bool false),(27,.bool (decide ((r.fence:Int) > 16777215)))],[⟨w.heap.size,27,true,(rr_v1 r)⟩],[],z4⟩ ⟨d3,d3,d3,d3,trivial⟩ ?_
    rcases Bool.eq_false_or_eq_true (decide ((r.fence:Int) > 16777215)) with d4 | d4
    ·skip
     refine hgo 18 [oh1,oh1,oh1,oh3,oh0,oh1,oh1,oh1,oh3,oh1,oh0] [1,2] [(decide ((r.fence:Int) > 16777215)) = true,(decide ((r.fence:Int) > 16777215)) = true,(decide ((r.fence:Int) > 16777215)) = true,(decide ((r.fence:Int) > 16777215)) = true,true = true,true = true,true = true,true = true,true = true] [] [.code [1,1,1,0,1,0,1],.code [1,1,1,1]] ⟨[(1,(pt w.heap.size 0)),(2,.bool false)],[⟨w.heap.size,27,true,(rr_v1 r)⟩],[],z4⟩ ⟨d4,d4,d4,d4,rfl,rfl,rfl,rfl,rfl,trivial⟩ ?_
     refine hrt [] [.bool false] [] ?_
     intro wx hm
     refine ⟨ret_bool ?_,hm.kept⟩
     clear hm
     refine bool_eq_iff ?_
     rw [okB_iff,recOk_iff]
     simp_all [n24]
     try omega
    ·skip
     refine hgo 8 [oh0,⟨false,0,[⟨false,0,8,1⟩]⟩,oh0,⟨false,3,[]⟩,oh0] [1,2,32] [(decide ((r.fence:Int) > 16777215)) = false,(decide ((r.fence:Int) > 16777215)) = false,(decide ((r.fence:Int) > 16777215)) = false,(decide ((r.fence:Int) > 16777215)) = false] [(w.heap.size,8,1)] [.ops [1,1,1,0,0] [22,23,24,25],.code [1,1,1,0,1],.code [1,1,1,1]] ⟨[(1,(pt w.heap.size 0)),(2,.bool false),(32,.bool (decide ((r.mask:Int) < 0)))],[⟨w.heap.size,27,true,(rr_v1 r)⟩],[],z4⟩ ⟨d4,d4,d4,d4,trivial⟩ ?_
     rcases Bool.eq_false_or_eq_true (decide ((r.mask:Int) < 0)) with d5 | d5
     ·skip
      refine hgo 13 [oh1,oh1,oh1,oh3,oh1,oh0] [1,2] [(decide ((r.mask:Int) < 0)) = true,(decide ((r.mask:Int) < 0)) = true,(decide ((r.mask:Int) < 0)) = true,(decide ((r.mask:Int) < 0)) = true,true = true] [] [.code [1,1,1,0,1,0,1],.code [1,1,1,1]] ⟨[(1,(pt w.heap.size 0)),(2,.bool false)],[⟨w.heap.size,27,true,(rr_v1 r)⟩],[],z4⟩ ⟨d5,d5,d5,d5,rfl,trivial⟩ ?_
      refine hrt [] [.bool false] [] ?_
      intro wx hm
      refine ⟨ret_bool ?_,hm.kept⟩
      clear hm
      refine bool_eq_iff ?_
      rw [okB_iff,recOk_iff]
      simp_all [n24]
      try omega
     ·skip
      refine hgo 8 [oh0,⟨false,0,[⟨false,0,8,1⟩]⟩,oh0,⟨false,3,[]⟩] [1,2,36] [(decide ((r.mask:Int) < 0)) = false,(decide ((r.mask:Int) < 0)) = false,(decide ((r.mask:Int) < 0)) = false,(decide ((r.mask:Int) < 0)) = false] [(w.heap.size,8,1)] [.code [1,1,1,0,1],.code [1,1,1,1]] ⟨[(1,(pt w.heap.size 0)),(2,.bool false),(36,.bool (decide ((r.mask:Int) > 63)))],[⟨w.heap.size,27,true,(rr_v1 r)⟩],[],z4⟩ ⟨d5,d5,d5,d5,trivial⟩ ?_
      rcases Bool.eq_false_or_eq_true (decide ((r.mask:Int) > 63)) with d6 | d6
      ·skip
       refine hgo 8 [oh1,oh0] [1,2] [(decide ((r.mask:Int) > 63)) = true] [] [.code [1,1,1,0,1,0,1],.code [1,1,1,1]] ⟨[(1,(pt w.heap.size 0)),(2,.bool false)],[⟨w.heap.size,27,true,(rr_v1 r)⟩],[],z4⟩ ⟨d6,trivial⟩ ?_
       refine hrt [] [.bool false] [] ?_
       intro wx hm
       refine ⟨ret_bool ?_,hm.kept⟩
       clear hm
       refine bool_eq_iff ?_
       rw [okB_iff,recOk_iff]
       simp_all [n24]
       try omega
      ·skip
       refine hgo 11 [oh0,oh0,⟨false,0,[⟨false,0,0,1⟩]⟩,oh0] [1,2,39] [(decide ((r.mask:Int) > 63)) = false] [(w.heap.size,0,1)] [.ops [1,1,1,1,0,0] [3,4,5,6,7,8,9,10,11,12,13,14,15,16,17,18,19,20,21,22,23,24,25,26,27,28,29,30,31,32,33],.code [1,1,1,1,0,1],.code [1,1,1,1,1]] ⟨[(1,(pt w.heap.size 0)),(2,.bool false),(39,.bool r.used)],[⟨w.heap.size,27,true,(rr_v1 r)⟩],[],z4⟩ ⟨d6,trivial⟩ ?_
       rcases Bool.eq_false_or_eq_true (r.used) with d7 | d7
       ·skip
        refine hgo 9 [oh1,⟨true,0,[⟨false,0,4,1⟩]⟩,oh1,oh1,oh3,oh0] [1,2,45] [r.used = true,r.used = true,r.used = true,r.used = true,r.used = true] [(w.heap.size,4,1)] [.ops [1,1,1,1,0,0] [9,10,11,12,13,14,15,16,17,18,19,20,21,22,23,24,25,26,27,28,29,30,31,32,33],.code [1,1,1,1,0,1],.code [1,1,1,1,1]] ⟨[(1,(pt w.heap.size 0)),(2,.bool false),(45,.bool ((r.block.size:Int) != 16))],[⟨w.heap.size,27,true,(rr_v1 r)⟩],[],z4⟩ ⟨d7,d7,d7,d7,d7,trivial⟩ ?_
        rcases Bool.eq_false_or_eq_true ((r.block.size:Int) != 16) with d8 | d8
        ·skip
         refine hgo 34 [oh1,oh1,oh1,oh1,oh0,oh0,oh0,oh0,oh0,oh0,oh0,oh0,oh0,oh0,oh0,oh0,oh0,oh0,oh0,oh0,oh0,oh0,oh0,oh1,oh3,oh1,oh0] [1,2] [((r.block.size:Int) != 16) = true,((r.block.size:Int) != 16) = true,((r.block.size:Int) != 16) = true,((r.block.size:Int) != 16) = true,((r.block.size:Int) != 16) = true,((r.block.size:Int) != 16) = true,true = true] [] [.code rr_n1,.code [1,1,1,1,1]] ⟨[(1,(pt w.heap.size 0)),(2,.bool false)],[⟨w.heap.size,27,true,(rr_v1 r)⟩],[],z4⟩ ⟨d8,d8,d8,d8,d8,d8,rfl,trivial⟩ ?_
         refine hrt [] [.bool false] [] ?_
         intro wx hm
         refine ⟨ret_bool ?_,hm.kept⟩
         clear hm
         refine bool_eq_iff ?_
         rw [okB_iff,recOk_iff]
         simp_all [n24]
         try omega
        ·skip
         refine hgo 37 [oh0,⟨false,0,[⟨false,0,0,1⟩]⟩,oh0,oh0,oh0,oh0,oh0,oh0,oh0,oh0,oh0,oh0,oh0,oh0,oh0,oh0,oh0,oh0,oh0,oh0,oh0,oh0,oh0,⟨false,3,[]⟩,⟨false,3,[]⟩,oh0,oh0,⟨false,0,[⟨false,0,5,1⟩]⟩] [1,2,72] [((r.block.size:Int) != 16) = false,((r.block.size:Int) != 16) = false,((r.block.size:Int) != 16) = false,((r.block.size:Int) != 16) = false,(!r.used) = false,(!r.used) = false,(!r.used) = false,(!r.used) = false,(!r.used) = false,(!r.used) = false,(!r.used) = false,(!r.used) = false,(!r.used) = false,((r.block.size:Int) != 16) = false,(!r.used) = false,((r.block.size:Int) != 16) = false,false = false] [(w.heap.size,0,1),(w.heap.size,5,1)] [.code [1,1,1,1,1,0,1],.code [1,1,1,1,1,1]] ⟨[(1,(pt w.heap.size 0)),(2,.bool false),(72,.bool r.op)],[⟨w.heap.size,27,true,(rr_v1 r)⟩],[],z4⟩ ⟨d8,d8,d8,d8,(by rw [d7]; rfl),(by rw [d7]; rfl),(by rw [d7]; rfl),(by rw [d7]; rfl),(by rw [d7]; rfl),(by rw [d7]; rfl),(by rw [d7]; rfl),(by rw [d7]; rfl),(by rw [d7]; rfl),d8,(by rw [d7]; rfl),d8,rfl,trivial⟩ ?_
         rcases Bool.eq_false_or_eq_true (r.op) with d9 | d9
         ·skip
          refine hgo 12 [oh1,oh0,⟨false,0,[⟨false,0,9,1⟩]⟩,oh0,oh0,oh0] [1,2] [r.op = true] [(w.heap.size,9,1)] [.code [1,1,1,1,1,0,1,0,1],.code [1,1,1,1,1,1]] ⟨[(1,(pt w.heap.size 0)),(2,.bool ((r.staged.size:Int) == 16))],[⟨w.heap.size,27,true,(rr_v1 r)⟩],[],z4⟩ ⟨d9,trivial⟩ ?_
          refine hrt [] [.bool ((r.staged.size:Int) == 16)] [] ?_
          intro wx hm
          refine ⟨ret_bool ?_,hm.kept⟩
          clear hm
          refine bool_eq_iff ?_
          rw [okB_iff,recOk_iff]
          simp_all [n24]
          try omega
         ·skip
          refine hgo 11 [oh0,oh0,⟨false,0,[⟨false,0,9,1⟩]⟩,oh0,oh0] [1,2,80] [r.op = false] [(w.heap.size,9,1)] [.ops [1,1,1,1,1,1,0] rr_n2,.code [1,1,1,1,1,1,1]] ⟨[(1,(pt w.heap.size 0)),(2,.bool false),(80,.bool (ByteArray.toList r.staged == ByteArray.toList ⟨#[]⟩))],[⟨w.heap.size,27,true,(rr_v1 r)⟩],[],z4⟩ ⟨d9,trivial⟩ ?_
          rcases Bool.eq_false_or_eq_true (ByteArray.toList r.staged == ByteArray.toList ⟨#[]⟩) with d10 | d10
          ·skip
           refine hgo 9 rr_n6 [1,2,86] [(ByteArray.toList r.staged == ByteArray.toList ⟨#[]⟩) = true,(ByteArray.toList r.staged == ByteArray.toList ⟨#[]⟩) = true,(ByteArray.toList r.staged == ByteArray.toList ⟨#[]⟩) = true,(ByteArray.toList r.staged == ByteArray.toList ⟨#[]⟩) = true,(ByteArray.toList r.staged == ByteArray.toList ⟨#[]⟩) = true] [(w.heap.size,6,1)] [.ops [1,1,1,1,1,1,0] [10,11,12,13,14,15,16,17,18,19,20],.code [1,1,1,1,1,1,1]] ⟨[(1,(pt w.heap.size 0)),(2,.bool false),(86,.bool (r.ie == 0))],[⟨w.heap.size,27,true,(rr_v1 r)⟩],[],z4⟩ ⟨d10,d10,d10,d10,d10,trivial⟩ ?_
           rcases Bool.eq_false_or_eq_true (r.ie == 0) with d11 | d11
           ·skip
            refine hgo 9 rr_n7 [1,2,92] [(r.ie == 0) = true,(r.ie == 0) = true,(r.ie == 0) = true,(r.ie == 0) = true,(r.ie == 0) = true] [(w.heap.size,7,1)] [.ops [1,1,1,1,1,1,0] [16,17,18,19,20],.code [1,1,1,1,1,1,1]] ⟨[(1,(pt w.heap.size 0)),(2,.bool false),(92,.bool (r.is == 0))],[⟨w.heap.size,27,true,(rr_v1 r)⟩],[],z4⟩ ⟨d11,d11,d11,d11,d11,trivial⟩ ?_
            rcases Bool.eq_false_or_eq_true (r.is == 0) with d12 | d12
            ·skip
             refine hgo 9 [oh1,⟨true,0,[⟨false,0,8,1⟩]⟩,oh1,oh3,oh0] [2] [(r.is == 0) = true,(r.is == 0) = true,(r.is == 0) = true,(r.is == 0) = true] [(w.heap.size,8,1)] [.code [1,1,1,1,1,1,1]] ⟨[(2,.bool (r.mask == 0))],[⟨w.heap.size,27,true,(rr_v1 r)⟩],[],z4⟩ ⟨d12,d12,d12,d12,trivial⟩ ?_
             refine hrt [] [.bool (r.mask == 0)] [] ?_
             intro wx hm
             refine ⟨ret_bool ?_,hm.kept⟩
             clear hm
             refine bool_eq_iff ?_
             rw [okB_iff,recOk_iff]
             rw [empty_text] at d10
             simp_all [n24]
             try omega
            ·skip
             refine hgo 9 [oh0,oh0,oh0,⟨false,3,[]⟩,oh0] [2] [(r.is == 0) = false,(r.is == 0) = false,(r.is == 0) = false,(r.is == 0) = false] [] [.code [1,1,1,1,1,1,1]] ⟨[(2,.bool false)],[⟨w.heap.size,27,true,(rr_v1 r)⟩],[],z4⟩ ⟨d12,d12,d12,d12,trivial⟩ ?_
             refine hrt [] [.bool false] [] ?_
             intro wx hm
             refine ⟨ret_bool ?_,hm.kept⟩
             clear hm
             refine bool_eq_iff ?_
             rw [okB_iff,recOk_iff]
             rw [empty_text] at d10
             simp_all [n24]
             try omega
           ·skip
            refine hgo 15 rr_n4 [2] [(r.ie == 0) = false,(r.ie == 0) = false,(r.ie == 0) = false,(r.ie == 0) = false,(r.ie == 0) = false,false = false,false = false,false = false,false = false] [] [.code [1,1,1,1,1,1,1]] ⟨[(2,.bool false)],[⟨w.heap.size,27,true,(rr_v1 r)⟩],[],z4⟩ ⟨d11,d11,d11,d11,d11,rfl,rfl,rfl,rfl,trivial⟩ ?_
            refine hrt [] [.bool false] [] ?_
            intro wx hm
            refine ⟨ret_bool ?_,hm.kept⟩
            clear hm
            refine bool_eq_iff ?_
            rw [okB_iff,recOk_iff]
            rw [empty_text] at d10
            simp_all [n24]
            try omega
          ·skip
           refine hgo 21 rr_n3 [2] [(ByteArray.toList r.staged == ByteArray.toList ⟨#[]⟩) = false,(ByteArray.toList r.staged == ByteArray.toList ⟨#[]⟩) = false,(ByteArray.toList r.staged == ByteArray.toList ⟨#[]⟩) = false,(ByteArray.toList r.staged == ByteArray.toList ⟨#[]⟩) = false,(ByteArray.toList r.staged == ByteArray.toList ⟨#[]⟩) = false,false = false,false = false,false = false,false = false,false = false,false = false,false = false,false = false,false = false] [] [.code [1,1,1,1,1,1,1]] ⟨[(2,.bool false)],[⟨w.heap.size,27,true,(rr_v1 r)⟩],[],z4⟩ ⟨d10,d10,d10,d10,d10,rfl,rfl,rfl,rfl,rfl,rfl,rfl,rfl,rfl,trivial⟩ ?_
           refine hrt [] [.bool false] [] ?_
           intro wx hm
           refine ⟨ret_bool ?_,hm.kept⟩
           clear hm
           refine bool_eq_iff ?_
           rw [okB_iff,recOk_iff]
           rw [empty_text] at d10
           simp_all [n24]
           try omega
       ·skip
        refine hgo 17 [oh0,oh0,oh0,oh0,⟨false,3,[]⟩,oh0,oh0,⟨false,0,[⟨false,0,0,1⟩]⟩,oh0,oh0,oh1,⟨true,0,[⟨false,0,4,1⟩]⟩,oh1,oh1] [1,2,45,49,53] [r.used = false,r.used = false,r.used = false,r.used = false,r.used = false,false = false,false = false,false = false,false = false,(!r.used) = true,(!r.used) = true,(!r.used) = true,(!r.used) = true] [(w.heap.size,0,1),(w.heap.size,4,1)] [.ops [1,1,1,1,0,0] [17,18,19,20,21,22,23,24,25,26,27,28,29,30,31,32,33],.code [1,1,1,1,0,1],.code [1,1,1,1,1]] ⟨[(1,(pt w.heap.size 0)),(2,.bool false),(45,.bool false),(49,.bool (!r.used)),(53,.bool (!(ByteArray.toList r.block == ByteArray.toList ⟨#[]⟩)))],[⟨w.heap.size,27,true,(rr_v1 r)⟩],[],z4⟩ ⟨d7,d7,d7,d7,d7,rfl,rfl,rfl,rfl,(by rw [d7]; rfl),(by rw [d7]; rfl),(by rw [d7]; rfl),(by rw [d7]; rfl),trivial⟩ ?_
        rcases Bool.eq_false_or_eq_true (ByteArray.toList r.block == ByteArray.toList ⟨#[]⟩) with d13 | d13
        ·skip
         refine hgo 7 [oh0,⟨false,0,[⟨false,0,5,1⟩]⟩,⟨true,3,[]⟩,oh1] [1,2,45,49,57] [(!(ByteArray.toList r.block == ByteArray.toList ⟨#[]⟩)) = false,(!(ByteArray.toList r.block == ByteArray.toList ⟨#[]⟩)) = false,(!r.used) = true,(!(ByteArray.toList r.block == ByteArray.toList ⟨#[]⟩)) = false,(!r.used) = true] [(w.heap.size,5,1)] [.ops [1,1,1,1,0,0] [21,22,23,24,25,26,27,28,29,30,31,32,33],.code [1,1,1,1,0,1],.code [1,1,1,1,1]] ⟨[(1,(pt w.heap.size 0)),(2,.bool false),(45,.bool false),(49,.bool (!r.used)),(57,.bool r.op)],[⟨w.heap.size,27,true,(rr_v1 r)⟩],[],z4⟩ ⟨(by rw [d13]; rfl),(by rw [d13]; rfl),(by rw [d7]; rfl),(by rw [d13]; rfl),(by rw [d7]; rfl),trivial⟩ ?_
         rcases Bool.eq_false_or_eq_true (r.op) with d14 | d14
         ·skip
          refine hgo 22 [oh1,oh1,oh1,oh1,⟨true,2,[]⟩,oh1,oh1,oh1,oh1,oh1,⟨true,2,[]⟩,oh3,⟨false,3,[]⟩,oh1,oh0] [1,2] [r.op = true,r.op = true,r.op = true,r.op = true,(!r.used) = true,r.op = true,(!r.used) = true,true = true,true = true,true = true,true = true,(!r.used) = true,true = true,false = false,(!r.used) = true,false = false,true = true] [] [.code rr_n1,.code [1,1,1,1,1]] ⟨[(1,(pt w.heap.size 0)),(2,.bool false)],[⟨w.heap.size,27,true,(rr_v1 r)⟩],[],z4⟩ ⟨d14,d14,d14,d14,(by rw [d7]; rfl),d14,(by rw [d7]; rfl),rfl,rfl,rfl,rfl,(by rw [d7]; rfl),rfl,rfl,(by rw [d7]; rfl),rfl,rfl,trivial⟩ ?_
          refine hrt [] [.bool false] [] ?_
          intro wx hm
          refine ⟨ret_bool ?_,hm.kept⟩
          clear hm
          refine bool_eq_iff ?_
          rw [okB_iff,recOk_iff]
          rw [empty_text] at d13
          simp_all [n24]
          try omega
         ·skip
          refine hgo 9 [oh0,oh0,⟨false,0,[⟨false,0,2,1⟩]⟩,oh0,⟨true,3,[]⟩,oh1] [1,2,45,49,63] [r.op = false,r.op = false,r.op = false,r.op = false,(!r.used) = true,r.op = false,(!r.used) = true] [(w.heap.size,2,1)] [.ops [1,1,1,1,0,0] [27,28,29,30,31,32,33],.code [1,1,1,1,0,1],.code [1,1,1,1,1]] ⟨[(1,(pt w.heap.size 0)),(2,.bool false),(45,.bool false),(49,.bool (!r.used)),(63,.bool (r.de != 0))],[⟨w.heap.size,27,true,(rr_v1 r)⟩],[],z4⟩ ⟨d14,d14,d14,d14,(by rw [d7]; rfl),d14,(by rw [d7]; rfl),trivial⟩ ?_
          rcases Bool.eq_false_or_eq_true (r.de != 0) with d15 | d15
          ·skip
           refine hgo 16 [oh1,oh1,oh1,oh1,⟨true,2,[]⟩,oh3,⟨false,3,[]⟩,oh1,oh0] [1,2] [(r.de != 0) = true,(r.de != 0) = true,(r.de != 0) = true,(r.de != 0) = true,(!r.used) = true,(r.de != 0) = true,false = false,(!r.used) = true,false = false,true = true] [] [.code rr_n1,.code [1,1,1,1,1]] ⟨[(1,(pt w.heap.size 0)),(2,.bool false)],[⟨w.heap.size,27,true,(rr_v1 r)⟩],[],z4⟩ ⟨d15,d15,d15,d15,(by rw [d7]; rfl),d15,rfl,(by rw [d7]; rfl),rfl,rfl,trivial⟩ ?_
           refine hrt [] [.bool false] [] ?_
           intro wx hm
           refine ⟨ret_bool ?_,hm.kept⟩
           clear hm
           refine bool_eq_iff ?_
           rw [okB_iff,recOk_iff]
           rw [empty_text] at d13
           simp_all [n24]
           try omega
          ·skip
           refine hgo 11 [oh0,oh0,⟨false,0,[⟨false,0,3,1⟩]⟩,oh0,⟨true,3,[]⟩,oh3,⟨false,3,[]⟩] [1,2,70] [(r.de != 0) = false,(r.de != 0) = false,(r.de != 0) = false,(r.de != 0) = false,(!r.used) = true,(r.de != 0) = false,false = false,(!r.used) = true,false = false] [(w.heap.size,3,1)] [.code [1,1,1,1,0,1],.code [1,1,1,1,1]] ⟨[(1,(pt w.heap.size 0)),(2,.bool false),(70,.bool (r.ds != 0))],[⟨w.heap.size,27,true,(rr_v1 r)⟩],[],z4⟩ ⟨d15,d15,d15,d15,(by rw [d7]; rfl),d15,rfl,(by rw [d7]; rfl),rfl,trivial⟩ ?_
           rcases Bool.eq_false_or_eq_true (r.ds != 0) with d16 | d16
           ·skip
            refine hgo 8 [oh1,oh0] [1,2] [(r.ds != 0) = true] [] [.code rr_n1,.code [1,1,1,1,1]] ⟨[(1,(pt w.heap.size 0)),(2,.bool false)],[⟨w.heap.size,27,true,(rr_v1 r)⟩],[],z4⟩ ⟨d16,trivial⟩ ?_
            refine hrt [] [.bool false] [] ?_
            intro wx hm
            refine ⟨ret_bool ?_,hm.kept⟩
            clear hm
            refine bool_eq_iff ?_
            rw [okB_iff,recOk_iff]
            rw [empty_text] at d13
            simp_all [n24]
            try omega
           ·skip
            refine hgo 19 [oh0,oh0,⟨false,0,[⟨false,0,5,1⟩]⟩,oh0,oh0,⟨false,0,[⟨false,0,9,1⟩]⟩,oh0,oh0] [1,2,80] [(r.ds != 0) = false,r.op = false] [(w.heap.size,5,1),(w.heap.size,9,1)] [.ops [1,1,1,1,1,1,0] rr_n2,.code [1,1,1,1,1,1,1]] ⟨[(1,(pt w.heap.size 0)),(2,.bool false),(80,.bool (ByteArray.toList r.staged == ByteArray.toList ⟨#[]⟩))],[⟨w.heap.size,27,true,(rr_v1 r)⟩],[],z4⟩ ⟨d16,d14,trivial⟩ ?_
            rcases Bool.eq_false_or_eq_true (ByteArray.toList r.staged == ByteArray.toList ⟨#[]⟩) with d17 | d17
            ·skip
             refine hgo 9 rr_n6 [1,2,86] [(ByteArray.toList r.staged == ByteArray.toList ⟨#[]⟩) = true,(ByteArray.toList r.staged == ByteArray.toList ⟨#[]⟩) = true,(ByteArray.toList r.staged == ByteArray.toList ⟨#[]⟩) = true,(ByteArray.toList r.staged == ByteArray.toList ⟨#[]⟩) = true,(ByteArray.toList r.staged == ByteArray.toList ⟨#[]⟩) = true] [(w.heap.size,6,1)] [.ops [1,1,1,1,1,1,0] [10,11,12,13,14,15,16,17,18,19,20],.code [1,1,1,1,1,1,1]] ⟨[(1,(pt w.heap.size 0)),(2,.bool false),(86,.bool (r.ie == 0))],[⟨w.heap.size,27,true,(rr_v1 r)⟩],[],z4⟩ ⟨d17,d17,d17,d17,d17,trivial⟩ ?_
             rcases Bool.eq_false_or_eq_true (r.ie == 0) with d18 | d18
             ·skip
              refine hgo 9 rr_n7 [1,2,92] [(r.ie == 0) = true,(r.ie == 0) = true,(r.ie == 0) = true,(r.ie == 0) = true,(r.ie == 0) = true] [(w.heap.size,7,1)] [.ops [1,1,1,1,1,1,0] [16,17,18,19,20],.code [1,1,1,1,1,1,1]] ⟨[(1,(pt w.heap.size 0)),(2,.bool false),(92,.bool (r.is == 0))],[⟨w.heap.size,27,true,(rr_v1 r)⟩],[],z4⟩ ⟨d18,d18,d18,d18,d18,trivial⟩ ?_
              rcases Bool.eq_false_or_eq_true (r.is == 0) with d19 | d19
              ·skip
               refine hgo 9 [oh1,⟨true,0,[⟨false,0,8,1⟩]⟩,oh1,oh3,oh0] [2] [(r.is == 0) = true,(r.is == 0) = true,(r.is == 0) = true,(r.is == 0) = true] [(w.heap.size,8,1)] [.code [1,1,1,1,1,1,1]] ⟨[(2,.bool (r.mask == 0))],[⟨w.heap.size,27,true,(rr_v1 r)⟩],[],z4⟩ ⟨d19,d19,d19,d19,trivial⟩ ?_
               refine hrt [] [.bool (r.mask == 0)] [] ?_
               intro wx hm
               refine ⟨ret_bool ?_,hm.kept⟩
               clear hm
               refine bool_eq_iff ?_
               rw [okB_iff,recOk_iff]
               rw [empty_text] at d13
               rw [empty_text] at d17
               simp_all [n24]
               try omega
              ·skip
               refine hgo 9 [oh0,oh0,oh0,⟨false,3,[]⟩,oh0] [2] [(r.is == 0) = false,(r.is == 0) = false,(r.is == 0) = false,(r.is == 0) = false] [] [.code [1,1,1,1,1,1,1]] ⟨[(2,.bool false)],[⟨w.heap.size,27,true,(rr_v1 r)⟩],[],z4⟩ ⟨d19,d19,d19,d19,trivial⟩ ?_
               refine hrt [] [.bool false] [] ?_
               intro wx hm
               refine ⟨ret_bool ?_,hm.kept⟩
               clear hm
               refine bool_eq_iff ?_
               rw [okB_iff,recOk_iff]
               rw [empty_text] at d13
               rw [empty_text] at d17
               simp_all [n24]
               try omega
             ·skip
              refine hgo 15 rr_n4 [2] [(r.ie == 0) = false,(r.ie == 0) = false,(r.ie == 0) = false,(r.ie == 0) = false,(r.ie == 0) = false,false = false,false = false,false = false,false = false] [] [.code [1,1,1,1,1,1,1]] ⟨[(2,.bool false)],[⟨w.heap.size,27,true,(rr_v1 r)⟩],[],z4⟩ ⟨d18,d18,d18,d18,d18,rfl,rfl,rfl,rfl,trivial⟩ ?_
              refine hrt [] [.bool false] [] ?_
              intro wx hm
              refine ⟨ret_bool ?_,hm.kept⟩
              clear hm
              refine bool_eq_iff ?_
              rw [okB_iff,recOk_iff]
              rw [empty_text] at d13
              rw [empty_text] at d17
              simp_all [n24]
              try omega
            ·skip
             refine hgo 21 rr_n3 [2] [(ByteArray.toList r.staged == ByteArray.toList ⟨#[]⟩) = false,(ByteArray.toList r.staged == ByteArray.toList ⟨#[]⟩) = false,(ByteArray.toList r.staged == ByteArray.toList ⟨#[]⟩) = false,(ByteArray.toList r.staged == ByteArray.toList ⟨#[]⟩) = false,(ByteArray.toList r.staged == ByteArray.toList ⟨#[]⟩) = false,false = false,false = false,false = false,false = false,false = false,false = false,false = false,false = false,false = false] [] [.code [1,1,1,1,1,1,1]] ⟨[(2,.bool false)],[⟨w.heap.size,27,true,(rr_v1 r)⟩],[],z4⟩ ⟨d17,d17,d17,d17,d17,rfl,rfl,rfl,rfl,rfl,rfl,rfl,rfl,rfl,trivial⟩ ?_
             refine hrt [] [.bool false] [] ?_
             intro wx hm
             refine ⟨ret_bool ?_,hm.kept⟩
             clear hm
             refine bool_eq_iff ?_
             rw [okB_iff,recOk_iff]
             rw [empty_text] at d13
             rw [empty_text] at d17
             simp_all [n24]
             try omega
        ·skip
         refine hgo 26 [oh1,oh1,⟨true,2,[]⟩,oh1,oh1,oh1,oh1,oh1,⟨true,2,[]⟩,oh1,oh1,oh1,oh1,oh1,⟨true,2,[]⟩,oh3,⟨false,3,[]⟩,oh1,oh0] [1,2] [(!(ByteArray.toList r.block == ByteArray.toList ⟨#[]⟩)) = true,(!(ByteArray.toList r.block == ByteArray.toList ⟨#[]⟩)) = true,(!r.used) = true,(!(ByteArray.toList r.block == ByteArray.toList ⟨#[]⟩)) = true,(!r.used) = true,true = true,true = true,true = true,true = true,(!r.used) = true,true = true,(!r.used) = true,true = true,true = true,true = true,true = true,(!r.used) = true,true = true,false = false,(!r.used) = true,false = false,true = true] [] [.code rr_n1,.code [1,1,1,1,1]] ⟨[(1,(pt w.heap.size 0)),(2,.bool false)],[⟨w.heap.size,27,true,(rr_v1 r)⟩],[],z4⟩ ⟨(by rw [d13]; rfl),(by rw [d13]; rfl),(by rw [d7]; rfl),(by rw [d13]; rfl),(by rw [d7]; rfl),rfl,rfl,rfl,rfl,(by rw [d7]; rfl),rfl,(by rw [d7]; rfl),rfl,rfl,rfl,rfl,(by rw [d7]; rfl),rfl,rfl,(by rw [d7]; rfl),rfl,rfl,trivial⟩ ?_
         refine hrt [] [.bool false] [] ?_
         intro wx hm
         refine ⟨ret_bool ?_,hm.kept⟩
         clear hm
         refine bool_eq_iff ?_
         rw [okB_iff,recOk_iff]
         rw [empty_text] at d13
         simp_all [n24]
         try omega
  ·skip
   refine hgo 28 [oh1,oh1,oh1,oh3,oh0,oh1,oh1,oh1,oh3,oh0,oh1,oh1,oh1,oh3,oh0,oh1,oh1,oh1,oh3,oh1,oh0] [1,2] [(!(n24 r.ie && n24 r.is)) = true,(!(n24 r.ie && n24 r.is)) = true,(!(n24 r.ie && n24 r.is)) = true,(!(n24 r.ie && n24 r.is)) = true,true = true,true = true,true = true,true = true,true = true,true = true,true = true,true = true,true = true,true = true,true = true,true = true,true = true] [] [.code [1,1,1,0,1,0,1],.code [1,1,1,1]] ⟨[(1,(pt w.heap.size 0)),(2,.bool false)],[⟨w.heap.size,27,true,(rr_v1 r)⟩],[],z4⟩ ⟨(by rw [d2]; rfl),(by rw [d2]; rfl),(by rw [d2]; rfl),(by rw [d2]; rfl),rfl,rfl,rfl,rfl,rfl,rfl,rfl,rfl,rfl,rfl,rfl,rfl,rfl,trivial⟩ ?_
   refine hrt [] [.bool false] [] ?_
   intro wx hm
   refine ⟨ret_bool ?_,hm.kept⟩
   clear hm
   refine bool_eq_iff ?_
   rw [okB_iff,recOk_iff]
   simp_all [n24]
   try omega
 ·skip
  refine hgo 32 [oh1,oh1,oh3,oh0,oh1,oh1,oh1,oh3,oh0,oh1,oh1,oh1,oh3,oh0,oh1,oh1,oh1,oh3,oh0,oh1,oh1,oh1,oh3,oh1,oh0] [1,2] [(!(n24 r.de && n24 r.ds)) = true,(!(n24 r.de && n24 r.ds)) = true,(!(n24 r.de && n24 r.ds)) = true,true = true,true = true,true = true,true = true,true = true,true = true,true = true,true = true,true = true,true = true,true = true,true = true,true = true,true = true,true = true,true = true,true = true] [] [.code [1,1,1,0,1,0,1],.code [1,1,1,1]] ⟨[(1,(pt w.heap.size 0)),(2,.bool false)],[⟨w.heap.size,27,true,(rr_v1 r)⟩],[],z4⟩ ⟨(by rw [d1]; rfl),(by rw [d1]; rfl),(by rw [d1]; rfl),rfl,rfl,rfl,rfl,rfl,rfl,rfl,rfl,rfl,rfl,rfl,rfl,rfl,rfl,rfl,rfl,rfl,trivial⟩ ?_
  refine hrt [] [.bool false] [] ?_
  intro wx hm
  refine ⟨ret_bool ?_,hm.kept⟩
  clear hm
  refine bool_eq_iff ?_
  rw [okB_iff,recOk_iff]
  simp_all [n24]
  try omega
end Go.Proofs.Ytkffgdfbdmgncaa
