import Derived.Test.YtpilmccjjbgmiaaRight8
namespace Go.Proofs.Ytpilmccjjbgmiaa
open Go.RowKit
@[simp] def tg8_b1 (a:Int) (b:Int) (w:World):List Bk:=[⟨w.heap.size,23,true,[i6 a,i6 b]⟩]
set_option maxRecDepth 100000 in
set_option maxHeartbeats 4000000 in
theorem tag8_any (a b:Int) (w:World) :
  Calls Try.prog 54 #[.agg #[.int .i64 a,.int .i64 b]] w (RetK (.bool (n24 a && n24 b)) w):=by
 refine calls_of_holds (S:=(fun _=>False)) (l:=[.agg #[.int .i64 a,.int .i64 b]]) (n:=21) Try.func54 (body_of (by kernel_rfl)) rfl (by simp) (MemOk.none w _) ?_
 refine hgE 14 [oh0,oh0,oh0,(oA 0 0 1),oh0,oh0] [1,2,6] [] [(w.heap.size,0,1)] [.ops [1,0] [4,5,6,7,8,9,10,11,12,13,14,15,16,17,18],.code [1,1]] ⟨[(1,(pt w.heap.size 0)),(2,.bool false),(6,.bool (decide ((a:Int) ≥ 0)))],(tg8_b1 a b w),[],w.heap.size + 1⟩ ?_
 rcases Bool.eq_false_or_eq_true (decide ((a:Int) ≥ 0)) with d1 | d1
 ·skip
  refine hgE 8 [oh1,⟨true,0,[⟨false,0,0,1⟩]⟩,oh1,oh3,oh0] [1,2,11] [eD d1,eD d1,eD d1,eD d1] [(w.heap.size,0,1)] [.ops [1,0] [9,10,11,12,13,14,15,16,17,18],.code [1,1]] ⟨[(1,(pt w.heap.size 0)),(2,.bool false),(11,.bool (decide ((a:Int) ≤ 16777215)))],(tg8_b1 a b w),[],w.heap.size + 1⟩ ?_
  rcases Bool.eq_false_or_eq_true (decide ((a:Int) ≤ 16777215)) with d2 | d2
  ·skip
   refine hgE 8 [oh1,⟨true,0,[⟨false,0,1,1⟩]⟩,oh1,oh3,oh0] [1,2,16] [eD d2,eD d2,eD d2,eD d2] [(w.heap.size,1,1)] [.ops [1,0] [14,15,16,17,18],.code [1,1]] ⟨[(1,(pt w.heap.size 0)),(2,.bool false),(16,.bool (decide ((b:Int) ≥ 0)))],(tg8_b1 a b w),[],w.heap.size + 1⟩ ?_
   rcases Bool.eq_false_or_eq_true (decide ((b:Int) ≥ 0)) with d3 | d3
   ·skip
    refine hgE 9 [oh1,⟨true,0,[⟨false,0,1,1⟩]⟩,oh1,oh3,oh0] [2] [eD d3,eD d3,eD d3,eD d3] [(w.heap.size,1,1)] [.code [1,1]] ⟨[(2,.bool (decide ((b:Int) ≤ 16777215)))],(tg8_b1 a b w),[],w.heap.size + 1⟩ ?_
    refine hrt [] [.bool (decide ((b:Int) ≤ 16777215))] [] ?_
    intro wx hm
    refine ⟨ret_bool ?_,hm.kept⟩
    simp only [ge_iff_le] at d1 d2 d3
    simp [n24,d1,d2,d3]
   ·skip
    refine hgE 9 [oh0,oh0,oh0,⟨false,3,[]⟩,oh0] [2] [eD d3,eD d3,eD d3,eD d3] [] [.code [1,1]] ⟨[(2,.bool false)],(tg8_b1 a b w),[],w.heap.size + 1⟩ ?_
    refine hrt [] [.bool false] [] ?_
    intro wx hm
    refine ⟨ret_bool ?_,hm.kept⟩
    simp only [ge_iff_le] at d1 d2 d3
    simp [n24,d1,d2,d3]
  ·skip
   refine hgE 14 [oh0,oh0,oh0,⟨false,3,[]⟩,oh0,oh0,oh0,oh0,⟨false,3,[]⟩,oh0] [2] [eD d2,eD d2,eD d2,eD d2,fF,fF,fF,fF] [] [.code [1,1]] ⟨[(2,.bool false)],(tg8_b1 a b w),[],w.heap.size + 1⟩ ?_
   refine hrt [] [.bool false] [] ?_
   intro wx hm
   refine ⟨ret_bool ?_,hm.kept⟩
   simp only [ge_iff_le] at d1 d2
   simp [n24,d1,d2]
 ·skip
  refine hgE 19 [oh0,oh0,oh0,⟨false,3,[]⟩,oh0,oh0,oh0,oh0,⟨false,3,[]⟩,oh0,oh0,oh0,oh0,⟨false,3,[]⟩,oh0] [2] [eD d1,eD d1,eD d1,eD d1,fF,fF,fF,fF,fF,fF,fF,fF] [] [.code [1,1]] ⟨[(2,.bool false)],(tg8_b1 a b w),[],w.heap.size + 1⟩ ?_
  refine hrt [] [.bool false] [] ?_
  intro wx hm
  refine ⟨ret_bool ?_,hm.kept⟩
  simp only [ge_iff_le] at d1
  simp [n24,d1]
theorem recOk_iff (r:RecM):RecOk r ↔ ((0 ≤ r.fence ∧ r.fence ≤ 16777215) ∧ (0 ≤ r.de ∧ r.de ≤ 16777215) ∧ (0 ≤ r.ds ∧ r.ds ≤ 16777215) ∧ (0 ≤ r.ie ∧ r.ie ≤ 16777215) ∧ (0 ≤ r.is ∧ r.is ≤ 16777215) ∧ (0 ≤ r.mask ∧ r.mask ≤ 63) ∧
  (r.used = true → r.block.size = 16) ∧ (r.used = false → r.block.size = 0 ∧ r.op = false ∧ r.de = 0 ∧ r.ds = 0) ∧ (r.op = true → r.staged.size = 16) ∧ (r.op = false → r.staged.size = 0 ∧ r.ie = 0 ∧ r.is = 0 ∧ r.mask = 0)):=by
 simp only [size_zero]
 exact ⟨fun h=>⟨h.fence,h.de,h.ds,h.ie,h.is,h.mask,h.block,h.none,h.staged,h.shut⟩,fun ⟨h1,h2,h3,h4,h5,h6,h7,h8,h9,h10⟩=>⟨h1,h2,h3,h4,h5,h6,h7,h8,h9,h10⟩⟩
def rr_v1 (r:RecM):List Value:=[.bool r.used,i6 r.fence,i6 r.de,i6 r.ds,sT r.block,.bool r.op,i6 r.ie,i6 r.is,i6 r.mask,sT r.staged]
def rr_n1:List Nat:=[1,1,1,1,0,1,0,1]
def rr_n2:List Nat:=[4,5,6,7,8,9,10,11,12,13,14,15,16,17,18,19,20]
def rr_n3:List OH:=[oh0,oh0,oh0,oh0,⟨false,3,[]⟩,oh0,oh0,oh0,oh0,oh0,⟨false,3,[]⟩,oh0,oh0,oh0,oh0,⟨false,3,[]⟩,oh0]
def rr_n4:List OH:=[oh0,oh0,oh0,oh0,⟨false,3,[]⟩,oh0,oh0,oh0,oh0,⟨false,3,[]⟩,oh0]
def rr_n5:List OH:=[oh0,⟨false,0,[⟨false,0,1,1⟩]⟩,oh0,⟨false,3,[]⟩,oh0]
def rr_n6:List OH:=[oh1,oh1,⟨true,0,[⟨false,0,6,1⟩]⟩,oh1,oh3,oh0]
def rr_n7:List OH:=[oh1,oh1,⟨true,0,[⟨false,0,7,1⟩]⟩,oh1,oh3,oh0]
set_option maxRecDepth 100000 in
set_option maxHeartbeats 4000000 in
theorem refRight_any (r:RecM) (w:World) :
  Calls Try.prog 17 #[.agg #[.bool r.used,.int .i64 r.fence,.int .i64 r.de,.int .i64 r.ds,.string r.block,.bool r.op,.int .i64 r.ie,.int .i64 r.is,.int .i64 r.mask,.string r.staged]] w (RetK (.bool (okB r)) w):=by
 refine calls_of_holds (S:=(fun _=>False)) (l:=[.agg (List.toArray (rr_v1 r))]) (n:=97) Try.func17 (body_of (by kernel_rfl)) rfl (by simp) (MemOk.none w _) ?_
 refine hgE 12 [oh0,oh0,oh0,(oA 0 2 2)] [1,2,6] [] [(w.heap.size,2,2)] [.ops [1,0] [2,3],.code [1,1]] ⟨[(1,(pt w.heap.size 0)),(2,.bool false),(6,.agg #[i6 r.de,i6 r.ds])],[⟨w.heap.size,25,true,(rr_v1 r)⟩],[],w.heap.size + 1⟩ ?_
 refine hcp (.bool (n24 r.de && n24 r.ds)) 54 [.agg #[i6 r.de,i6 r.ds]] (some 7) [] tI rfl (fun wx hm=>tag8_any _ _ wx) fun z2 hz2=>?_
 replace hz2:w.heap.size + 1 ≤ z2:=hz2
 refine hgE 9 [oh0,oh0,(oA 0 6 2)] [1,2,3,9] [] [(w.heap.size,6,2)] [.ops [1,1,0] [2,3],.code [1,1,1]] ⟨[(1,(pt w.heap.size 0)),(2,.bool false),(3,.bool (n24 r.de && n24 r.ds)),(9,.agg #[i6 r.ie,i6 r.is])],[⟨w.heap.size,25,true,(rr_v1 r)⟩],[],z2⟩ ?_
 refine hcp (.bool (n24 r.ie && n24 r.is)) 54 [.agg #[i6 r.ie,i6 r.is]] (some 10) [] tI rfl (fun wx hm=>tag8_any _ _ wx) fun z4 hz4=>?_
 replace hz4:z2 ≤ z4:=hz4
 refine hgE 11 [oh0,oh0,oh0,oh0] [1,2,4,13] [] [] [.ops [1,1,1,0,0] [3,4,5,6,7,8,9,10,11,12,13,14,15,16,17,18,19,20,21,22,23,24,25],.code [1,1,1,0,1],.code [1,1,1,1]] ⟨[(1,(pt w.heap.size 0)),(2,.bool false),(4,.bool (n24 r.ie && n24 r.is)),(13,.bool (!(n24 r.de && n24 r.ds)))],[⟨w.heap.size,25,true,(rr_v1 r)⟩],[],z4⟩ ?_
 rcases Bool.eq_false_or_eq_true (n24 r.de && n24 r.ds) with d1 | d1
 ·skip
  refine hgE 7 [oh0,oh0,⟨false,3,[]⟩,oh0] [1,2,17] [eD (nF d1),eD (nF d1),eD (nF d1)] [] [.ops [1,1,1,0,0] [7,8,9,10,11,12,13,14,15,16,17,18,19,20,21,22,23,24,25],.code [1,1,1,0,1],.code [1,1,1,1]] ⟨[(1,(pt w.heap.size 0)),(2,.bool false),(17,.bool (!(n24 r.ie && n24 r.is)))],[⟨w.heap.size,25,true,(rr_v1 r)⟩],[],z4⟩ ?_
  rcases Bool.eq_false_or_eq_true (n24 r.ie && n24 r.is) with d2 | d2
  ·skip
   refine hgE 8 rr_n5 [1,2,22] [eD (nF d2),eD (nF d2),eD (nF d2),eD (nF d2)] [(w.heap.size,1,1)] [.ops [1,1,1,0,0] [12,13,14,15,16,17,18,19,20,21,22,23,24,25],.code [1,1,1,0,1],.code [1,1,1,1]] ⟨[(1,(pt w.heap.size 0)),(2,.bool false),(22,.bool (decide ((r.fence:Int) < 0)))],[⟨w.heap.size,25,true,(rr_v1 r)⟩],[],z4⟩ ?_
   rcases Bool.eq_false_or_eq_true (decide ((r.fence:Int) < 0)) with d3 | d3
   ·skip
    refine hgE 23 [oh1,oh1,oh1,oh3,oh0,oh1,oh1,oh1,oh3,oh0,oh1,oh1,oh1,oh3,oh1,oh0] [1,2] [eD d3,eD d3,eD d3,eD d3,tT,tT,tT,tT,tT,tT,tT,tT,tT] [] [.code [1,1,1,0,1,0,1],.code [1,1,1,1]] ⟨[(1,(pt w.heap.size 0)),(2,.bool false)],[⟨w.heap.size,25,true,(rr_v1 r)⟩],[],z4⟩ ?_
    refine hrt [] [.bool false] [] ?_
    intro wx hm
    refine ⟨ret_bool ?_,hm.kept⟩
    clear hm
    refine bool_eq_iff ?_
    rw [okB_iff,recOk_iff]
    simp_all [n24]
    try omega
   ·skip
    refine hgE 8 rr_n5 [1,2,27] [eD d3,eD d3,eD d3,eD d3] [(w.heap.size,1,1)] [.ops [1,1,1,0,0] [17,18,19,20,21,22,23,24,25],.code [1,1,1,0,1],.code [1,1,1,1]] ⟨[(1,(pt w.heap.size 0)),(2,.bool false),(27,.bool (decide ((r.fence:Int) > 16777215)))],[⟨w.heap.size,25,true,(rr_v1 r)⟩],[],z4⟩ ?_
    rcases Bool.eq_false_or_eq_true (decide ((r.fence:Int) > 16777215)) with d4 | d4
    ·skip
     refine hgE 18 [oh1,oh1,oh1,oh3,oh0,oh1,oh1,oh1,oh3,oh1,oh0] [1,2] [eD d4,eD d4,eD d4,eD d4,tT,tT,tT,tT,tT] [] [.code [1,1,1,0,1,0,1],.code [1,1,1,1]] ⟨[(1,(pt w.heap.size 0)),(2,.bool false)],[⟨w.heap.size,25,true,(rr_v1 r)⟩],[],z4⟩ ?_
     refine hrt [] [.bool false] [] ?_
     intro wx hm
     refine ⟨ret_bool ?_,hm.kept⟩
     clear hm
     refine bool_eq_iff ?_
     rw [okB_iff,recOk_iff]
     simp_all [n24]
     try omega
    ·skip
     refine hgE 8 [oh0,(oA 0 8 1),oh0,⟨false,3,[]⟩,oh0] [1,2,32] [eD d4,eD d4,eD d4,eD d4] [(w.heap.size,8,1)] [.ops [1,1,1,0,0] [22,23,24,25],.code [1,1,1,0,1],.code [1,1,1,1]] ⟨[(1,(pt w.heap.size 0)),(2,.bool false),(32,.bool (decide ((r.mask:Int) < 0)))],[⟨w.heap.size,25,true,(rr_v1 r)⟩],[],z4⟩ ?_
     rcases Bool.eq_false_or_eq_true (decide ((r.mask:Int) < 0)) with d5 | d5
     ·skip
      refine hgE 13 [oh1,oh1,oh1,oh3,oh1,oh0] [1,2] [eD d5,eD d5,eD d5,eD d5,tT] [] [.code [1,1,1,0,1,0,1],.code [1,1,1,1]] ⟨[(1,(pt w.heap.size 0)),(2,.bool false)],[⟨w.heap.size,25,true,(rr_v1 r)⟩],[],z4⟩ ?_
      refine hrt [] [.bool false] [] ?_
      intro wx hm
      refine ⟨ret_bool ?_,hm.kept⟩
      clear hm
      refine bool_eq_iff ?_
      rw [okB_iff,recOk_iff]
      simp_all [n24]
      try omega
     ·skip
      refine hgE 8 [oh0,(oA 0 8 1),oh0,⟨false,3,[]⟩] [1,2,36] [eD d5,eD d5,eD d5,eD d5] [(w.heap.size,8,1)] [.code [1,1,1,0,1],.code [1,1,1,1]] ⟨[(1,(pt w.heap.size 0)),(2,.bool false),(36,.bool (decide ((r.mask:Int) > 63)))],[⟨w.heap.size,25,true,(rr_v1 r)⟩],[],z4⟩ ?_
      rcases Bool.eq_false_or_eq_true (decide ((r.mask:Int) > 63)) with d6 | d6
      ·skip
       refine hgE 8 [oh1,oh0] [1,2] [eD d6] [] [.code [1,1,1,0,1,0,1],.code [1,1,1,1]] ⟨[(1,(pt w.heap.size 0)),(2,.bool false)],[⟨w.heap.size,25,true,(rr_v1 r)⟩],[],z4⟩ ?_
       refine hrt [] [.bool false] [] ?_
       intro wx hm
       refine ⟨ret_bool ?_,hm.kept⟩
       clear hm
       refine bool_eq_iff ?_
       rw [okB_iff,recOk_iff]
       simp_all [n24]
       try omega
      ·skip
       refine hgE 11 [oh0,oh0,(oA 0 0 1),oh0] [1,2,39] [eD d6] [(w.heap.size,0,1)] [.ops [1,1,1,1,0,0] [3,4,5,6,7,8,9,10,11,12,13,14,15,16,17,18,19,20,21,22,23,24,25,26,27,28,29,30,31,32,33],.code [1,1,1,1,0,1],.code [1,1,1,1,1]] ⟨[(1,(pt w.heap.size 0)),(2,.bool false),(39,.bool r.used)],[⟨w.heap.size,25,true,(rr_v1 r)⟩],[],z4⟩ ?_
       rcases Bool.eq_false_or_eq_true (r.used) with d7 | d7
       ·skip
        refine hgE 9 [oh1,⟨true,0,[⟨false,0,4,1⟩]⟩,oh1,oh1,oh3,oh0] [1,2,45] [eD d7,eD d7,eD d7,eD d7,eD d7] [(w.heap.size,4,1)] [.ops [1,1,1,1,0,0] [9,10,11,12,13,14,15,16,17,18,19,20,21,22,23,24,25,26,27,28,29,30,31,32,33],.code [1,1,1,1,0,1],.code [1,1,1,1,1]] ⟨[(1,(pt w.heap.size 0)),(2,.bool false),(45,.bool ((r.block.size:Int) != 16))],[⟨w.heap.size,25,true,(rr_v1 r)⟩],[],z4⟩ ?_
        rcases Bool.eq_false_or_eq_true ((r.block.size:Int) != 16) with d8 | d8
        ·skip
         refine hgE 34 [oh1,oh1,oh1,oh1,oh0,oh0,oh0,oh0,oh0,oh0,oh0,oh0,oh0,oh0,oh0,oh0,oh0,oh0,oh0,oh0,oh0,oh0,oh0,oh1,oh3,oh1,oh0] [1,2] [eD d8,eD d8,eD d8,eD d8,eD d8,eD d8,tT] [] [.code rr_n1,.code [1,1,1,1,1]] ⟨[(1,(pt w.heap.size 0)),(2,.bool false)],[⟨w.heap.size,25,true,(rr_v1 r)⟩],[],z4⟩ ?_
         refine hrt [] [.bool false] [] ?_
         intro wx hm
         refine ⟨ret_bool ?_,hm.kept⟩
         clear hm
         refine bool_eq_iff ?_
         rw [okB_iff,recOk_iff]
         simp_all [n24]
         try omega
        ·skip
         refine hgE 37 [oh0,(oA 0 0 1),oh0,oh0,oh0,oh0,oh0,oh0,oh0,oh0,oh0,oh0,oh0,oh0,oh0,oh0,oh0,oh0,oh0,oh0,oh0,oh0,oh0,⟨false,3,[]⟩,⟨false,3,[]⟩,oh0,oh0,(oA 0 5 1)] [1,2,72] [eD d8,eD d8,eD d8,eD d8,eD (nF d7),eD (nF d7),eD (nF d7),eD (nF d7),eD (nF d7),eD (nF d7),eD (nF d7),eD (nF d7),eD (nF d7),eD d8,eD (nF d7),eD d8,fF] [(w.heap.size,0,1),(w.heap.size,5,1)] [.code [1,1,1,1,1,0,1],.code [1,1,1,1,1,1]] ⟨[(1,(pt w.heap.size 0)),(2,.bool false),(72,.bool r.op)],[⟨w.heap.size,25,true,(rr_v1 r)⟩],[],z4⟩ ?_
         rcases Bool.eq_false_or_eq_true (r.op) with d9 | d9
         ·skip
          refine hgE 12 [oh1,oh0,(oA 0 9 1),oh0,oh0,oh0] [1,2] [eD d9] [(w.heap.size,9,1)] [.code [1,1,1,1,1,0,1,0,1],.code [1,1,1,1,1,1]] ⟨[(1,(pt w.heap.size 0)),(2,.bool ((r.staged.size:Int) == 16))],[⟨w.heap.size,25,true,(rr_v1 r)⟩],[],z4⟩ ?_
          refine hrt [] [.bool ((r.staged.size:Int) == 16)] [] ?_
          intro wx hm
          refine ⟨ret_bool ?_,hm.kept⟩
          clear hm
          refine bool_eq_iff ?_
          rw [okB_iff,recOk_iff]
          simp_all [n24]
          try omega
         ·skip
          refine hgE 11 [oh0,oh0,(oA 0 9 1),oh0,oh0] [1,2,80] [eD d9] [(w.heap.size,9,1)] [.ops [1,1,1,1,1,1,0] rr_n2,.code [1,1,1,1,1,1,1]] ⟨[(1,(pt w.heap.size 0)),(2,.bool false),(80,.bool (ByteArray.toList r.staged == ByteArray.toList ⟨#[]⟩))],[⟨w.heap.size,25,true,(rr_v1 r)⟩],[],z4⟩ ?_
          rcases Bool.eq_false_or_eq_true (ByteArray.toList r.staged == ByteArray.toList ⟨#[]⟩) with d10 | d10
          ·skip
           refine hgE 9 rr_n6 [1,2,86] [eD d10,eD d10,eD d10,eD d10,eD d10] [(w.heap.size,6,1)] [.ops [1,1,1,1,1,1,0] [10,11,12,13,14,15,16,17,18,19,20],.code [1,1,1,1,1,1,1]] ⟨[(1,(pt w.heap.size 0)),(2,.bool false),(86,.bool (r.ie == 0))],[⟨w.heap.size,25,true,(rr_v1 r)⟩],[],z4⟩ ?_
           rcases Bool.eq_false_or_eq_true (r.ie == 0) with d11 | d11
           ·skip
            refine hgE 9 rr_n7 [1,2,92] [eD d11,eD d11,eD d11,eD d11,eD d11] [(w.heap.size,7,1)] [.ops [1,1,1,1,1,1,0] [16,17,18,19,20],.code [1,1,1,1,1,1,1]] ⟨[(1,(pt w.heap.size 0)),(2,.bool false),(92,.bool (r.is == 0))],[⟨w.heap.size,25,true,(rr_v1 r)⟩],[],z4⟩ ?_
            rcases Bool.eq_false_or_eq_true (r.is == 0) with d12 | d12
            ·skip
             refine hgE 9 [oh1,⟨true,0,[⟨false,0,8,1⟩]⟩,oh1,oh3,oh0] [2] [eD d12,eD d12,eD d12,eD d12] [(w.heap.size,8,1)] [.code [1,1,1,1,1,1,1]] ⟨[(2,.bool (r.mask == 0))],[⟨w.heap.size,25,true,(rr_v1 r)⟩],[],z4⟩ ?_
             refine hrt [] [.bool (r.mask == 0)] [] ?_
             intro wx hm
             refine ⟨ret_bool ?_,hm.kept⟩
             clear hm
             refine bool_eq_iff ?_
             rw [okB_iff,recOk_iff]
             rw [empty_text] at d10
             simp_all [n24]
             try omega
            ·skip
             refine hgE 9 [oh0,oh0,oh0,⟨false,3,[]⟩,oh0] [2] [eD d12,eD d12,eD d12,eD d12] [] [.code [1,1,1,1,1,1,1]] ⟨[(2,.bool false)],[⟨w.heap.size,25,true,(rr_v1 r)⟩],[],z4⟩ ?_
             refine hrt [] [.bool false] [] ?_
             intro wx hm
             refine ⟨ret_bool ?_,hm.kept⟩
             clear hm
             refine bool_eq_iff ?_
             rw [okB_iff,recOk_iff]
             rw [empty_text] at d10
             simp_all [n24]
             try omega
           ·skip
            refine hgE 15 rr_n4 [2] [eD d11,eD d11,eD d11,eD d11,eD d11,fF,fF,fF,fF] [] [.code [1,1,1,1,1,1,1]] ⟨[(2,.bool false)],[⟨w.heap.size,25,true,(rr_v1 r)⟩],[],z4⟩ ?_
            refine hrt [] [.bool false] [] ?_
            intro wx hm
            refine ⟨ret_bool ?_,hm.kept⟩
            clear hm
            refine bool_eq_iff ?_
            rw [okB_iff,recOk_iff]
            rw [empty_text] at d10
            simp_all [n24]
            try omega
          ·skip
           refine hgE 21 rr_n3 [2] [eD d10,eD d10,eD d10,eD d10,eD d10,fF,fF,fF,fF,fF,fF,fF,fF,fF] [] [.code [1,1,1,1,1,1,1]] ⟨[(2,.bool false)],[⟨w.heap.size,25,true,(rr_v1 r)⟩],[],z4⟩ ?_
           refine hrt [] [.bool false] [] ?_
           intro wx hm
           refine ⟨ret_bool ?_,hm.kept⟩
           clear hm
           refine bool_eq_iff ?_
           rw [okB_iff,recOk_iff]
           rw [empty_text] at d10
           simp_all [n24]
           try omega
       ·skip
        refine hgE 17 [oh0,oh0,oh0,oh0,⟨false,3,[]⟩,oh0,oh0,(oA 0 0 1),oh0,oh0,oh1,⟨true,0,[⟨false,0,4,1⟩]⟩,oh1,oh1] [1,2,45,49,53] [eD d7,eD d7,eD d7,eD d7,eD d7,fF,fF,fF,fF,eD (nT d7),eD (nT d7),eD (nT d7),eD (nT d7)] [(w.heap.size,0,1),(w.heap.size,4,1)] [.ops [1,1,1,1,0,0] [17,18,19,20,21,22,23,24,25,26,27,28,29,30,31,32,33],.code [1,1,1,1,0,1],.code [1,1,1,1,1]] ⟨[(1,(pt w.heap.size 0)),(2,.bool false),(45,.bool false),(49,.bool (!r.used)),(53,.bool (!(ByteArray.toList r.block == ByteArray.toList ⟨#[]⟩)))],[⟨w.heap.size,25,true,(rr_v1 r)⟩],[],z4⟩ ?_
        rcases Bool.eq_false_or_eq_true (ByteArray.toList r.block == ByteArray.toList ⟨#[]⟩) with d13 | d13
        ·skip
         refine hgE 7 [oh0,(oA 0 5 1),⟨true,3,[]⟩,oh1] [1,2,45,49,57] [eD (nF d13),eD (nF d13),eD (nT d7),eD (nF d13),eD (nT d7)] [(w.heap.size,5,1)] [.ops [1,1,1,1,0,0] [21,22,23,24,25,26,27,28,29,30,31,32,33],.code [1,1,1,1,0,1],.code [1,1,1,1,1]] ⟨[(1,(pt w.heap.size 0)),(2,.bool false),(45,.bool false),(49,.bool (!r.used)),(57,.bool r.op)],[⟨w.heap.size,25,true,(rr_v1 r)⟩],[],z4⟩ ?_
         rcases Bool.eq_false_or_eq_true (r.op) with d14 | d14
         ·skip
          refine hgE 22 [oh1,oh1,oh1,oh1,⟨true,2,[]⟩,oh1,oh1,oh1,oh1,oh1,⟨true,2,[]⟩,oh3,⟨false,3,[]⟩,oh1,oh0] [1,2] [eD d14,eD d14,eD d14,eD d14,eD (nT d7),eD d14,eD (nT d7),tT,tT,tT,tT,eD (nT d7),tT,fF,eD (nT d7),fF,tT] [] [.code rr_n1,.code [1,1,1,1,1]] ⟨[(1,(pt w.heap.size 0)),(2,.bool false)],[⟨w.heap.size,25,true,(rr_v1 r)⟩],[],z4⟩ ?_
          refine hrt [] [.bool false] [] ?_
          intro wx hm
          refine ⟨ret_bool ?_,hm.kept⟩
          clear hm
          refine bool_eq_iff ?_
          rw [okB_iff,recOk_iff]
          rw [empty_text] at d13
          simp_all [n24]
          try omega
         ·skip
          refine hgE 9 [oh0,oh0,(oA 0 2 1),oh0,⟨true,3,[]⟩,oh1] [1,2,45,49,63] [eD d14,eD d14,eD d14,eD d14,eD (nT d7),eD d14,eD (nT d7)] [(w.heap.size,2,1)] [.ops [1,1,1,1,0,0] [27,28,29,30,31,32,33],.code [1,1,1,1,0,1],.code [1,1,1,1,1]] ⟨[(1,(pt w.heap.size 0)),(2,.bool false),(45,.bool false),(49,.bool (!r.used)),(63,.bool (r.de != 0))],[⟨w.heap.size,25,true,(rr_v1 r)⟩],[],z4⟩ ?_
          rcases Bool.eq_false_or_eq_true (r.de != 0) with d15 | d15
          ·skip
           refine hgE 16 [oh1,oh1,oh1,oh1,⟨true,2,[]⟩,oh3,⟨false,3,[]⟩,oh1,oh0] [1,2] [eD d15,eD d15,eD d15,eD d15,eD (nT d7),eD d15,fF,eD (nT d7),fF,tT] [] [.code rr_n1,.code [1,1,1,1,1]] ⟨[(1,(pt w.heap.size 0)),(2,.bool false)],[⟨w.heap.size,25,true,(rr_v1 r)⟩],[],z4⟩ ?_
           refine hrt [] [.bool false] [] ?_
           intro wx hm
           refine ⟨ret_bool ?_,hm.kept⟩
           clear hm
           refine bool_eq_iff ?_
           rw [okB_iff,recOk_iff]
           rw [empty_text] at d13
           simp_all [n24]
           try omega
          ·skip
           refine hgE 11 [oh0,oh0,(oA 0 3 1),oh0,⟨true,3,[]⟩,oh3,⟨false,3,[]⟩] [1,2,70] [eD d15,eD d15,eD d15,eD d15,eD (nT d7),eD d15,fF,eD (nT d7),fF] [(w.heap.size,3,1)] [.code [1,1,1,1,0,1],.code [1,1,1,1,1]] ⟨[(1,(pt w.heap.size 0)),(2,.bool false),(70,.bool (r.ds != 0))],[⟨w.heap.size,25,true,(rr_v1 r)⟩],[],z4⟩ ?_
           rcases Bool.eq_false_or_eq_true (r.ds != 0) with d16 | d16
           ·skip
            refine hgE 8 [oh1,oh0] [1,2] [eD d16] [] [.code rr_n1,.code [1,1,1,1,1]] ⟨[(1,(pt w.heap.size 0)),(2,.bool false)],[⟨w.heap.size,25,true,(rr_v1 r)⟩],[],z4⟩ ?_
            refine hrt [] [.bool false] [] ?_
            intro wx hm
            refine ⟨ret_bool ?_,hm.kept⟩
            clear hm
            refine bool_eq_iff ?_
            rw [okB_iff,recOk_iff]
            rw [empty_text] at d13
            simp_all [n24]
            try omega
           ·skip
            refine hgE 19 [oh0,oh0,(oA 0 5 1),oh0,oh0,(oA 0 9 1),oh0,oh0] [1,2,80] [eD d16,eD d14] [(w.heap.size,5,1),(w.heap.size,9,1)] [.ops [1,1,1,1,1,1,0] rr_n2,.code [1,1,1,1,1,1,1]] ⟨[(1,(pt w.heap.size 0)),(2,.bool false),(80,.bool (ByteArray.toList r.staged == ByteArray.toList ⟨#[]⟩))],[⟨w.heap.size,25,true,(rr_v1 r)⟩],[],z4⟩ ?_
            rcases Bool.eq_false_or_eq_true (ByteArray.toList r.staged == ByteArray.toList ⟨#[]⟩) with d17 | d17
            ·skip
             refine hgE 9 rr_n6 [1,2,86] [eD d17,eD d17,eD d17,eD d17,eD d17] [(w.heap.size,6,1)] [.ops [1,1,1,1,1,1,0] [10,11,12,13,14,15,16,17,18,19,20],.code [1,1,1,1,1,1,1]] ⟨[(1,(pt w.heap.size 0)),(2,.bool false),(86,.bool (r.ie == 0))],[⟨w.heap.size,25,true,(rr_v1 r)⟩],[],z4⟩ ?_
             rcases Bool.eq_false_or_eq_true (r.ie == 0) with d18 | d18
             ·skip
              refine hgE 9 rr_n7 [1,2,92] [eD d18,eD d18,eD d18,eD d18,eD d18] [(w.heap.size,7,1)] [.ops [1,1,1,1,1,1,0] [16,17,18,19,20],.code [1,1,1,1,1,1,1]] ⟨[(1,(pt w.heap.size 0)),(2,.bool false),(92,.bool (r.is == 0))],[⟨w.heap.size,25,true,(rr_v1 r)⟩],[],z4⟩ ?_
              rcases Bool.eq_false_or_eq_true (r.is == 0) with d19 | d19
              ·skip
               refine hgE 9 [oh1,⟨true,0,[⟨false,0,8,1⟩]⟩,oh1,oh3,oh0] [2] [eD d19,eD d19,eD d19,eD d19] [(w.heap.size,8,1)] [.code [1,1,1,1,1,1,1]] ⟨[(2,.bool (r.mask == 0))],[⟨w.heap.size,25,true,(rr_v1 r)⟩],[],z4⟩ ?_
               refine hrt [] [.bool (r.mask == 0)] [] ?_
               intro wx hm
               refine ⟨ret_bool ?_,hm.kept⟩
               clear hm
               refine bool_eq_iff ?_
               rw [okB_iff,recOk_iff]
               rw [empty_text] at d13
               rw [empty_text] at d17
               simp_all [n24]
               try omega
              ·skip
               refine hgE 9 [oh0,oh0,oh0,⟨false,3,[]⟩,oh0] [2] [eD d19,eD d19,eD d19,eD d19] [] [.code [1,1,1,1,1,1,1]] ⟨[(2,.bool false)],[⟨w.heap.size,25,true,(rr_v1 r)⟩],[],z4⟩ ?_
               refine hrt [] [.bool false] [] ?_
               intro wx hm
               refine ⟨ret_bool ?_,hm.kept⟩
               clear hm
               refine bool_eq_iff ?_
               rw [okB_iff,recOk_iff]
               rw [empty_text] at d13
               rw [empty_text] at d17
               simp_all [n24]
               try omega
             ·skip
              refine hgE 15 rr_n4 [2] [eD d18,eD d18,eD d18,eD d18,eD d18,fF,fF,fF,fF] [] [.code [1,1,1,1,1,1,1]] ⟨[(2,.bool false)],[⟨w.heap.size,25,true,(rr_v1 r)⟩],[],z4⟩ ?_
              refine hrt [] [.bool false] [] ?_
              intro wx hm
              refine ⟨ret_bool ?_,hm.kept⟩
              clear hm
              refine bool_eq_iff ?_
              rw [okB_iff,recOk_iff]
              rw [empty_text] at d13
              rw [empty_text] at d17
              simp_all [n24]
              try omega
            ·skip
             refine hgE 21 rr_n3 [2] [eD d17,eD d17,eD d17,eD d17,eD d17,fF,fF,fF,fF,fF,fF,fF,fF,fF] [] [.code [1,1,1,1,1,1,1]] ⟨[(2,.bool false)],[⟨w.heap.size,25,true,(rr_v1 r)⟩],[],z4⟩ ?_
             refine hrt [] [.bool false] [] ?_
             intro wx hm
             refine ⟨ret_bool ?_,hm.kept⟩
             clear hm
             refine bool_eq_iff ?_
             rw [okB_iff,recOk_iff]
             rw [empty_text] at d13
             rw [empty_text] at d17
             simp_all [n24]
             try omega
        ·skip
         refine hgE 26 [oh1,oh1,⟨true,2,[]⟩,oh1,oh1,oh1,oh1,oh1,⟨true,2,[]⟩,oh1,oh1,oh1,oh1,oh1,⟨true,2,[]⟩,oh3,⟨false,3,[]⟩,oh1,oh0] [1,2] [eD (nT d13),eD (nT d13),eD (nT d7),eD (nT d13),eD (nT d7),tT,tT,tT,tT,eD (nT d7),tT,eD (nT d7),tT,tT,tT,tT,eD (nT d7),tT,fF,eD (nT d7),fF,tT] [] [.code rr_n1,.code [1,1,1,1,1]] ⟨[(1,(pt w.heap.size 0)),(2,.bool false)],[⟨w.heap.size,25,true,(rr_v1 r)⟩],[],z4⟩ ?_
         refine hrt [] [.bool false] [] ?_
         intro wx hm
         refine ⟨ret_bool ?_,hm.kept⟩
         clear hm
         refine bool_eq_iff ?_
         rw [okB_iff,recOk_iff]
         rw [empty_text] at d13
         simp_all [n24]
         try omega
  ·skip
   refine hgE 28 [oh1,oh1,oh1,oh3,oh0,oh1,oh1,oh1,oh3,oh0,oh1,oh1,oh1,oh3,oh0,oh1,oh1,oh1,oh3,oh1,oh0] [1,2] [eD (nT d2),eD (nT d2),eD (nT d2),eD (nT d2),tT,tT,tT,tT,tT,tT,tT,tT,tT,tT,tT,tT,tT] [] [.code [1,1,1,0,1,0,1],.code [1,1,1,1]] ⟨[(1,(pt w.heap.size 0)),(2,.bool false)],[⟨w.heap.size,25,true,(rr_v1 r)⟩],[],z4⟩ ?_
   refine hrt [] [.bool false] [] ?_
   intro wx hm
   refine ⟨ret_bool ?_,hm.kept⟩
   clear hm
   refine bool_eq_iff ?_
   rw [okB_iff,recOk_iff]
   simp_all [n24]
   try omega
 ·skip
  refine hgE 32 [oh1,oh1,oh3,oh0,oh1,oh1,oh1,oh3,oh0,oh1,oh1,oh1,oh3,oh0,oh1,oh1,oh1,oh3,oh0,oh1,oh1,oh1,oh3,oh1,oh0] [1,2] [eD (nT d1),eD (nT d1),eD (nT d1),tT,tT,tT,tT,tT,tT,tT,tT,tT,tT,tT,tT,tT,tT,tT,tT,tT] [] [.code [1,1,1,0,1,0,1],.code [1,1,1,1]] ⟨[(1,(pt w.heap.size 0)),(2,.bool false)],[⟨w.heap.size,25,true,(rr_v1 r)⟩],[],z4⟩ ?_
  refine hrt [] [.bool false] [] ?_
  intro wx hm
  refine ⟨ret_bool ?_,hm.kept⟩
  clear hm
  refine bool_eq_iff ?_
  rw [okB_iff,recOk_iff]
  simp_all [n24]
  try omega
end Go.Proofs.Ytpilmccjjbgmiaa
