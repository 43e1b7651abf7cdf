import Derived.Test.YtkffgdfbdmgncaaPut12
import Derived.Test.YtkffgdfbdmgncaaRefT12
import Derived.Test.YtkffgdfbdmgncaaRefF12
import Derived.Test.YtkffgdfbdmgncaaRefA12
import Derived.Test.YtkffgdfbdmgncaaRightR8
namespace Go.Proofs.Ytkffgdfbdmgncaa
open Go.RowKit
def rpa_n1:List OH:=[oh0,oh0,⟨false,3,[]⟩,oh0]
set_option maxRecDepth 100000 in
set_option maxHeartbeats 4000000 in
theorem refParty_any (n:Int) (w:World) :
  Calls Try.prog 36 #[.int .i64 n] w (RetK (.bool (partyB n)) w):=by
 refine calls_of_holds (S:=(fun _=>False)) (l:=[.int .i64 n]) (n:=21) Try.func36 (body_of (by kernel_rfl)) rfl (by simp) (MemOk.none w _) ?_
 refine hgE 12 [oh0,oh0,oh0,oh0] [0,2,5] [] [] [.ops [1,0] [3,4,5,6,7,8,9,10,11,12,13,14,15,16,17,18],.code [1,1]] ⟨[(0,i6 n),(2,.bool false),(5,.bool (decide ((n:Int) ≥ 0)))],[],[],w.heap.size⟩ ?_
 rcases Bool.eq_false_or_eq_true (decide ((n:Int) ≥ 0)) with d1 | d1
 ·skip
  refine hgE 7 [oh1,oh1,oh3,oh0] [0,2,9] [eD d1,eD d1,eD d1] [] [.ops [1,0] [7,8,9,10,11,12,13,14,15,16,17,18],.code [1,1]] ⟨[(0,i6 n),(2,.bool false),(9,.bool (decide ((n:Int) ≤ 5)))],[],[],w.heap.size⟩ ?_
  rcases Bool.eq_false_or_eq_true (decide ((n:Int) ≤ 5)) with d2 | d2
  ·skip
   refine hgE 16 [oh1,oh1,oh3,oh0,oh1,oh1,oh3,oh0,oh1,oh1,oh3,oh0] [2] [eD d2,eD d2,eD d2,tT,tT,tT,tT,tT,tT] [] [.code [1,1]] ⟨[(2,.bool true)],[],[],w.heap.size⟩ ?_
   refine hrt [] [.bool true] [] ?_
   intro wx hm
   refine ⟨ret_bool ?_,hm.kept⟩
   clear hm
   refine Bool.eq_iff_iff.2 ?_
   unfold partyB
   simp at d1 d2 ⊢ <;> omega
  ·skip
   refine hgE 7 rpa_n1 [0,2,13] [eD d2,eD d2,eD d2] [] [.ops [1,0] [11,12,13,14,15,16,17,18],.code [1,1]] ⟨[(0,i6 n),(2,.bool false),(13,.bool (n == 100))],[],[],w.heap.size⟩ ?_
   rcases Bool.eq_false_or_eq_true (n == 100) with d3 | d3
   ·skip
    refine hgE 12 [oh1,oh1,oh3,oh0,oh1,oh1,oh3,oh0] [2] [eD d3,eD d3,eD d3,tT,tT,tT] [] [.code [1,1]] ⟨[(2,.bool true)],[],[],w.heap.size⟩ ?_
    refine hrt [] [.bool true] [] ?_
    intro wx hm
    refine ⟨ret_bool ?_,hm.kept⟩
    clear hm
    refine Bool.eq_iff_iff.2 ?_
    unfold partyB
    simp at d1 d2 d3 ⊢ <;> omega
   ·skip
    refine hgE 7 rpa_n1 [0,2,17] [eD d3,eD d3,eD d3] [] [.ops [1,0] [15,16,17,18],.code [1,1]] ⟨[(0,i6 n),(2,.bool false),(17,.bool (n == 200))],[],[],w.heap.size⟩ ?_
    rcases Bool.eq_false_or_eq_true (n == 200) with d4 | d4
    ·skip
     refine hgE 8 [oh1,oh1,oh3,oh0] [2] [eD d4,eD d4,eD d4] [] [.code [1,1]] ⟨[(2,.bool true)],[],[],w.heap.size⟩ ?_
     refine hrt [] [.bool true] [] ?_
     intro wx hm
     refine ⟨ret_bool ?_,hm.kept⟩
     clear hm
     refine Bool.eq_iff_iff.2 ?_
     unfold partyB
     simp at d1 d2 d3 d4 ⊢ <;> omega
    ·skip
     refine hgE 8 rpa_n1 [2] [eD d4,eD d4,eD d4] [] [.code [1,1]] ⟨[(2,.bool (n == 201))],[],[],w.heap.size⟩ ?_
     refine hrt [] [.bool (n == 201)] [] ?_
     intro wx hm
     refine ⟨ret_bool ?_,hm.kept⟩
     clear hm
     refine Bool.eq_iff_iff.2 ?_
     unfold partyB
     simp at d1 d2 d3 d4 ⊢ <;> omega
 ·skip
  refine hgE 11 [oh0,oh0,⟨false,3,[]⟩,oh0,oh0,oh0,⟨false,3,[]⟩,oh0] [0,2,13] [eD d1,eD d1,eD d1,fF,fF,fF] [] [.ops [1,0] [11,12,13,14,15,16,17,18],.code [1,1]] ⟨[(0,i6 n),(2,.bool false),(13,.bool (n == 100))],[],[],w.heap.size⟩ ?_
  rcases Bool.eq_false_or_eq_true (n == 100) with d5 | d5
  ·skip
   refine hgE 12 [oh1,oh1,oh3,oh0,oh1,oh1,oh3,oh0] [2] [eD d5,eD d5,eD d5,tT,tT,tT] [] [.code [1,1]] ⟨[(2,.bool true)],[],[],w.heap.size⟩ ?_
   refine hrt [] [.bool true] [] ?_
   intro wx hm
   refine ⟨ret_bool ?_,hm.kept⟩
   clear hm
   refine Bool.eq_iff_iff.2 ?_
   unfold partyB
   simp at d1 d5 ⊢ <;> omega
  ·skip
   refine hgE 7 rpa_n1 [0,2,17] [eD d5,eD d5,eD d5] [] [.ops [1,0] [15,16,17,18],.code [1,1]] ⟨[(0,i6 n),(2,.bool false),(17,.bool (n == 200))],[],[],w.heap.size⟩ ?_
   rcases Bool.eq_false_or_eq_true (n == 200) with d6 | d6
   ·skip
    refine hgE 8 [oh1,oh1,oh3,oh0] [2] [eD d6,eD d6,eD d6] [] [.code [1,1]] ⟨[(2,.bool true)],[],[],w.heap.size⟩ ?_
    refine hrt [] [.bool true] [] ?_
    intro wx hm
    refine ⟨ret_bool ?_,hm.kept⟩
    clear hm
    refine Bool.eq_iff_iff.2 ?_
    unfold partyB
    simp at d1 d5 d6 ⊢ <;> omega
   ·skip
    refine hgE 8 rpa_n1 [2] [eD d6,eD d6,eD d6] [] [.code [1,1]] ⟨[(2,.bool (n == 201))],[],[],w.heap.size⟩ ?_
    refine hrt [] [.bool (n == 201)] [] ?_
    intro wx hm
    refine ⟨ret_bool ?_,hm.kept⟩
    clear hm
    refine Bool.eq_iff_iff.2 ?_
    unfold partyB
    simp at d1 d5 d6 ⊢ <;> omega
theorem saB_doc (s:SayR):saB s = (decide (s.st ≥ 1) && (decide (s.st ≤ 7) && (decide (s.ep ≥ 0) && (decide (s.ep ≤ 16777215) && (decide (s.ou ≥ (-1)) && (decide (s.ou ≤ 5) && okB s.rc)))))):=by
 unfold saB
 generalize okB s.rc = b
 refine Bool.eq_iff_iff.2 ?_
 cases b <;> simp <;> omega
def rri_v1 (l:LetM):List Value:=[i6 l.fr,i6 l.dst,i6 l.id,.bool l.ans,i6 l.ask.kind,i6 l.ask.stripe,i6 l.ask.epoch,i6 l.ask.seq,i6 l.ask.mask,i6 l.ask.node,i6 l.ask.oe,i6 l.ask.os,sT l.ask.block,i6 l.say.st,i6 l.say.ep,i6 l.say.ou,.bool l.say.rc.used,i6 l.say.rc.fence,i6 l.say.rc.de,i6 l.say.rc.ds,sT l.say.rc.block,.bool l.say.rc.op,i6 l.say.rc.ie,i6 l.say.rc.is,i6 l.say.rc.mask,sT l.say.rc.staged]
def rri_v2 (l:LetM):List Value:=[.bool l.say.rc.used,i6 l.say.rc.fence,i6 l.say.rc.de,i6 l.say.rc.ds,sT l.say.rc.block,.bool l.say.rc.op,i6 l.say.rc.ie,i6 l.say.rc.is,i6 l.say.rc.mask,sT l.say.rc.staged]
def rri_v3 (l:LetM):List Value:=[i6 l.ask.kind,i6 l.ask.stripe,i6 l.ask.epoch,i6 l.ask.seq,i6 l.ask.mask,i6 l.ask.node,i6 l.ask.oe,i6 l.ask.os,sT l.ask.block]
def rri_n1:List OH:=[oh1,oh1,⟨true,0,[⟨false,0,13,1⟩]⟩,oh1,oh3,oh0]
def rri_n2:List OH:=[oh1,oh1,⟨true,0,[⟨false,0,14,1⟩]⟩,oh1,oh3,oh0]
def rri_n3:List OH:=[oh1,oh1,⟨true,0,[⟨false,0,15,1⟩]⟩,oh1,oh3,oh0]
set_option maxRecDepth 100000 in
set_option maxHeartbeats 4000000 in
theorem refMsgRight_any (l:LetM) (w:World) :
  Calls Try.prog 15 #[.agg #[.int .i64 l.fr,.int .i64 l.dst,.int .i64 l.id,.bool l.ans,.int .i64 l.ask.kind,.int .i64 l.ask.stripe,.int .i64 l.ask.epoch,.int .i64 l.ask.seq,.int .i64 l.ask.mask,.int .i64 l.ask.node,.int .i64 l.ask.oe,.int .i64 l.ask.os,.string l.ask.block,.int .i64 l.say.st,.int .i64 l.say.ep,.int .i64 l.say.ou,.bool l.say.rc.used,.int .i64 l.say.rc.fence,.int .i64 l.say.rc.de,.int .i64 l.say.rc.ds,.string l.say.rc.block,.bool l.say.rc.op,.int .i64 l.say.rc.ie,.int .i64 l.say.rc.is,.int .i64 l.say.rc.mask,.string l.say.rc.staged]] w (RetK (.bool (rightL l)) w):=by
 refine calls_of_holds (S:=(fun _=>False)) (l:=[.agg (List.toArray (rri_v1 l))]) (n:=89) Try.func15 (body_of (by kernel_rfl)) rfl (by simp) (MemOk.none w _) ?_
 refine hgE 12 [oh0,oh0,oh0,(oA 0 0 1)] [1,2,8] [] [(w.heap.size,0,1)] [.ops [1,0] [2,3],.code [1,1]] ⟨[(1,(pt w.heap.size 0)),(2,.bool false),(8,i6 l.fr)],[⟨w.heap.size,31,true,(rri_v1 l)⟩],[],w.heap.size + 1⟩ ?_
 refine hcp (.bool (partyB l.fr)) 36 [i6 l.fr] (some 9) [] tI rfl (fun wx hm=>refParty_any _ wx) fun z2 hz2=>?_
 replace hz2:w.heap.size + 1 ≤ z2:=hz2
 refine hgE 9 [oh0,oh0,(oA 0 1 1)] [1,2,3,11] [] [(w.heap.size,1,1)] [.ops [1,1,0] [2,3],.code [1,1,1]] ⟨[(1,(pt w.heap.size 0)),(2,.bool false),(3,.bool (partyB l.fr)),(11,i6 l.dst)],[⟨w.heap.size,31,true,(rri_v1 l)⟩],[],z2⟩ ?_
 refine hcp (.bool (partyB l.dst)) 36 [i6 l.dst] (some 12) [] tI rfl (fun wx hm=>refParty_any _ wx) fun z4 hz4=>?_
 replace hz4:z2 ≤ z4:=hz4
 refine hgE 11 [oh0,oh0,oh0,oh0] [1,2,4,15] [] [] [.ops [1,1,1,0,0] [3,4,5,6,7,8,9,10,11,12,13,14,15],.code [1,1,1,0,1],.code [1,1,1,1]] ⟨[(1,(pt w.heap.size 0)),(2,.bool false),(4,.bool (partyB l.dst)),(15,.bool (!(partyB l.fr)))],[⟨w.heap.size,31,true,(rri_v1 l)⟩],[],z4⟩ ?_
 rcases Bool.eq_false_or_eq_true (partyB l.fr) with d1 | d1
 ·skip
  refine hgE 7 [oh0,oh0,⟨false,3,[]⟩,oh0] [1,2,19] [eD (nF d1),eD (nF d1),eD (nF d1)] [] [.ops [1,1,1,0,0] [7,8,9,10,11,12,13,14,15],.code [1,1,1,0,1],.code [1,1,1,1]] ⟨[(1,(pt w.heap.size 0)),(2,.bool false),(19,.bool (!(partyB l.dst)))],[⟨w.heap.size,31,true,(rri_v1 l)⟩],[],z4⟩ ?_
  rcases Bool.eq_false_or_eq_true (partyB l.dst) with d2 | d2
  ·skip
   refine hgE 8 [oh0,(oA 0 2 1),oh0,⟨false,3,[]⟩,oh0] [1,2,24] [eD (nF d2),eD (nF d2),eD (nF d2),eD (nF d2)] [(w.heap.size,2,1)] [.ops [1,1,1,0,0] [12,13,14,15],.code [1,1,1,0,1],.code [1,1,1,1]] ⟨[(1,(pt w.heap.size 0)),(2,.bool false),(24,.bool (decide ((l.id:Int) < 1)))],[⟨w.heap.size,31,true,(rri_v1 l)⟩],[],z4⟩ ?_
   rcases Bool.eq_false_or_eq_true (decide ((l.id:Int) < 1)) with d3 | d3
   ·skip
    refine hgE 13 [oh1,oh1,oh1,oh3,oh1,oh0] [1,2] [eD d3,eD d3,eD d3,eD d3,tT] [] [.code [1,1,1,0,1,0,1],.code [1,1,1,1]] ⟨[(1,(pt w.heap.size 0)),(2,.bool false)],[⟨w.heap.size,31,true,(rri_v1 l)⟩],[],z4⟩ ?_
    refine hrt [] [.bool false] [] ?_
    intro wx hm
    refine ⟨ret_bool ?_,hm.kept⟩
    unfold rightL
    rw [d1,d2,d3]
    first | rfl | simp
   ·skip
    refine hgE 8 [oh0,(oA 0 2 1),oh0,⟨false,3,[]⟩] [1,2,28] [eD d3,eD d3,eD d3,eD d3] [(w.heap.size,2,1)] [.code [1,1,1,0,1],.code [1,1,1,1]] ⟨[(1,(pt w.heap.size 0)),(2,.bool false),(28,.bool (decide ((l.id:Int) > 1099511627776)))],[⟨w.heap.size,31,true,(rri_v1 l)⟩],[],z4⟩ ?_
    rcases Bool.eq_false_or_eq_true (decide ((l.id:Int) > 1099511627776)) with d4 | d4
    ·skip
     refine hgE 8 [oh1,oh0] [1,2] [eD d4] [] [.code [1,1,1,0,1,0,1],.code [1,1,1,1]] ⟨[(1,(pt w.heap.size 0)),(2,.bool false)],[⟨w.heap.size,31,true,(rri_v1 l)⟩],[],z4⟩ ?_
     refine hrt [] [.bool false] [] ?_
     intro wx hm
     refine ⟨ret_bool ?_,hm.kept⟩
     unfold rightL
     rw [d1,d2,d3,d4]
     first | rfl | simp
    ·skip
     refine hgE 12 [oh0,oh0,(oA 0 3 1),oh0] [1,2,31] [eD d4] [(w.heap.size,3,1)] [.code [1,1,1,1,0,1],.code [1,1,1,1,1]] ⟨[(1,(pt w.heap.size 0)),(2,.bool false),(31,.bool (!l.ans))],[⟨w.heap.size,31,true,(rri_v1 l)⟩],[],z4⟩ ?_
     rcases Bool.eq_false_or_eq_true (l.ans) with d5 | d5
     ·skip
      refine hgE 10 [oh0,oh0,oh0,(oA 0 16 10)] [1,2,44] [eD (nF d5)] [(w.heap.size,16,10)] [.ops [1,1,1,1,1,0] [3,4],.code [1,1,1,1,1,1]] ⟨[(1,(pt w.heap.size 0)),(2,.bool false),(44,.agg (List.toArray (rri_v2 l)))],[⟨w.heap.size,31,true,(rri_v1 l)⟩],[],z4⟩ ?_
      refine hcp (.bool (okB l.say.rc)) 38 [.agg (List.toArray (rri_v2 l))] (some 45) [] tI rfl (fun wx hm=>refRight_any l.say.rc wx) fun z15 hz15=>?_
      replace hz15:z4 ≤ z15:=hz15
      refine hgE 9 [oh0,oh0,oh0] [1,2,47] [] [] [.ops [1,1,1,1,1,1,0] [2,3,4,5,6,7,8,9,10,11,12,13,14,15,16,17,18,19,20,21,22,23,24,25,26,27,28,29,30,31,32,33,34,35,36,37,38,39,40,41,42,43],.code [1,1,1,1,1,1,1]] ⟨[(1,(pt w.heap.size 0)),(2,.bool false),(47,.bool (okB l.say.rc))],[⟨w.heap.size,31,true,(rri_v1 l)⟩],[],z15⟩ ?_
      rcases Bool.eq_false_or_eq_true (okB l.say.rc) with d6 | d6
      ·skip
       refine hgE 9 [oh1,⟨true,0,[⟨false,0,4,9⟩]⟩,oh1,⟨true,1,[]⟩,oh3,oh0] [1,2,53] [eD d6,eD d6,eD d6,eD d6,vV,eD d6] [(w.heap.size,4,9)] [.ops [1,1,1,1,1,1,0] [8,9,10,11,12,13,14,15,16,17,18,19,20,21,22,23,24,25,26,27,28,29,30,31,32,33,34,35,36,37,38,39,40,41,42,43],.code [1,1,1,1,1,1,1]] ⟨[(1,(pt w.heap.size 0)),(2,.bool false),(53,.bool (askZ l.ask))],[⟨w.heap.size,31,true,(rri_v1 l)⟩],[],z15⟩ ?_
       rcases Bool.eq_false_or_eq_true ((askZ l.ask)) with d7 | d7
       ·skip
        refine hgE 9 rri_n1 [1,2,59] [eD d7,eD d7,eD d7,eD d7,eD d7] [(w.heap.size,13,1)] [.ops [1,1,1,1,1,1,0] [14,15,16,17,18,19,20,21,22,23,24,25,26,27,28,29,30,31,32,33,34,35,36,37,38,39,40,41,42,43],.code [1,1,1,1,1,1,1]] ⟨[(1,(pt w.heap.size 0)),(2,.bool false),(59,.bool (decide ((l.say.st:Int) ≥ 1)))],[⟨w.heap.size,31,true,(rri_v1 l)⟩],[],z15⟩ ?_
        rcases Bool.eq_false_or_eq_true (decide ((l.say.st:Int) ≥ 1)) with d8 | d8
        ·skip
         refine hgE 9 rri_n1 [1,2,65] [eD d8,eD d8,eD d8,eD d8,eD d8] [(w.heap.size,13,1)] [.ops [1,1,1,1,1,1,0] [20,21,22,23,24,25,26,27,28,29,30,31,32,33,34,35,36,37,38,39,40,41,42,43],.code [1,1,1,1,1,1,1]] ⟨[(1,(pt w.heap.size 0)),(2,.bool false),(65,.bool (decide ((l.say.st:Int) ≤ 7)))],[⟨w.heap.size,31,true,(rri_v1 l)⟩],[],z15⟩ ?_
         rcases Bool.eq_false_or_eq_true (decide ((l.say.st:Int) ≤ 7)) with d9 | d9
         ·skip
          refine hgE 9 rri_n2 [1,2,71] [eD d9,eD d9,eD d9,eD d9,eD d9] [(w.heap.size,14,1)] [.ops [1,1,1,1,1,1,0] [26,27,28,29,30,31,32,33,34,35,36,37,38,39,40,41,42,43],.code [1,1,1,1,1,1,1]] ⟨[(1,(pt w.heap.size 0)),(2,.bool false),(71,.bool (decide ((l.say.ep:Int) ≥ 0)))],[⟨w.heap.size,31,true,(rri_v1 l)⟩],[],z15⟩ ?_
          rcases Bool.eq_false_or_eq_true (decide ((l.say.ep:Int) ≥ 0)) with d10 | d10
          ·skip
           refine hgE 9 rri_n2 [1,2,77] [eD d10,eD d10,eD d10,eD d10,eD d10] [(w.heap.size,14,1)] [.ops [1,1,1,1,1,1,0] [32,33,34,35,36,37,38,39,40,41,42,43],.code [1,1,1,1,1,1,1]] ⟨[(1,(pt w.heap.size 0)),(2,.bool false),(77,.bool (decide ((l.say.ep:Int) ≤ 16777215)))],[⟨w.heap.size,31,true,(rri_v1 l)⟩],[],z15⟩ ?_
           rcases Bool.eq_false_or_eq_true (decide ((l.say.ep:Int) ≤ 16777215)) with d11 | d11
           ·skip
            refine hgE 9 rri_n3 [1,2,83] [eD d11,eD d11,eD d11,eD d11,eD d11] [(w.heap.size,15,1)] [.ops [1,1,1,1,1,1,0] [38,39,40,41,42,43],.code [1,1,1,1,1,1,1]] ⟨[(1,(pt w.heap.size 0)),(2,.bool false),(83,.bool (decide ((l.say.ou:Int) ≥ (-1))))],[⟨w.heap.size,31,true,(rri_v1 l)⟩],[],z15⟩ ?_
            rcases Bool.eq_false_or_eq_true (decide ((l.say.ou:Int) ≥ (-1))) with d12 | d12
            ·skip
             refine hgE 10 rri_n3 [2] [eD d12,eD d12,eD d12,eD d12,eD d12] [(w.heap.size,15,1)] [.code [1,1,1,1,1,1,1]] ⟨[(2,.bool (decide ((l.say.ou:Int) ≤ 5)))],[⟨w.heap.size,31,true,(rri_v1 l)⟩],[],z15⟩ ?_
             refine hrt [] [.bool (decide ((l.say.ou:Int) ≤ 5))] [] ?_
             intro wx hm
             refine ⟨ret_bool ?_,hm.kept⟩
             unfold rightL
             rw [d5]
             simp only [cond_true]
             rw [saB_doc]
             rw [d1,d2,d3,d4,d6,show askZ l.ask = true from d7,d8,d9,d10,d11,d12]
             first | rfl | simp
            ·skip
             refine hgE 10 [oh0,oh0,oh0,oh0,⟨false,3,[]⟩,oh0] [2] [eD d12,eD d12,eD d12,eD d12,eD d12] [] [.code [1,1,1,1,1,1,1]] ⟨[(2,.bool false)],[⟨w.heap.size,31,true,(rri_v1 l)⟩],[],z15⟩ ?_
             refine hrt [] [.bool false] [] ?_
             intro wx hm
             refine ⟨ret_bool ?_,hm.kept⟩
             unfold rightL
             rw [d5]
             simp only [cond_true]
             rw [saB_doc]
             rw [d1,d2,d3,d4,d6,show askZ l.ask = true from d7,d8,d9,d10,d11,d12]
             first | rfl | simp
           ·skip
            refine hgE 16 [oh0,oh0,oh0,oh0,⟨false,3,[]⟩,oh0,oh0,oh0,oh0,oh0,⟨false,3,[]⟩,oh0] [2] [eD d11,eD d11,eD d11,eD d11,eD d11,fF,fF,fF,fF,fF] [] [.code [1,1,1,1,1,1,1]] ⟨[(2,.bool false)],[⟨w.heap.size,31,true,(rri_v1 l)⟩],[],z15⟩ ?_
            refine hrt [] [.bool false] [] ?_
            intro wx hm
            refine ⟨ret_bool ?_,hm.kept⟩
            unfold rightL
            rw [d5]
            simp only [cond_true]
            rw [saB_doc]
            rw [d1,d2,d3,d4,d6,show askZ l.ask = true from d7,d8,d9,d10,d11]
            first | rfl | simp
          ·skip
           refine hgE 22 [oh0,oh0,oh0,oh0,⟨false,3,[]⟩,oh0,oh0,oh0,oh0,oh0,⟨false,3,[]⟩,oh0,oh0,oh0,oh0,oh0,⟨false,3,[]⟩,oh0] [2] [eD d10,eD d10,eD d10,eD d10,eD d10,fF,fF,fF,fF,fF,fF,fF,fF,fF,fF] [] [.code [1,1,1,1,1,1,1]] ⟨[(2,.bool false)],[⟨w.heap.size,31,true,(rri_v1 l)⟩],[],z15⟩ ?_
           refine hrt [] [.bool false] [] ?_
           intro wx hm
           refine ⟨ret_bool ?_,hm.kept⟩
           unfold rightL
           rw [d5]
           simp only [cond_true]
           rw [saB_doc]
           rw [d1,d2,d3,d4,d6,show askZ l.ask = true from d7,d8,d9,d10]
           first | rfl | simp
         ·skip
          refine hgE 28 [oh0,oh0,oh0,oh0,⟨false,3,[]⟩,oh0,oh0,oh0,oh0,oh0,⟨false,3,[]⟩,oh0,oh0,oh0,oh0,oh0,⟨false,3,[]⟩,oh0,oh0,oh0,oh0,oh0,⟨false,3,[]⟩,oh0] [2] [eD d9,eD d9,eD d9,eD d9,eD d9,fF,fF,fF,fF,fF,fF,fF,fF,fF,fF,fF,fF,fF,fF,fF] [] [.code [1,1,1,1,1,1,1]] ⟨[(2,.bool false)],[⟨w.heap.size,31,true,(rri_v1 l)⟩],[],z15⟩ ?_
          refine hrt [] [.bool false] [] ?_
          intro wx hm
          refine ⟨ret_bool ?_,hm.kept⟩
          unfold rightL
          rw [d5]
          simp only [cond_true]
          rw [saB_doc]
          rw [d1,d2,d3,d4,d6,show askZ l.ask = true from d7,d8,d9]
          first | rfl | simp
        ·skip
         refine hgE 34 [oh0,oh0,oh0,oh0,⟨false,3,[]⟩,oh0,oh0,oh0,oh0,oh0,⟨false,3,[]⟩,oh0,oh0,oh0,oh0,oh0,⟨false,3,[]⟩,oh0,oh0,oh0,oh0,oh0,⟨false,3,[]⟩,oh0,oh0,oh0,oh0,oh0,⟨false,3,[]⟩,oh0] [2] [eD d8,eD d8,eD d8,eD d8,eD d8,fF,fF,fF,fF,fF,fF,fF,fF,fF,fF,fF,fF,fF,fF,fF,fF,fF,fF,fF,fF] [] [.code [1,1,1,1,1,1,1]] ⟨[(2,.bool false)],[⟨w.heap.size,31,true,(rri_v1 l)⟩],[],z15⟩ ?_
         refine hrt [] [.bool false] [] ?_
         intro wx hm
         refine ⟨ret_bool ?_,hm.kept⟩
         unfold rightL
         rw [d5]
         simp only [cond_true]
         rw [saB_doc]
         rw [d1,d2,d3,d4,d6,show askZ l.ask = true from d7,d8]
         first | rfl | simp
       ·skip
        refine hgE 40 [oh0,oh0,oh0,oh0,⟨false,3,[]⟩,oh0,oh0,oh0,oh0,oh0,⟨false,3,[]⟩,oh0,oh0,oh0,oh0,oh0,⟨false,3,[]⟩,oh0,oh0,oh0,oh0,oh0,⟨false,3,[]⟩,oh0,oh0,oh0,oh0,oh0,⟨false,3,[]⟩,oh0,oh0,oh0,oh0,oh0,⟨false,3,[]⟩,oh0] [2] [eD d7,eD d7,eD d7,eD d7,eD d7,fF,fF,fF,fF,fF,fF,fF,fF,fF,fF,fF,fF,fF,fF,fF,fF,fF,fF,fF,fF,fF,fF,fF,fF,fF] [] [.code [1,1,1,1,1,1,1]] ⟨[(2,.bool false)],[⟨w.heap.size,31,true,(rri_v1 l)⟩],[],z15⟩ ?_
        refine hrt [] [.bool false] [] ?_
        intro wx hm
        refine ⟨ret_bool ?_,hm.kept⟩
        unfold rightL
        rw [d5]
        simp only [cond_true]
        rw [saB_doc]
        rw [d1,d2,d3,d4,d6,show askZ l.ask = false from d7]
        first | rfl | simp
      ·skip
       refine hgE 46 [oh0,oh0,oh0,oh0,⟨false,3,[]⟩,oh0,oh0,oh0,oh0,oh0,⟨false,3,[]⟩,oh0,oh0,oh0,oh0,oh0,⟨false,3,[]⟩,oh0,oh0,oh0,oh0,oh0,⟨false,3,[]⟩,oh0,oh0,oh0,oh0,oh0,⟨false,3,[]⟩,oh0,oh0,oh0,oh0,oh0,⟨false,3,[]⟩,oh0,oh0,oh0,oh0,oh0,⟨false,3,[]⟩,oh0] [2] [eD d6,eD d6,eD d6,eD d6,eD d6,fF,fF,fF,fF,fF,fF,fF,fF,fF,fF,fF,fF,fF,fF,fF,fF,fF,fF,fF,fF,fF,fF,fF,fF,fF,fF,fF,fF,fF,fF] [] [.code [1,1,1,1,1,1,1]] ⟨[(2,.bool false)],[⟨w.heap.size,31,true,(rri_v1 l)⟩],[],z15⟩ ?_
       refine hrt [] [.bool false] [] ?_
       intro wx hm
       refine ⟨ret_bool ?_,hm.kept⟩
       unfold rightL
       rw [d5]
       simp only [cond_true]
       rw [saB_doc]
       rw [d1,d2,d3,d4,d6]
       first | rfl | simp
     ·skip
      refine hgE 8 [oh1,oh0,(oA 0 4 9)] [1,2,33] [eD (nT d5)] [(w.heap.size,4,9)] [.ops [1,1,1,1,0,1,0,0] [2,3],.code [1,1,1,1,0,1,0,1],.code [1,1,1,1,1]] ⟨[(1,(pt w.heap.size 0)),(2,.bool false),(33,.agg (List.toArray (rri_v3 l)))],[⟨w.heap.size,31,true,(rri_v1 l)⟩],[],z4⟩ ?_
      refine hcp (.bool (rightA l.ask)) 37 [.agg (List.toArray (rri_v3 l))] (some 34) [] tI rfl (fun wx hm=>refAskAny l.ask wx) fun z40 hz40=>?_
      replace hz40:z4 ≤ z40:=hz40
      refine hgE 9 [oh0,oh0,oh0] [1,2,36] [] [] [.ops [1,1,1,1,0,1,0,1,0] [2,3,4,5,6,7],.code [1,1,1,1,0,1,0,1,1],.code [1,1,1,1,1]] ⟨[(1,(pt w.heap.size 0)),(2,.bool false),(36,.bool (rightA l.ask))],[⟨w.heap.size,31,true,(rri_v1 l)⟩],[],z40⟩ ?_
      rcases Bool.eq_false_or_eq_true (rightA l.ask) with d13 | d13
      ·skip
       refine hgE 10 [oh1,⟨true,0,[⟨false,0,13,13⟩]⟩,oh1,⟨true,1,[]⟩,oh3,oh0] [1,2] [eD d13,eD d13,eD d13,eD d13,vV,eD d13] [(w.heap.size,13,13)] [.code [1,1,1,1,0,1,0,1,1],.code [1,1,1,1,1]] ⟨[(1,(pt w.heap.size 0)),(2,.bool (sayZ l.say))],[⟨w.heap.size,31,true,(rri_v1 l)⟩],[],z40⟩ ?_
       refine hrt [] [.bool (sayZ l.say)] [] ?_
       intro wx hm
       refine ⟨ret_bool ?_,hm.kept⟩
       show sayZ l.say = _
       unfold rightL
       rw [d5]
       simp only [cond_false]
       rw [d1,d2,d3,d4,d13]
       first | rfl | simp
      ·skip
       refine hgE 10 [oh0,oh0,oh0,oh0,⟨false,3,[]⟩,oh0] [1,2] [eD d13,eD d13,eD d13,eD d13,eD d13] [] [.code [1,1,1,1,0,1,0,1,1],.code [1,1,1,1,1]] ⟨[(1,(pt w.heap.size 0)),(2,.bool false)],[⟨w.heap.size,31,true,(rri_v1 l)⟩],[],z40⟩ ?_
       refine hrt [] [.bool false] [] ?_
       intro wx hm
       refine ⟨ret_bool ?_,hm.kept⟩
       unfold rightL
       rw [d5]
       simp only [cond_false]
       rw [d1,d2,d3,d4,d13]
       first | rfl | simp
  ·skip
   refine hgE 18 [oh1,oh1,oh1,oh3,oh0,oh1,oh1,oh1,oh3,oh1,oh0] [1,2] [eD (nT d2),eD (nT d2),eD (nT d2),eD (nT d2),tT,tT,tT,tT,tT] [] [.code [1,1,1,0,1,0,1],.code [1,1,1,1]] ⟨[(1,(pt w.heap.size 0)),(2,.bool false)],[⟨w.heap.size,31,true,(rri_v1 l)⟩],[],z4⟩ ?_
   refine hrt [] [.bool false] [] ?_
   intro wx hm
   refine ⟨ret_bool ?_,hm.kept⟩
   unfold rightL
   rw [d1,d2]
   first | rfl | simp
 ·skip
  refine hgE 22 [oh1,oh1,oh3,oh0,oh1,oh1,oh1,oh3,oh0,oh1,oh1,oh1,oh3,oh1,oh0] [1,2] [eD (nT d1),eD (nT d1),eD (nT d1),tT,tT,tT,tT,tT,tT,tT,tT,tT] [] [.code [1,1,1,0,1,0,1],.code [1,1,1,1]] ⟨[(1,(pt w.heap.size 0)),(2,.bool false)],[⟨w.heap.size,31,true,(rri_v1 l)⟩],[],z4⟩ ?_
  refine hrt [] [.bool false] [] ?_
  intro wx hm
  refine ⟨ret_bool ?_,hm.kept⟩
  unfold rightL
  rw [d1]
  first | rfl | simp
set_option maxRecDepth 100000 in
set_option maxHeartbeats 4000000 in
theorem refField_ok (t n:Int) (h:-1 ≤ n ∧ n ≤ 1099511627776) (w:World) :
  Calls Try.prog 22 #[.int .i64 t,.int .i64 n] w (RetK (.agg #[.int .i64 t,.string (numT n)]) w):=by
 refine calls_of_holds (S:=(fun _=>False)) (l:=[.int .i64 t,.int .i64 n]) (n:=15) Try.func22 (body_of (by kernel_rfl)) rfl (by simp) (MemOk.none w _) ?_
 refine hgE 10 [oh0,oh0] [0,4,8] [] [] [.ops [1,0] [1,2,3,4,5,6],.code [1,1]] ⟨[(0,i6 t),(4,(pt w.heap.size 0)),(8,i6 n)],[⟨w.heap.size,60,true,[i6 0,sT ⟨#[]⟩]⟩],[],w.heap.size + 1⟩ ?_
 refine hcp (.tuple #[sT (numT n),i6 0]) 46 [i6 n] (some 9) [] tI rfl (fun wx hm=>refNum_ok n h wx) fun z2 hz2=>?_
 replace hz2:w.heap.size + 1 ≤ z2:=hz2
 refine hgE 16 [oh0,oh0,oh0,oh0,oh0,oh0,oh0,oh0,(oA 0 0 2)] [4] [] [(w.heap.size,0,2)] [.code [1,1,1]] ⟨[(4,(pt w.heap.size 0))],[⟨w.heap.size,60,true,[i6 t,sT (numT n)]⟩],[],z2⟩ ?_
 refine hrt [[⟨false,0,0,2⟩]] [.agg #[i6 t,sT (numT n)]] [(w.heap.size,0,2)] ?_
 intro wx hm
 exact ⟨rfl,hm.kept⟩
end Go.Proofs.Ytkffgdfbdmgncaa
