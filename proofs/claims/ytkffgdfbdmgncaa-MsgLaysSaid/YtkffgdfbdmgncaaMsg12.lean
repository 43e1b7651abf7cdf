import Derived.Test.YtkffgdfbdmgncaaMsgM
import Derived.Test.YtkffgdfbdmgncaaTlv12
import Derived.Test.YtkffgdfbdmgncaaRight8
namespace Go.Proofs.Ytkffgdfbdmgncaa
open Go.RowKit
def pty_n1:List OH:=[oh0,oh0,⟨false,3,[]⟩,oh0,oh0,oh0,oh0,oh0]
set_option maxRecDepth 100000 in
set_option maxHeartbeats 4000000 in
theorem party_any (n:Int) (w:World) :
  Calls Try.prog 33 #[.int .i64 n] w (RetK (.bool (partyB n)) w):=by
 refine calls_of_holds (S:=(fun _=>False)) (l:=[.int .i64 n]) (n:=19) Try.func33 (body_of (by kernel_rfl)) rfl (by simp) (MemOk.none w _) ?_
 refine hgE 14 [oh0,oh0,oh0,oh0] [0,2,6] [] [] [.ops [1,0,0,0] [3,4,5,6],.code [1,0,0,1],.blk 0,.code [1,1]] ⟨[(0,i6 n),(2,.bool false),(6,.bool (decide ((n:Int) ≥ 0)))],[],[],w.heap.size⟩ ?_
 rcases Bool.eq_false_or_eq_true (decide ((n:Int) ≥ 0)) with d1 | d1
 ·skip
  refine hgE 8 [oh1,oh1,oh3,oh0] [0,2,3] [eD d1,eD d1,eD d1] [] [.code [1,0,0,1],.blk 0,.code [1,1]] ⟨[(0,i6 n),(2,.bool false),(3,.bool (decide ((n:Int) < 6)))],[],[],w.heap.size⟩ ?_
  rcases Bool.eq_false_or_eq_true (decide ((n:Int) < 6)) with d2 | d2
  ·skip
   refine hgE 8 [oh1,oh0] [0,2] [eD d2] [] [.code [1,0,0,1,0,1],.blk 0,.code [1,1]] ⟨[(0,i6 n),(2,.bool true)],[],[],w.heap.size⟩ ?_
   refine hrt [] [.bool true] [] ?_
   intro wx hm
   exact ⟨ret_bool (by unfold partyB; rw [d1,d2]; rfl),hm.kept⟩
  ·skip
   refine hgE 9 [oh0,oh0,oh0,oh0] [0,2,13] [eD d2] [] [.ops [1,0,0,1,1,0] [3,4,5,6],.code [1,0,0,1,1,1],.blk 0,.code [1,1]] ⟨[(0,i6 n),(2,.bool false),(13,.bool (decide ((n:Int) ≥ 200)))],[],[],w.heap.size⟩ ?_
   rcases Bool.eq_false_or_eq_true (decide ((n:Int) ≥ 200)) with d3 | d3
   ·skip
    refine hgE 8 [oh1,oh1,oh3,oh0] [0,2,10] [eD d3,eD d3,eD d3] [] [.code [1,0,0,1,1,1],.blk 0,.code [1,1]] ⟨[(0,i6 n),(2,.bool false),(10,.bool (decide ((n:Int) < 202)))],[],[],w.heap.size⟩ ?_
    rcases Bool.eq_false_or_eq_true (decide ((n:Int) < 202)) with d4 | d4
    ·skip
     refine hgE 8 [oh1,oh0] [0,2] [eD d4] [] [.code [1,0,0,1,1,1,0,1],.blk 0,.code [1,1]] ⟨[(0,i6 n),(2,.bool true)],[],[],w.heap.size⟩ ?_
     refine hrt [] [.bool true] [] ?_
     intro wx hm
     exact ⟨ret_bool (by unfold partyB; rw [d1,d2,d3,d4]; rfl),hm.kept⟩
    ·skip
     refine hgE 12 [oh0,oh0,oh0,oh0] [2] [eD d4] [] [.code [1,1,1]] ⟨[(2,.bool (n == 100))],[],[],w.heap.size⟩ ?_
     refine hrt [] [.bool (n == 100)] [] ?_
     intro wx hm
     exact ⟨ret_bool (by unfold partyB; rw [d1,d2,d3,d4]; rfl),hm.kept⟩
   ·skip
    refine hgE 17 pty_n1 [2] [eD d3,eD d3,eD d3,fF] [] [.code [1,1,1]] ⟨[(2,.bool (n == 100))],[],[],w.heap.size⟩ ?_
    refine hrt [] [.bool (n == 100)] [] ?_
    intro wx hm
    exact ⟨ret_bool (by unfold partyB; rw [d1,d2,d3]; rfl),hm.kept⟩
 ·skip
  refine hgE 14 pty_n1 [0,2,13] [eD d1,eD d1,eD d1,fF] [] [.ops [1,0,0,1,1,0] [3,4,5,6],.code [1,0,0,1,1,1],.blk 0,.code [1,1]] ⟨[(0,i6 n),(2,.bool false),(13,.bool (decide ((n:Int) ≥ 200)))],[],[],w.heap.size⟩ ?_
  rcases Bool.eq_false_or_eq_true (decide ((n:Int) ≥ 200)) with d5 | d5
  ·skip
   refine hgE 8 [oh1,oh1,oh3,oh0] [0,2,10] [eD d5,eD d5,eD d5] [] [.code [1,0,0,1,1,1],.blk 0,.code [1,1]] ⟨[(0,i6 n),(2,.bool false),(10,.bool (decide ((n:Int) < 202)))],[],[],w.heap.size⟩ ?_
   rcases Bool.eq_false_or_eq_true (decide ((n:Int) < 202)) with d6 | d6
   ·skip
    refine hgE 8 [oh1,oh0] [0,2] [eD d6] [] [.code [1,0,0,1,1,1,0,1],.blk 0,.code [1,1]] ⟨[(0,i6 n),(2,.bool true)],[],[],w.heap.size⟩ ?_
    refine hrt [] [.bool true] [] ?_
    intro wx hm
    exact ⟨ret_bool (by unfold partyB; rw [d1,d5,d6]; rfl),hm.kept⟩
   ·skip
    refine hgE 12 [oh0,oh0,oh0,oh0] [2] [eD d6] [] [.code [1,1,1]] ⟨[(2,.bool (n == 100))],[],[],w.heap.size⟩ ?_
    refine hrt [] [.bool (n == 100)] [] ?_
    intro wx hm
    exact ⟨ret_bool (by unfold partyB; rw [d1,d5,d6]; rfl),hm.kept⟩
  ·skip
   refine hgE 17 pty_n1 [2] [eD d5,eD d5,eD d5,fF] [] [.code [1,1,1]] ⟨[(2,.bool (n == 100))],[],[],w.heap.size⟩ ?_
   refine hrt [] [.bool (n == 100)] [] ?_
   intro wx hm
   exact ⟨ret_bool (by unfold partyB; rw [d1,d5]; rfl),hm.kept⟩
def saB (s:SayR):Bool:=!decide (s.st < 1) && (!decide (s.st > 7) && (!decide (s.ep < 0) && (!decide (s.ep > 16777215) && (decide (s.ou ≥ (-1)) && (decide (s.ou < 6) && okB s.rc)))))
def askZ (q:AskM):Bool:=(((q.kind:Int) == 0) && (((q.stripe:Int) == 0) && (((q.epoch:Int) == 0) && (((q.seq:Int) == 0) && (((q.mask:Int) == 0) && (((q.node:Int) == 0) && ((((q.oe:Int) == 0) && (((q.os:Int) == 0) && true)) && (((q.block:ByteArray) == ⟨#[]⟩) && true))))))))
def sayZ (s:SayR):Bool:=(((s.st:Int) == 0) && (((s.ep:Int) == 0) && (((s.ou:Int) == 0) && (((s.rc.used == false) && (((s.rc.fence:Int) == 0) && ((((s.rc.de:Int) == 0) && (((s.rc.ds:Int) == 0) && true)) && (((s.rc.block:ByteArray) == ⟨#[]⟩) && ((s.rc.op == false) && ((((s.rc.ie:Int) == 0) && (((s.rc.is:Int) == 0) && true)) && (((s.rc.mask:Int) == 0) && (((s.rc.staged:ByteArray) == ⟨#[]⟩) && true)))))))) && true))))
def rightL (l:LetM):Bool:=partyB l.fr && (partyB l.dst && (!decide (l.id < 1) && (!decide (l.id > 1099511627776) && (bif l.ans then (askZ l.ask && saB l.say) else (sayZ l.say && rightA l.ask)))))
def rsy_v1 (s:SayR):List Value:=[i6 s.st,i6 s.ep,i6 s.ou,.bool s.rc.used,i6 s.rc.fence,i6 s.rc.de,i6 s.rc.ds,sT s.rc.block,.bool s.rc.op,i6 s.rc.ie,i6 s.rc.is,i6 s.rc.mask,sT s.rc.staged]
def rsy_v2 (s:SayR):List Value:=[.bool s.rc.used,i6 s.rc.fence,i6 s.rc.de,i6 s.rc.ds,sT s.rc.block,.bool s.rc.op,i6 s.rc.ie,i6 s.rc.is,i6 s.rc.mask,sT s.rc.staged]
set_option maxRecDepth 100000 in
set_option maxHeartbeats 4000000 in
theorem rightSay_any (s:SayR) (w:World) :
  Calls Try.prog 34 #[.agg #[.int .i64 s.st,.int .i64 s.ep,.int .i64 s.ou,.bool s.rc.used,.int .i64 s.rc.fence,.int .i64 s.rc.de,.int .i64 s.rc.ds,.string s.rc.block,.bool s.rc.op,.int .i64 s.rc.ie,.int .i64 s.rc.is,.int .i64 s.rc.mask,.string s.rc.staged]] w (RetK (.bool (saB s)) w):=by
 refine calls_of_holds (S:=(fun _=>False)) (l:=[.agg (List.toArray (rsy_v1 s))]) (n:=32) Try.func34 (body_of (by kernel_rfl)) rfl (by simp) (MemOk.none w _) ?_
 refine hgE 15 [oh0,oh0,oh0,(oA 0 0 1),oh0,oh0] [1,2,6] [] [(w.heap.size,0,1)] [.ops [1,0,0] [4,5,6,7],.code [1,0,1],.code [1,1]] ⟨[(1,(pt w.heap.size 0)),(2,.bool false),(6,.bool (decide ((s.st:Int) < 1)))],[⟨w.heap.size,29,true,(rsy_v1 s)⟩],[],w.heap.size + 1⟩ ?_
 rcases Bool.eq_false_or_eq_true (decide ((s.st:Int) < 1)) with d1 | d1
 ·skip
  refine hgE 13 [oh1,oh1,oh1,oh3,oh1,oh0] [1,2] [eD d1,eD d1,eD d1,eD d1,tT] [] [.code [1,0,1,0,1],.code [1,1]] ⟨[(1,(pt w.heap.size 0)),(2,.bool false)],[⟨w.heap.size,29,true,(rsy_v1 s)⟩],[],w.heap.size + 1⟩ ?_
  refine hrt [] [.bool false] [] ?_
  intro wx hm
  exact ⟨ret_bool (by unfold saB; rw [d1]; rfl),hm.kept⟩
 ·skip
  refine hgE 8 [oh0,(oA 0 0 1),oh0,⟨false,3,[]⟩] [1,2,10] [eD d1,eD d1,eD d1,eD d1] [(w.heap.size,0,1)] [.code [1,0,1],.code [1,1]] ⟨[(1,(pt w.heap.size 0)),(2,.bool false),(10,.bool (decide ((s.st:Int) > 7)))],[⟨w.heap.size,29,true,(rsy_v1 s)⟩],[],w.heap.size + 1⟩ ?_
  rcases Bool.eq_false_or_eq_true (decide ((s.st:Int) > 7)) with d2 | d2
  ·skip
   refine hgE 8 [oh1,oh0] [1,2] [eD d2] [] [.code [1,0,1,0,1],.code [1,1]] ⟨[(1,(pt w.heap.size 0)),(2,.bool false)],[⟨w.heap.size,29,true,(rsy_v1 s)⟩],[],w.heap.size + 1⟩ ?_
   refine hrt [] [.bool false] [] ?_
   intro wx hm
   exact ⟨ret_bool (by unfold saB; rw [d1,d2]; rfl),hm.kept⟩
  ·skip
   refine hgE 12 [oh0,oh0,(oA 0 1 1),oh0,oh0] [1,2,14] [eD d2] [(w.heap.size,1,1)] [.ops [1,1,0,0] [4,5,6,7],.code [1,1,0,1],.code [1,1,1]] ⟨[(1,(pt w.heap.size 0)),(2,.bool false),(14,.bool (decide ((s.ep:Int) < 0)))],[⟨w.heap.size,29,true,(rsy_v1 s)⟩],[],w.heap.size + 1⟩ ?_
   rcases Bool.eq_false_or_eq_true (decide ((s.ep:Int) < 0)) with d3 | d3
   ·skip
    refine hgE 13 [oh1,oh1,oh1,oh3,oh1,oh0] [1,2] [eD d3,eD d3,eD d3,eD d3,tT] [] [.code [1,1,0,1,0,1],.code [1,1,1]] ⟨[(1,(pt w.heap.size 0)),(2,.bool false)],[⟨w.heap.size,29,true,(rsy_v1 s)⟩],[],w.heap.size + 1⟩ ?_
    refine hrt [] [.bool false] [] ?_
    intro wx hm
    exact ⟨ret_bool (by unfold saB; rw [d1,d2,d3]; rfl),hm.kept⟩
   ·skip
    refine hgE 8 [oh0,(oA 0 1 1),oh0,⟨false,3,[]⟩] [1,2,18] [eD d3,eD d3,eD d3,eD d3] [(w.heap.size,1,1)] [.code [1,1,0,1],.code [1,1,1]] ⟨[(1,(pt w.heap.size 0)),(2,.bool false),(18,.bool (decide ((s.ep:Int) > 16777215)))],[⟨w.heap.size,29,true,(rsy_v1 s)⟩],[],w.heap.size + 1⟩ ?_
    rcases Bool.eq_false_or_eq_true (decide ((s.ep:Int) > 16777215)) with d4 | d4
    ·skip
     refine hgE 8 [oh1,oh0] [1,2] [eD d4] [] [.code [1,1,0,1,0,1],.code [1,1,1]] ⟨[(1,(pt w.heap.size 0)),(2,.bool false)],[⟨w.heap.size,29,true,(rsy_v1 s)⟩],[],w.heap.size + 1⟩ ?_
     refine hrt [] [.bool false] [] ?_
     intro wx hm
     exact ⟨ret_bool (by unfold saB; rw [d1,d2,d3,d4]; rfl),hm.kept⟩
    ·skip
     refine hgE 11 [oh0,oh0,(oA 0 2 1),oh0,oh0] [1,2,22] [eD d4] [(w.heap.size,2,1)] [.ops [1,1,1,0] [4,5,6,7,8,9,10,11,12,13],.code [1,1,1,1]] ⟨[(1,(pt w.heap.size 0)),(2,.bool false),(22,.bool (decide ((s.ou:Int) ≥ (-1))))],[⟨w.heap.size,29,true,(rsy_v1 s)⟩],[],w.heap.size + 1⟩ ?_
     rcases Bool.eq_false_or_eq_true (decide ((s.ou:Int) ≥ (-1))) with d5 | d5
     ·skip
      refine hgE 8 [oh1,⟨true,0,[⟨false,0,2,1⟩]⟩,oh1,oh3,oh0] [1,2,27] [eD d5,eD d5,eD d5,eD d5] [(w.heap.size,2,1)] [.ops [1,1,1,0] [9,10,11,12,13],.code [1,1,1,1]] ⟨[(1,(pt w.heap.size 0)),(2,.bool false),(27,.bool (decide ((s.ou:Int) < 6)))],[⟨w.heap.size,29,true,(rsy_v1 s)⟩],[],w.heap.size + 1⟩ ?_
      rcases Bool.eq_false_or_eq_true (decide ((s.ou:Int) < 6)) with d6 | d6
      ·skip
       refine hgE 5 [oh1,⟨true,0,[⟨false,0,3,10⟩]⟩] [2,27,29] [eD d6,eD d6] [(w.heap.size,3,10)] [.ops [1,1,1,0] [11,12,13],.code [1,1,1,1]] ⟨[(2,.bool false),(27,.bool (decide ((s.ou:Int) < 6))),(29,.agg (List.toArray (rsy_v2 s)))],[⟨w.heap.size,29,true,(rsy_v1 s)⟩],[],w.heap.size + 1⟩ ?_
       refine hcp (.bool (okB s.rc)) 53 [.agg (List.toArray (rsy_v2 s))] (some 30) [(decide ((s.ou:Int) < 6)) = true] ⟨d6,tI⟩ rfl (fun wx hm=>right_any s.rc wx) fun z16 hz16=>?_
       replace hz16:w.heap.size + 1 ≤ z16:=hz16
       refine hgE 6 [oh3,oh0] [2] [eD d6] [] [.code [1,1,1,1]] ⟨[(2,.bool (okB s.rc))],[⟨w.heap.size,29,true,(rsy_v1 s)⟩],[],z16⟩ ?_
       refine hrt [] [.bool (okB s.rc)] [] ?_
       intro wx hm
       exact ⟨ret_bool (by unfold saB; rw [d1,d2,d3,d4,d5,d6]; rfl),hm.kept⟩
      ·skip
       refine hgE 9 [oh0,oh0,oh0,⟨false,3,[]⟩,oh0] [2] [eD d6,eD d6,eD d6,eD d6] [] [.code [1,1,1,1]] ⟨[(2,.bool false)],[⟨w.heap.size,29,true,(rsy_v1 s)⟩],[],w.heap.size + 1⟩ ?_
       refine hrt [] [.bool false] [] ?_
       intro wx hm
       exact ⟨ret_bool (by unfold saB; rw [d1,d2,d3,d4,d5,d6]; rfl),hm.kept⟩
     ·skip
      refine hgE 14 [oh0,oh0,oh0,⟨false,3,[]⟩,oh0,oh0,oh0,oh0,⟨false,3,[]⟩,oh0] [2] [eD d5,eD d5,eD d5,eD d5,fF,fF,fF,fF] [] [.code [1,1,1,1]] ⟨[(2,.bool false)],[⟨w.heap.size,29,true,(rsy_v1 s)⟩],[],w.heap.size + 1⟩ ?_
      refine hrt [] [.bool false] [] ?_
      intro wx hm
      exact ⟨ret_bool (by unfold saB; rw [d1,d2,d3,d4,d5]; rfl),hm.kept⟩
def rgl_v1 (l:LetM):List Value:=[i6 l.fr,i6 l.dst,i6 l.id,.bool l.ans,i6 l.ask.kind,i6 l.ask.stripe,i6 l.ask.epoch,i6 l.ask.seq,i6 l.ask.mask,i6 l.ask.node,i6 l.ask.oe,i6 l.ask.os,sT l.ask.block,i6 l.say.st,i6 l.say.ep,i6 l.say.ou,.bool l.say.rc.used,i6 l.say.rc.fence,i6 l.say.rc.de,i6 l.say.rc.ds,sT l.say.rc.block,.bool l.say.rc.op,i6 l.say.rc.ie,i6 l.say.rc.is,i6 l.say.rc.mask,sT l.say.rc.staged]
def rgl_v2 (l:LetM):List Value:=[i6 l.say.st,i6 l.say.ep,i6 l.say.ou,.bool l.say.rc.used,i6 l.say.rc.fence,i6 l.say.rc.de,i6 l.say.rc.ds,sT l.say.rc.block,.bool l.say.rc.op,i6 l.say.rc.ie,i6 l.say.rc.is,i6 l.say.rc.mask,sT l.say.rc.staged]
def rgl_v3 (l:LetM):List Value:=[i6 l.ask.kind,i6 l.ask.stripe,i6 l.ask.epoch,i6 l.ask.seq,i6 l.ask.mask,i6 l.ask.node,i6 l.ask.oe,i6 l.ask.os,sT l.ask.block]
set_option maxRecDepth 100000 in
set_option maxHeartbeats 4000000 in
theorem msgRight_any (l:LetM) (w:World) :
  Calls Try.prog 14 #[.agg #[.int .i64 l.fr,.int .i64 l.dst,.int .i64 l.id,.bool l.ans,.int .i64 l.ask.kind,.int .i64 l.ask.stripe,.int .i64 l.ask.epoch,.int .i64 l.ask.seq,.int .i64 l.ask.mask,.int .i64 l.ask.node,.int .i64 l.ask.oe,.int .i64 l.ask.os,.string l.ask.block,.int .i64 l.say.st,.int .i64 l.say.ep,.int .i64 l.say.ou,.bool l.say.rc.used,.int .i64 l.say.rc.fence,.int .i64 l.say.rc.de,.int .i64 l.say.rc.ds,.string l.say.rc.block,.bool l.say.rc.op,.int .i64 l.say.rc.ie,.int .i64 l.say.rc.is,.int .i64 l.say.rc.mask,.string l.say.rc.staged]] w (RetK (.bool (rightL l)) w):=by
 refine calls_of_holds (S:=(fun _=>False)) (l:=[.agg (List.toArray (rgl_v1 l))]) (n:=43) Try.func14 (body_of (by kernel_rfl)) rfl (by simp) (MemOk.none w _) ?_
 refine hgE 13 [oh0,oh0,oh0,(oA 0 0 1)] [1,2,4] [] [(w.heap.size,0,1)] [.ops [1,0,0] [2,3,4,5,6,7,8,9,10,11,12,13,14,15,16,17,18,19],.code [1,0,1],.code [1,1]] ⟨[(1,(pt w.heap.size 0)),(2,.bool false),(4,i6 l.fr)],[⟨w.heap.size,31,true,(rgl_v1 l)⟩],[],w.heap.size + 1⟩ ?_
 refine hcp (.bool (partyB l.fr)) 33 [i6 l.fr] (some 5) [] tI rfl (fun wx hm=>party_any _ wx) fun z2 hz2=>?_
 replace hz2:w.heap.size + 1 ≤ z2:=hz2
 refine hgE 5 [oh0,oh0] [1,2,7] [] [] [.ops [1,0,0] [5,6,7,8,9,10,11,12,13,14,15,16,17,18,19],.code [1,0,1],.code [1,1]] ⟨[(1,(pt w.heap.size 0)),(2,.bool false),(7,.bool (!(partyB l.fr)))],[⟨w.heap.size,31,true,(rgl_v1 l)⟩],[],z2⟩ ?_
 rcases Bool.eq_false_or_eq_true (partyB l.fr) with d1 | d1
 ·skip
  refine hgE 5 [oh0,(oA 0 1 1)] [1,2,7,9] [eD (nF d1),eD (nF d1)] [(w.heap.size,1,1)] [.ops [1,0,0] [7,8,9,10,11,12,13,14,15,16,17,18,19],.code [1,0,1],.code [1,1]] ⟨[(1,(pt w.heap.size 0)),(2,.bool false),(7,.bool (!(partyB l.fr))),(9,i6 l.dst)],[⟨w.heap.size,31,true,(rgl_v1 l)⟩],[],z2⟩ ?_
  refine hcp (.bool (partyB l.dst)) 33 [i6 l.dst] (some 10) [(!(partyB l.fr)) = false] ⟨(by rw [d1]; rfl),tI⟩ rfl (fun wx hm=>party_any _ wx) fun z5 hz5=>?_
  replace hz5:z2 ≤ z5:=hz5
  refine hgE 6 [oh0,⟨false,3,[]⟩,oh0] [1,2,13] [eD (nF d1),eD (nF d1)] [] [.ops [1,0,0] [11,12,13,14,15,16,17,18,19],.code [1,0,1],.code [1,1]] ⟨[(1,(pt w.heap.size 0)),(2,.bool false),(13,.bool (!(partyB l.dst)))],[⟨w.heap.size,31,true,(rgl_v1 l)⟩],[],z5⟩ ?_
  rcases Bool.eq_false_or_eq_true (partyB l.dst) with d2 | d2
  ·skip
   refine hgE 8 [oh0,(oA 0 2 1),oh0,⟨false,3,[]⟩,oh0] [1,2,18] [eD (nF d2),eD (nF d2),eD (nF d2),eD (nF d2)] [(w.heap.size,2,1)] [.ops [1,0,0] [16,17,18,19],.code [1,0,1],.code [1,1]] ⟨[(1,(pt w.heap.size 0)),(2,.bool false),(18,.bool (decide ((l.id:Int) < 1)))],[⟨w.heap.size,31,true,(rgl_v1 l)⟩],[],z5⟩ ?_
   rcases Bool.eq_false_or_eq_true (decide ((l.id:Int) < 1)) with d3 | d3
   ·skip
    refine hgE 13 [oh1,oh1,oh1,oh3,oh1,oh0] [1,2] [eD d3,eD d3,eD d3,eD d3,tT] [] [.code [1,0,1,0,1],.code [1,1]] ⟨[(1,(pt w.heap.size 0)),(2,.bool false)],[⟨w.heap.size,31,true,(rgl_v1 l)⟩],[],z5⟩ ?_
    refine hrt [] [.bool false] [] ?_
    intro wx hm
    exact ⟨ret_bool (by unfold rightL; rw [d1,d2,d3]; rfl),hm.kept⟩
   ·skip
    refine hgE 8 [oh0,(oA 0 2 1),oh0,⟨false,3,[]⟩] [1,2,22] [eD d3,eD d3,eD d3,eD d3] [(w.heap.size,2,1)] [.code [1,0,1],.code [1,1]] ⟨[(1,(pt w.heap.size 0)),(2,.bool false),(22,.bool (decide ((l.id:Int) > 1099511627776)))],[⟨w.heap.size,31,true,(rgl_v1 l)⟩],[],z5⟩ ?_
    rcases Bool.eq_false_or_eq_true (decide ((l.id:Int) > 1099511627776)) with d4 | d4
    ·skip
     refine hgE 8 [oh1,oh0] [1,2] [eD d4] [] [.code [1,0,1,0,1],.code [1,1]] ⟨[(1,(pt w.heap.size 0)),(2,.bool false)],[⟨w.heap.size,31,true,(rgl_v1 l)⟩],[],z5⟩ ?_
     refine hrt [] [.bool false] [] ?_
     intro wx hm
     exact ⟨ret_bool (by unfold rightL; rw [d1,d2,d3,d4]; rfl),hm.kept⟩
    ·skip
     refine hgE 11 [oh0,oh0,(oA 0 3 1)] [1,2,24] [eD d4] [(w.heap.size,3,1)] [.code [1,1,0,1],.code [1,1,1]] ⟨[(1,(pt w.heap.size 0)),(2,.bool false),(24,.bool l.ans)],[⟨w.heap.size,31,true,(rgl_v1 l)⟩],[],z5⟩ ?_
     rcases Bool.eq_false_or_eq_true (l.ans) with d5 | d5
     ·skip
      refine hgE 11 [oh1,oh0,(oA 0 4 9),oh0,oh2,oh0] [1,2,29] [eD d5,vV] [(w.heap.size,4,9)] [.ops [1,1,0,1,0,0] [5,6,7,8,9],.code [1,1,0,1,0,1],.code [1,1,1]] ⟨[(1,(pt w.heap.size 0)),(2,.bool false),(29,.bool (askZ l.ask))],[⟨w.heap.size,31,true,(rgl_v1 l)⟩],[],z5⟩ ?_
      rcases Bool.eq_false_or_eq_true ((askZ l.ask)) with d6 | d6
      ·skip
       refine hgE 5 [oh1,⟨true,0,[⟨false,0,13,13⟩]⟩] [1,2,29,31] [eD d6,eD d6] [(w.heap.size,13,13)] [.ops [1,1,0,1,0,0] [7,8,9],.code [1,1,0,1,0,1],.code [1,1,1]] ⟨[(1,(pt w.heap.size 0)),(2,.bool false),(29,.bool (askZ l.ask)),(31,.agg (List.toArray (rgl_v2 l)))],[⟨w.heap.size,31,true,(rgl_v1 l)⟩],[],z5⟩ ?_
       refine hcp (.bool (saB l.say)) 34 [.agg (List.toArray (rgl_v2 l))] (some 32) [(askZ l.ask) = true] ⟨d6,tI⟩ rfl (fun wx hm=>rightSay_any l.say wx) fun z16 hz16=>?_
       replace hz16:z5 ≤ z16:=hz16
       refine hgE 6 [oh3,oh0] [1,2] [eD d6] [] [.code [1,1,0,1,0,1],.code [1,1,1]] ⟨[(1,(pt w.heap.size 0)),(2,.bool (saB l.say))],[⟨w.heap.size,31,true,(rgl_v1 l)⟩],[],z16⟩ ?_
       refine hrt [] [.bool (saB l.say)] [] ?_
       intro wx hm
       exact ⟨ret_bool (by unfold rightL; rw [d1,d2,d3,d4,d5,show askZ l.ask = true from d6]; rfl),hm.kept⟩
      ·skip
       refine hgE 9 [oh0,oh0,oh0,⟨false,3,[]⟩,oh0] [1,2] [eD d6,eD d6,eD d6,eD d6] [] [.code [1,1,0,1,0,1],.code [1,1,1]] ⟨[(1,(pt w.heap.size 0)),(2,.bool false)],[⟨w.heap.size,31,true,(rgl_v1 l)⟩],[],z5⟩ ?_
       refine hrt [] [.bool false] [] ?_
       intro wx hm
       exact ⟨ret_bool (by unfold rightL; rw [d1,d2,d3,d4,d5,show askZ l.ask = false from d6]; rfl),hm.kept⟩
     ·skip
      refine hgE 12 [oh0,oh0,(oA 0 13 13),oh0,oh2,oh0] [1,2,38] [eD d5,vV] [(w.heap.size,13,13)] [.ops [1,1,1,0] [5,6,7,8,9],.code [1,1,1,1]] ⟨[(1,(pt w.heap.size 0)),(2,.bool false),(38,.bool (sayZ l.say))],[⟨w.heap.size,31,true,(rgl_v1 l)⟩],[],z5⟩ ?_
      rcases Bool.eq_false_or_eq_true ((sayZ l.say)) with d7 | d7
      ·skip
       refine hgE 5 [oh1,⟨true,0,[⟨false,0,4,9⟩]⟩] [2,38,40] [eD d7,eD d7] [(w.heap.size,4,9)] [.ops [1,1,1,0] [7,8,9],.code [1,1,1,1]] ⟨[(2,.bool false),(38,.bool (sayZ l.say)),(40,.agg (List.toArray (rgl_v3 l)))],[⟨w.heap.size,31,true,(rgl_v1 l)⟩],[],z5⟩ ?_
       refine hcp (.bool (rightA l.ask)) 35 [.agg (List.toArray (rgl_v3 l))] (some 41) [(sayZ l.say) = true] ⟨d7,tI⟩ rfl (fun wx hm=>askAny l.ask wx) fun z23 hz23=>?_
       replace hz23:z5 ≤ z23:=hz23
       refine hgE 6 [oh3,oh0] [2] [eD d7] [] [.code [1,1,1,1]] ⟨[(2,.bool (rightA l.ask))],[⟨w.heap.size,31,true,(rgl_v1 l)⟩],[],z23⟩ ?_
       refine hrt [] [.bool (rightA l.ask)] [] ?_
       intro wx hm
       exact ⟨ret_bool (by unfold rightL; rw [d1,d2,d3,d4,d5,show sayZ l.say = true from d7]; rfl),hm.kept⟩
      ·skip
       refine hgE 9 [oh0,oh0,oh0,⟨false,3,[]⟩,oh0] [2] [eD d7,eD d7,eD d7,eD d7] [] [.code [1,1,1,1]] ⟨[(2,.bool false)],[⟨w.heap.size,31,true,(rgl_v1 l)⟩],[],z5⟩ ?_
       refine hrt [] [.bool false] [] ?_
       intro wx hm
       exact ⟨ret_bool (by unfold rightL; rw [d1,d2,d3,d4,d5,show sayZ l.say = false from d7]; rfl),hm.kept⟩
  ·skip
   refine hgE 18 [oh1,oh1,oh1,oh3,oh0,oh1,oh1,oh1,oh3,oh1,oh0] [1,2] [eD (nT d2),eD (nT d2),eD (nT d2),eD (nT d2),tT,tT,tT,tT,tT] [] [.code [1,0,1,0,1],.code [1,1]] ⟨[(1,(pt w.heap.size 0)),(2,.bool false)],[⟨w.heap.size,31,true,(rgl_v1 l)⟩],[],z5⟩ ?_
   refine hrt [] [.bool false] [] ?_
   intro wx hm
   exact ⟨ret_bool (by unfold rightL; rw [d1,d2]; rfl),hm.kept⟩
 ·skip
  refine hgE 24 [oh1,oh1,oh1,oh1,oh3,oh0,oh1,oh1,oh1,oh3,oh0,oh1,oh1,oh1,oh3,oh1,oh0] [1,2] [eD (nT d1),eD (nT d1),eD (nT d1),eD (nT d1),eD (nT d1),tT,tT,tT,tT,tT,tT,tT,tT,tT] [] [.code [1,0,1,0,1],.code [1,1]] ⟨[(1,(pt w.heap.size 0)),(2,.bool false)],[⟨w.heap.size,31,true,(rgl_v1 l)⟩],[],z2⟩ ?_
  refine hrt [] [.bool false] [] ?_
  intro wx hm
  exact ⟨ret_bool (by unfold rightL; rw [d1]; rfl),hm.kept⟩
def NmsI (A0:Option Addr) (n b0:Nat) (fs:List FldM) (t:Int) (g:Nat) (l:List Int) (L:Nat) (w:World) (m:Nat) (st:St) (W1:World):Prop:=∃ (i:Nat) (A:Option Addr) (k cp:Nat) (z:Nat),m + i = L ∧ k = n + i ∧ OwnR W1 b0 60 2 A k cp (fldV (fs ++ numFs t (l.take i))) ∧ FromS w A0 A ∧ st = ⟨[(0,.slice A k cp),(1,i6 t),(6,.slice none 0 0),(7,.bool false),(12,.slice (some ⟨g,0,none⟩) L L),(13,i6 (L:Int)),(14,i6 (i:Int))],[],[],z⟩
set_option maxRecDepth 100000 in
set_option maxHeartbeats 4000000 in
theorem numbers_any (A0:Option Addr) (n cp0 b0:Nat) (fs:List FldM) (t:Int) (g:Nat) (l:List Int) (L:Nat) (hL:l.length = L) (hn:n + L ≤ 64) (ht:0 ≤ t ∧ t ≤ 1000) (hok:∀ x ∈ l,numOk x = true) (w:World) (hbase:b0 ≤ w.heap.size) (hF:OwnR w b0 60 2 A0 n cp0 (fldV fs)) (hB:Blk w g 3 (l.map (.int .i64))) :
  Calls Try.prog 42 #[.slice A0 n cp0,.int .i64 t,.slice (some ⟨g,0,none⟩) L L] w (fun e w'=>∃ A cp,e = .returned (.tuple #[.slice A (n + L) cp,.bool true]) ∧ OwnR w' b0 60 2 A (n + L) cp (fldV (fs ++ numFs t l)) ∧ FromS w A0 A ∧ Kept (ownS A0) w w'):=by
 refine calls_of_holds (S:=(fun _=>False)) (l:=[.slice A0 n cp0,.int .i64 t,.slice (some ⟨g,0,none⟩) L L]) (n:=36) Try.func42 (body_of (by kernel_rfl)) rfl (by simp) (MemOk.none w _) ?_
 refine hgE 16 [oh0,oh0,oh0,oh0,oh0] [0,1,6,7,12,13,14] [] [] [.code [1,0,1,0],.blk 0,.code [1,1]] ⟨[(0,.slice A0 n cp0),(1,i6 t),(6,.slice none 0 0),(7,.bool false),(12,.slice (some ⟨g,0,none⟩) L L),(13,i6 (L:Int)),(14,i6 0)],[],[],w.heap.size⟩ ?_
 refine holds_loopW (w:=w) (S':=ownS A0) (NmsI A0 n b0 fs t g l L w) L (by kernel_rfl) (fun W1 hm=>⟨⟨0,A0,n,cp0,_,rfl,rfl,by rw [List.take_zero]; show OwnR W1 b0 60 2 A0 n cp0 (fldV (fs ++ [])); rw [List.append_nil]; exact hF.kept hm.kept (fun _ _ h=>h),FromS.refl _ _,rfl⟩,hm.wide (fun _ h=>h.elim)⟩) ?_
 rintro m _ W1 ⟨i,A,k,cp,z,hmi,hk,hO,hOf,rfl⟩ hm1 J hJ
 by_cases h1:i < L
 rotate_left
 ·skip
  refine hgE 16 [oh0,oh0,oh0,oh0,oh0] [6,7] [dF (((i:Int):Int) < (L:Int))] [] [.code [1,1,1]] ⟨[(6,.slice A k cp),(7,.bool true)],[],[],W1.heap.size⟩ ?_
  refine hrt [] [.slice A k cp,.bool true] [] ?_
  intro wx hm
  obtain rfl:i = L:=by omega
  subst hk
  rw [List.take_of_length_le (by omega)] at hO
  exact ⟨A,cp,rfl,(hO.kept hm.kept (hO.calm hm1 (by simp))),hOf,(MemOk.bck hm1 hm).kept⟩
 obtain ⟨x,hx⟩:∃ x,l[i]? = some x:=⟨_,List.getElem?_eq_getElem (by omega)⟩
 have hxo:=(numOk_iff x).1 (hok x (List.mem_of_getElem? hx))
 have hBW:Blk W1 g 3 (l.map (.int .i64)):=hB.kept hm1.kept (fun hx=>by
  obtain ⟨cur,fz,hc⟩:=hF.ty g hx
  have h2:w.heap[g]? = _:=hB
  rw [h2] at hc
  simp only [Option.some.injEq,Obj.cells.injEq] at hc
  exact absurd hc.2.1 (by decide))
 refine holds_wins [⟨g,0 + i * 1,[i6 x]⟩] (fun _ y hy=>?_) ?_
 ·simp only [List.mem_singleton] at hy
  subst hy
  refine ⟨fun ⟨b,hb,_⟩=>(by cases hb),hBW.lt,fun j v hj=>?_⟩
  match j,hj with
  | 0,hj=>
   simp only [List.getElem?_cons_zero,Option.some.injEq] at hj
   subst hj
   exact hBW.at_ (i:=0 + i * 1) (by rw [List.getElem?_map,Nat.zero_add,Nat.mul_one,hx]; rfl)
  | j + 1,hj=>simp at hj
 refine hgE 23 [oh0,oh1,oh0,oh2,⟨false,0,[⟨true,0,0,1⟩]⟩,oh0,oh0,oh0] [0,1,6,7,8,12,13,14,20] [dT (((i:Int):Int) < (L:Int)),oE ((0:Int) ≤ (i:Int) ∧ (i:Int) < ((L:Nat):Int))] [(g,0 + i * 1,1)] [.ops [1,0,1,0,0,1,1,0,0,1,0] [1,2,3,4,5,6],.code [1,0,1,0,0,1,1,0,0,1,1],.blk 1,.code [1,0,1,0,0,1,1,1],.inv J,.blk 0,.code [1,1]] ⟨[(0,.slice A k cp),(1,i6 t),(6,.slice none 0 0),(7,.bool false),(8,i6 (i:Int)),(12,.slice (some ⟨g,0,none⟩) L L),(13,i6 (L:Int)),(14,i6 (i:Int)),(20,i6 x)],[],[⟨g,0 + i * 1,[i6 x]⟩],W1.heap.size⟩ ?_
 refine hcp (.tuple #[sT (numT x),i6 0]) 58 [i6 x] (some 21) [] tI rfl (fun wx hm=>num_ok x hxo wx) fun z5 hz5=>?_
 replace hz5:W1.heap.size ≤ z5:=hz5
 refine hgE 25 [oh0,oh0,oh0,oh0,oh0,oh0,oh0,oh0,oh0,oh0,oh0,oh2,oh0,oh0,oh0] [0,1,6,7,12,13,14,26,32] [fF,n64 ((t + (i:Int)))] [] [.ops [1,0,1,0,0,1,1,0,0,1,1,1] [7,8],.blk 1,.code [1,0,1,0,0,1,1,1],.inv J,.blk 0,.code [1,1]] ⟨[(0,.slice A k cp),(1,i6 t),(6,.slice none 0 0),(7,.bool false),(12,.slice (some ⟨g,0,none⟩) L L),(13,i6 (L:Int)),(14,i6 (i:Int)),(26,.slice A k cp),(32,.slice (some ⟨z5,0,none⟩) 1 1)],[⟨z5,60,true,[i6 (t + (i:Int)),sT (numT x)]⟩],[⟨g,0 + i * 1,[i6 x]⟩],z5 + 1⟩ ?_
 refine holds_wins [] (fun _ _ h=>by cases h) ?_
 refine holds_opV (w:=w) (S':=(ownS A0)) (Y:=Option Addr × Nat) (dst:=(some 33)) (x:=Builtin.append_ #[54,54] 54 #[.slice A k cp,.slice (some ⟨z5,0,none⟩) 1 1]) (fun yq=>.slice yq.1 (k + 1) yq.2) [] (fun yq W_=>OwnR W_ b0 60 2 yq.1 (k + 1) yq.2 ((fldV (fs ++ numFs t (l.take i))) ++ [.int .i64 (t + (i:Int)),.string (numT x)]) ∧ FromS w A0 yq.1) (fun yq=>[(33,.slice yq.1 (k + 1) yq.2),(0,.slice A k cp),(1,.int .i64 t),(6,.slice none 0 0),(7,.bool false),(12,.slice (some ⟨g,0,none⟩) L L),(13,.int .i64 (L:Int)),(14,.int .i64 (i:Int)),(26,.slice A k cp),(32,.slice (some ⟨z5,0,none⟩) 1 1)]) (by kernel_rfl) (by kernel_rfl) (fun _=>rfl) (fun wx hm=>?_) (fun yq W41 hX41 hm41=>?_)
 ·have hO_:=(hO.kept hm.kept (hO.calm hm1 (by simp)))
  obtain ⟨A',cp',w',h1,h2,h3,h4⟩:=run_appendR (P:=Try.prog) wx b0 54 54 60 (.agg #[.int .i64 0,.string ⟨#[]⟩]) 2 24 A k cp (fldV (fs ++ numFs t (l.take i))) ⟨z5,0,none⟩ 1 1 [.int .i64 (t + (i:Int)),.string (numT x)] (by kernel_rfl) (by kernel_rfl) (by kernel_rfl) (by decide) hO_ rfl (fun j x hj=>by rw [add_norm,Nat.zero_add]; exact (hm.at_ 0 rfl).at_ hj) (ones_all (by kernel_rfl)) (by omega) (by decide) (Nat.le_trans hbase (MemOk.bck hm1 hm).kept.size)
  refine ⟨(A',cp'),w',h1,⟨h2,hOf.more h4 (MemOk.bck hm1 hm).kept.size⟩,((MemOk.bck hm1 hm).none_).offA (fun _ h=>h) h3 (fun x hx=>hOf x hx) (by intro b hb; simp at hb)⟩
 obtain ⟨A41,c41⟩:=yq
 replace hX41:OwnR W41 b0 60 2 A41 (k + 1) c41 ((fldV (fs ++ numFs t (l.take i))) ++ [.int .i64 (t + (i:Int)),.string (numT x)]) ∧ FromS w A0 A41:=hX41
 obtain ⟨hX41,hX41f⟩:=hX41
 refine hgE 10 [oh0,oh2,oh0] [0,1,6,7,12,13,14] [n64 (((i:Int) + 1))] [] [.inv J,.blk 0,.code [1,1]] ⟨[(0,.slice A41 (k + 1) c41),(1,i6 t),(6,.slice none 0 0),(7,.bool false),(12,.slice (some ⟨g,0,none⟩) L L),(13,i6 (L:Int)),(14,i6 ((i:Int) + 1))],[],[],W41.heap.size⟩ ?_
 intro a_ w4 hf_ hm
 have e2:fldV (fs ++ numFs t (l.take (i + 1))) = fldV (fs ++ numFs t (l.take i)) ++ (⟨t + (i:Int),numT x⟩:FldM).cells:=by
  rw [List.take_add_one,hx,Option.toList_some,numFs_snoc,← List.append_assoc,fldV_snoc,List.length_take,Nat.min_eq_left (by omega)]
 exact hJ (m - 1) _ a_ w4 (by omega) ⟨i + 1,_,_,_,_,by omega,by omega,by rw [e2]; exact (hX41.kept hm.kept (hX41.calm hm41 (by simp))),hX41f,rfl⟩ hf_ (MemOk.bck hm41 hm)
end Go.Proofs.Ytkffgdfbdmgncaa
