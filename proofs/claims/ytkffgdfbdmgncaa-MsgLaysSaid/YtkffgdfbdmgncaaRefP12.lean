import Derived.Test.YtkffgdfbdmgncaaRefM12
import Derived.Test.YtkffgdfbdmgncaaRefL12
import Derived.Test.YtkffgdfbdmgncaaEngK
import Derived.Test.YtkffgdfbdmgncaaPackR8
namespace Go.Proofs.Ytkffgdfbdmgncaa
open Go.RowKit
def rpu_v1 (l:LetM):List Value:=[i6 l.fr,i6 l.dst,i6 l.id,.bool l.ans,i6 l.ask.kind,i6 l.ask.stripe,i6 l.ask.epoch,i6 l.ask.seq,i6 l.ask.mask,i6 l.ask.node,i6 l.ask.oe,i6 l.ask.os,sT l.ask.block,i6 l.say.st,i6 l.say.ep,i6 l.say.ou,.bool l.say.rc.used,i6 l.say.rc.fence,i6 l.say.rc.de,i6 l.say.rc.ds,sT l.say.rc.block,.bool l.say.rc.op,i6 l.say.rc.ie,i6 l.say.rc.is,i6 l.say.rc.mask,sT l.say.rc.staged]
def rpu_v2 (l:LetM):List Value:=[i6 1,sT (numT l.fr),i6 2,sT (numT l.dst),i6 3,sT (numT l.id)]
def rpu_v3 (l:LetM):List Value:=[i6 l.ask.kind,i6 l.ask.stripe,i6 l.ask.epoch,i6 l.ask.seq,i6 l.ask.mask,i6 l.ask.node,i6 l.ask.oe,i6 l.ask.os,sT l.ask.block]
def rpu_v4 (l:LetM):List Value:=[i6 16,sT (numT l.ask.kind),i6 17,sT (numT l.ask.stripe),i6 18,sT (numT l.ask.epoch),i6 19,sT (numT l.ask.seq),i6 20,sT (numT l.ask.mask),i6 21,sT (numT l.ask.node),i6 22,sT (numT l.ask.oe),i6 23,sT (numT l.ask.os),i6 24,sT l.ask.block]
def rpu_v5 (l:LetM) (p:ByteArray):List Value:=[i6 32,sT (numT l.say.st),i6 33,sT (numT l.say.ep),i6 34,sT (numT l.say.ou),i6 35,sT p]
def rpu_v6 (l:LetM):List Value:=[.bool l.say.rc.used,i6 l.say.rc.fence,i6 l.say.rc.de,i6 l.say.rc.ds,sT l.say.rc.block,.bool l.say.rc.op,i6 l.say.rc.ie,i6 l.say.rc.is,i6 l.say.rc.mask,sT l.say.rc.staged]
def rpu_n1:List Nat:=[1,1,1,1,0,1,0,1,1]
def rpu_n2:List Nat:=[1,1,1,1,0,1,1,1]
def rpu_n3:Array Bool:=#[true,true,true,true,true,true,true,true,true,false,false]
@[simp] def rpu_b1 (l:LetM) (w:World) (z7:Nat):List Bk:=[⟨w.heap.size,31,true,(rpu_v1 l)⟩,⟨z7,60,true,(rpu_v2 l)⟩]
@[simp] def rpu_b2 (l:LetM) (w:World) (z7:Nat):List Bk:=[⟨w.heap.size,31,true,(rpu_v1 l)⟩,⟨z7,60,true,(rpu_v2 l)⟩,⟨z7 + 1,25,true,(rpu_v3 l)⟩]
theorem rpu_q7 (l:LetM) (w:World) (z5:Nat):Out.prune [1,2,3,18,21,24] (qList Try.prog 102 w (fun _=>False) ((opsOf (getCode (bodyOf Try.f11) [1,1,1,0])).toList.take 9) ⟨[(1,(pt w.heap.size 0)),(2,sT ⟨#[]⟩),(3,i6 0)],[⟨w.heap.size,31,true,(rpu_v1 l)⟩],[],z5⟩ [.op oh0,.op (oA 0 0 1),.call (.agg #[i6 1,sT (numT l.fr)]),.op oh0,.op (oA 0 1 1),.call (.agg #[i6 2,sT (numT l.dst)]),.op oh0,.op (oA 0 2 1),.call (.agg #[i6 3,sT (numT l.id)])]) = some ⟨[∀ w',MemC w (fun _=>False) [⟨w.heap.size,31,true,(rpu_v1 l)⟩] [] z5 w' → Calls Try.prog 22 #[i6 1,i6 l.fr] w' (RetK (.agg #[i6 1,sT (numT l.fr)]) w'),∀ w',MemC w (fun _=>False) [⟨w.heap.size,31,true,(rpu_v1 l)⟩] [] z5 w' → Calls Try.prog 22 #[i6 2,i6 l.dst] w' (RetK (.agg #[i6 2,sT (numT l.dst)]) w'),∀ w',MemC w (fun _=>False) [⟨w.heap.size,31,true,(rpu_v1 l)⟩] [] z5 w' → Calls Try.prog 22 #[i6 3,i6 l.id] w' (RetK (.agg #[i6 3,sT (numT l.id)]) w')],dupR [(w.heap.size,0,1),(w.heap.size,1,1),(w.heap.size,2,1)],⟨[(1,(pt w.heap.size 0)),(2,sT ⟨#[]⟩),(3,i6 0),(18,.agg #[i6 1,sT (numT l.fr)]),(21,.agg #[i6 2,sT (numT l.dst)]),(24,.agg #[i6 3,sT (numT l.id)])],[⟨w.heap.size,31,true,(rpu_v1 l)⟩],[],z5⟩⟩:=by kernel_rfl
theorem rpu_t8 (l:LetM) (w:World) (z7:Nat):tailP [1,2,3,5] (tailX Try.prog 102 (opsOf (getCode (bodyOf Try.f11) [1,1,1,0])) 2 rpu_n3 ⟨[(1,(pt w.heap.size 0)),(2,sT ⟨#[]⟩),(3,i6 0),(18,.agg #[i6 1,sT (numT l.fr)]),(21,.agg #[i6 2,sT (numT l.dst)]),(24,.agg #[i6 3,sT (numT l.id)])],[⟨w.heap.size,31,true,(rpu_v1 l)⟩],[],z7⟩ [(9,false,oh0),(10,false,oh0)]) = some (⟨[],dupR [],⟨[(1,(pt w.heap.size 0)),(2,sT ⟨#[]⟩),(3,i6 0),(5,.slice (some ⟨z7,0,none⟩) 3 3)],(rpu_b1 l w z7),[],z7 + 1⟩⟩,0,#[true,true,true,true,true,true,true,true,true,true,true]):=by kernel_rfl
def rpu_g11s (z7:Nat):List (Nat × Value):=[(2,sT ⟨#[]⟩),(3,i6 0),(5,.slice (some ⟨z7,0,none⟩) 3 3),(7,(pt (z7 + 1) 0))]
def rpu_g11v (l:LetM) (z7:Nat):List (Option Value):=[some (.slice (some ⟨z7,0,none⟩) 3 3),some ((pt (z7 + 1) 0)),some (i6 l.ask.kind),some (.agg #[i6 16,sT (numT l.ask.kind)]),some ((pt (z7 + 1) 1)),some (i6 l.ask.stripe),some (.agg #[i6 17,sT (numT l.ask.stripe)]),some ((pt (z7 + 1) 2)),some (i6 l.ask.epoch),some (.agg #[i6 18,sT (numT l.ask.epoch)]),some ((pt (z7 + 1) 3)),some (i6 l.ask.seq),some (.agg #[i6 19,sT (numT l.ask.seq)]),some ((pt (z7 + 1) 4)),some (i6 l.ask.mask),some (.agg #[i6 20,sT (numT l.ask.mask)]),some ((pt (z7 + 1) 5)),some (i6 l.ask.node),some (.agg #[i6 21,sT (numT l.ask.node)]),some ((pt (z7 + 1) 6)),some ((pt (z7 + 1) 6)),some (i6 l.ask.oe),some (.agg #[i6 22,sT (numT l.ask.oe)]),some ((pt (z7 + 1) 6)),some ((pt (z7 + 1) 7)),some (i6 l.ask.os),some (.agg #[i6 23,sT (numT l.ask.os)]),some ((pt (z7 + 1) 8)),some (sT l.ask.block),some (.agg #[i6 24,sT l.ask.block]),none,none,none]
def rpu_g11m (l:LetM) (w:World) (z7:Nat):List (List Bk):=[(rpu_b2 l w z7)]
def rpu_g11t:List (Option Nat):=[none,none,none,none,none,none,none,none,none,none,none,none,none,none,none,none,none,none,none,none,none,none,none,none,none,none,none,none,none,none,none,none,none]
theorem rpu_g11_3 (l:LetM) (z7:Nat):callAt Try.prog (opsOf (getCode (bodyOf Try.f11) rpu_n2)) (slG (opsOf (getCode (bodyOf Try.f11) rpu_n2)) (rpu_g11v l z7) (slI (opsOf (getCode (bodyOf Try.f11) rpu_n2)) (rpu_g11s z7) 3) (needsOf (opsOf (getCode (bodyOf Try.f11) rpu_n2)) 3)) 3 = some (22,[i6 16,i6 l.ask.kind],dstOf (opsOf (getCode (bodyOf Try.f11) rpu_n2)) 3,[]):=by kernel_rfl
theorem rpu_g11_6 (l:LetM) (z7:Nat):callAt Try.prog (opsOf (getCode (bodyOf Try.f11) rpu_n2)) (slG (opsOf (getCode (bodyOf Try.f11) rpu_n2)) (rpu_g11v l z7) (slI (opsOf (getCode (bodyOf Try.f11) rpu_n2)) (rpu_g11s z7) 6) (needsOf (opsOf (getCode (bodyOf Try.f11) rpu_n2)) 6)) 6 = some (22,[i6 17,i6 l.ask.stripe],dstOf (opsOf (getCode (bodyOf Try.f11) rpu_n2)) 6,[]):=by kernel_rfl
theorem rpu_g11_9 (l:LetM) (z7:Nat):callAt Try.prog (opsOf (getCode (bodyOf Try.f11) rpu_n2)) (slG (opsOf (getCode (bodyOf Try.f11) rpu_n2)) (rpu_g11v l z7) (slI (opsOf (getCode (bodyOf Try.f11) rpu_n2)) (rpu_g11s z7) 9) (needsOf (opsOf (getCode (bodyOf Try.f11) rpu_n2)) 9)) 9 = some (22,[i6 18,i6 l.ask.epoch],dstOf (opsOf (getCode (bodyOf Try.f11) rpu_n2)) 9,[]):=by kernel_rfl
theorem rpu_g11_12 (l:LetM) (z7:Nat):callAt Try.prog (opsOf (getCode (bodyOf Try.f11) rpu_n2)) (slG (opsOf (getCode (bodyOf Try.f11) rpu_n2)) (rpu_g11v l z7) (slI (opsOf (getCode (bodyOf Try.f11) rpu_n2)) (rpu_g11s z7) 12) (needsOf (opsOf (getCode (bodyOf Try.f11) rpu_n2)) 12)) 12 = some (22,[i6 19,i6 l.ask.seq],dstOf (opsOf (getCode (bodyOf Try.f11) rpu_n2)) 12,[]):=by kernel_rfl
theorem rpu_g11_15 (l:LetM) (z7:Nat):callAt Try.prog (opsOf (getCode (bodyOf Try.f11) rpu_n2)) (slG (opsOf (getCode (bodyOf Try.f11) rpu_n2)) (rpu_g11v l z7) (slI (opsOf (getCode (bodyOf Try.f11) rpu_n2)) (rpu_g11s z7) 15) (needsOf (opsOf (getCode (bodyOf Try.f11) rpu_n2)) 15)) 15 = some (22,[i6 20,i6 l.ask.mask],dstOf (opsOf (getCode (bodyOf Try.f11) rpu_n2)) 15,[]):=by kernel_rfl
theorem rpu_g11_18 (l:LetM) (z7:Nat):callAt Try.prog (opsOf (getCode (bodyOf Try.f11) rpu_n2)) (slG (opsOf (getCode (bodyOf Try.f11) rpu_n2)) (rpu_g11v l z7) (slI (opsOf (getCode (bodyOf Try.f11) rpu_n2)) (rpu_g11s z7) 18) (needsOf (opsOf (getCode (bodyOf Try.f11) rpu_n2)) 18)) 18 = some (22,[i6 21,i6 l.ask.node],dstOf (opsOf (getCode (bodyOf Try.f11) rpu_n2)) 18,[]):=by kernel_rfl
theorem rpu_g11_22 (l:LetM) (z7:Nat):callAt Try.prog (opsOf (getCode (bodyOf Try.f11) rpu_n2)) (slG (opsOf (getCode (bodyOf Try.f11) rpu_n2)) (rpu_g11v l z7) (slI (opsOf (getCode (bodyOf Try.f11) rpu_n2)) (rpu_g11s z7) 22) (needsOf (opsOf (getCode (bodyOf Try.f11) rpu_n2)) 22)) 22 = some (22,[i6 22,i6 l.ask.oe],dstOf (opsOf (getCode (bodyOf Try.f11) rpu_n2)) 22,[]):=by kernel_rfl
theorem rpu_g11_26 (l:LetM) (z7:Nat):callAt Try.prog (opsOf (getCode (bodyOf Try.f11) rpu_n2)) (slG (opsOf (getCode (bodyOf Try.f11) rpu_n2)) (rpu_g11v l z7) (slI (opsOf (getCode (bodyOf Try.f11) rpu_n2)) (rpu_g11s z7) 26) (needsOf (opsOf (getCode (bodyOf Try.f11) rpu_n2)) 26)) 26 = some (22,[i6 23,i6 l.ask.os],dstOf (opsOf (getCode (bodyOf Try.f11) rpu_n2)) 26,[]):=by kernel_rfl
def rpu_g11C (l:LetM) (w:World) (z7:Nat) (i_:Nat):Prop:=CertG (wpOp Try.prog (opsOf (getCode (bodyOf Try.f11) rpu_n2)) (sem Try.prog (bodyOf Try.f11) (bodyPost Try.prog Try.f11 (RetK (.tuple #[sT (putT l),i6 (putE l)]) w)) [.code [1,1,1,1,1]])) [] 102 (opsOf (getCode (bodyOf Try.f11) rpu_n2)) (slI (opsOf (getCode (bodyOf Try.f11) rpu_n2)) (rpu_g11s z7) i_) (rpu_g11t) 0 (MG w (fun _=>False) (rpu_g11m l w z7) [] (z7 + 2)) (Turned (rpu_b2 l w z7)) (PvG (rpu_g11v l z7) (CApp 30 31 32 (z7 + 2) 9 (rpu_v4 l) 60 2 (3 + 9) ((rpu_v2 l) ++ (rpu_v4 l)))) i_
def rpu_g23s (p:ByteArray) (w:World) (z7:Nat):List (Nat × Value):=[(1,(pt w.heap.size 0)),(2,sT ⟨#[]⟩),(3,i6 0),(5,.slice (some ⟨z7,0,none⟩) 3 3),(6,sT p)]
def rpu_g23v (l:LetM) (p:ByteArray) (w:World) (z7:Nat):List (Option Value):=[some (.slice (some ⟨z7,0,none⟩) 3 3),some ((pt w.heap.size 13)),some ((pt w.heap.size 13)),some (i6 l.say.st),some (.agg #[i6 32,sT (numT l.say.st)]),some ((pt w.heap.size 13)),some ((pt w.heap.size 14)),some (i6 l.say.ep),some (.agg #[i6 33,sT (numT l.say.ep)]),some ((pt w.heap.size 13)),some ((pt w.heap.size 15)),some (i6 l.say.ou),some (.agg #[i6 34,sT (numT l.say.ou)]),some (sT p),some (.agg #[i6 35,sT p]),none,none,none]
def rpu_g23m (l:LetM) (w:World) (z7:Nat):List (List Bk):=[(rpu_b1 l w z7)]
def rpu_g23t:List (Option Nat):=[none,none,none,none,none,none,none,none,none,none,none,none,none,none,none,none,none,none]
theorem rpu_g23_4 (l:LetM) (p:ByteArray) (w:World) (z7:Nat):callAt Try.prog (opsOf (getCode (bodyOf Try.f11) rpu_n1)) (slG (opsOf (getCode (bodyOf Try.f11) rpu_n1)) (rpu_g23v l p w z7) (slI (opsOf (getCode (bodyOf Try.f11) rpu_n1)) (rpu_g23s p w z7) 4) (needsOf (opsOf (getCode (bodyOf Try.f11) rpu_n1)) 4)) 4 = some (22,[i6 32,i6 l.say.st],dstOf (opsOf (getCode (bodyOf Try.f11) rpu_n1)) 4,[]):=by kernel_rfl
theorem rpu_g23_8 (l:LetM) (p:ByteArray) (w:World) (z7:Nat):callAt Try.prog (opsOf (getCode (bodyOf Try.f11) rpu_n1)) (slG (opsOf (getCode (bodyOf Try.f11) rpu_n1)) (rpu_g23v l p w z7) (slI (opsOf (getCode (bodyOf Try.f11) rpu_n1)) (rpu_g23s p w z7) 8) (needsOf (opsOf (getCode (bodyOf Try.f11) rpu_n1)) 8)) 8 = some (22,[i6 33,i6 l.say.ep],dstOf (opsOf (getCode (bodyOf Try.f11) rpu_n1)) 8,[]):=by kernel_rfl
theorem rpu_g23_12 (l:LetM) (p:ByteArray) (w:World) (z7:Nat):callAt Try.prog (opsOf (getCode (bodyOf Try.f11) rpu_n1)) (slG (opsOf (getCode (bodyOf Try.f11) rpu_n1)) (rpu_g23v l p w z7) (slI (opsOf (getCode (bodyOf Try.f11) rpu_n1)) (rpu_g23s p w z7) 12) (needsOf (opsOf (getCode (bodyOf Try.f11) rpu_n1)) 12)) 12 = some (22,[i6 34,i6 l.say.ou],dstOf (opsOf (getCode (bodyOf Try.f11) rpu_n1)) 12,[]):=by kernel_rfl
def rpu_g23C (l:LetM) (p:ByteArray) (w:World) (z7:Nat) (zz:Nat) (i_:Nat):Prop:=CertG (wpOp Try.prog (opsOf (getCode (bodyOf Try.f11) rpu_n1)) (sem Try.prog (bodyOf Try.f11) (bodyPost Try.prog Try.f11 (RetK (.tuple #[sT (putT l),i6 (putE l)]) w)) [.code [1,1,1,1,1]])) [] 102 (opsOf (getCode (bodyOf Try.f11) rpu_n1)) (slI (opsOf (getCode (bodyOf Try.f11) rpu_n1)) (rpu_g23s p w z7) i_) (rpu_g23t) 0 (MG w (fun _=>False) (rpu_g23m l w z7) [] zz) (Turned (rpu_b1 l w z7)) (PvG (rpu_g23v l p w z7) (CApp 15 16 17 zz 4 (rpu_v5 l p) 60 2 (3 + 4) ((rpu_v2 l) ++ (rpu_v5 l p)))) i_
set_option maxRecDepth 100000 in
set_option maxHeartbeats 4000000 in
theorem refPut_any (l:LetM) (w:World) :
  Calls Try.prog 11 #[.agg #[.int .i64 l.fr,.int .i64 l.dst,.int .i64 l.id,.bool l.ans,.int .i64 l.ask.kind,.int .i64 l.ask.stripe,.int .i64 l.ask.epoch,.int .i64 l.ask.seq,.int .i64 l.ask.mask,.int .i64 l.ask.node,.int .i64 l.ask.oe,.int .i64 l.ask.os,.string l.ask.block,.int .i64 l.say.st,.int .i64 l.say.ep,.int .i64 l.say.ou,.bool l.say.rc.used,.int .i64 l.say.rc.fence,.int .i64 l.say.rc.de,.int .i64 l.say.rc.ds,.string l.say.rc.block,.bool l.say.rc.op,.int .i64 l.say.rc.ie,.int .i64 l.say.rc.is,.int .i64 l.say.rc.mask,.string l.say.rc.staged]] w (RetK (.tuple #[.string (putT l),.int .i64 (putE l)]) w):=by
 refine calls_of_holds (S:=(fun _=>False)) (l:=[.agg (List.toArray (rpu_v1 l))]) (n:=102) Try.func11 (body_of (by kernel_rfl)) rfl (by simp) (MemOk.none w _) ?_
 refine hgE 12 [oh0,oh0,oh0,(oA 0 0 26)] [1,2,3,12] [] [(w.heap.size,0,26)] [.ops [1,0] [1,2],.code [1,1]] ⟨[(1,(pt w.heap.size 0)),(2,sT ⟨#[]⟩),(3,i6 0),(12,.agg (List.toArray (rpu_v1 l)))],[⟨w.heap.size,31,true,(rpu_v1 l)⟩],[],w.heap.size + 1⟩ ?_
 rcases Bool.eq_false_or_eq_true (rightL l) with h | h
 rotate_left
 ·skip
  refine hcp (.bool false) 15 [.agg (List.toArray (rpu_v1 l))] (some 13) [] tI rfl (fun wx hm=>by have h_:=refMsgRight_any l wx; rw [h] at h_; exact h_) fun z2 hz2=>?_
  replace hz2:w.heap.size + 1 ≤ z2:=hz2
  refine hgE 17 [oh0,oh0,oh0,oh1,oh0,oh0] [1,2,3] [tT] [] [.code [1,1,0,1,0,1],.code [1,1,1]] ⟨[(1,(pt w.heap.size 0)),(2,sT ⟨#[]⟩),(3,i6 120)],[⟨w.heap.size,31,true,(rpu_v1 l)⟩],[],z2⟩ ?_
  refine hrt [] [sT ⟨#[]⟩,i6 120] [] ?_
  intro wx hm
  exact ⟨by unfold putT putE; rw [h]; rfl,hm.kept⟩
 ·skip
  obtain ⟨hlo,hln,hl1,hl2⟩:=fldsM_ok h
  have hb:=letBd h
  refine hcp (.bool true) 15 [.agg (List.toArray (rpu_v1 l))] (some 13) [] tI rfl (fun wx hm=>by have h_:=refMsgRight_any l wx; rw [h] at h_; exact h_) fun z5 hz5=>?_
  replace hz5:w.heap.size + 1 ≤ z5:=hz5
  refine hgE 14 [oh0,oh0,oh0,oh0] [1,2,3] [fF] [] [.code [1,1,1,0],.code [1,1,1,1]] ⟨[(1,(pt w.heap.size 0)),(2,sT ⟨#[]⟩),(3,i6 0)],[⟨w.heap.size,31,true,(rpu_v1 l)⟩],[],z5⟩ ?_
  refine holds_draw (f:=2) (ls:=rpu_n3) 9 _ _ (by kernel_rfl) (by kernel_rfl) (by kernel_rfl) (by kernel_rfl) (rpu_q7 l w z5) ⟨(fun wx hm=>refField_ok 1 l.fr (by have:=hb.hfr; omega) wx),(fun wx hm=>refField_ok 2 l.dst (by have:=hb.hto; omega) wx),(fun wx hm=>refField_ok 3 l.id (by have:=hb.hid; omega) wx),trivial⟩ fun z7 hz7=>?_
  replace hz7:z5 ≤ z7:=hz7
  refine holds_tail panicOk_body _ _ (rpu_t8 l w z7) trivial ?_
  refine holds_done (by kernel_rfl) ?_
  refine hgE 9 [oh0,(oA 0 3 1)] [1,2,3,5,27] [] [(w.heap.size,3,1)] [.code [1,1,1,1,0,1],.code [1,1,1,1,1]] ⟨[(1,(pt w.heap.size 0)),(2,sT ⟨#[]⟩),(3,i6 0),(5,.slice (some ⟨z7,0,none⟩) 3 3),(27,.bool l.ans)],(rpu_b1 l w z7),[],z7 + 1⟩ ?_
  rcases Bool.eq_false_or_eq_true l.ans with ha | ha
  rotate_left
  ·skip
   have hq:=(hb.ask ha).1
   obtain ⟨q1,q2,q3,q4,q5,q6,q7,q8,_⟩:=hq
   refine hgE 11 [oh0,oh0,(oA 0 4 9),oh0,(oA 2 0 9)] [2,3,5,7] [oE (l.ans = false) ha] [(w.heap.size,4,9),(z7 + 1,0,9)] [.code rpu_n2,.code [1,1,1,1,1]] ⟨[(2,sT ⟨#[]⟩),(3,i6 0),(5,.slice (some ⟨z7,0,none⟩) 3 3),(7,(pt (z7 + 1) 0))],(rpu_b2 l w z7),[],z7 + 2⟩ ?_
   have rpu_g11_c3:rpu_g11C l w z7 3:=cert_call (v:=.agg #[.int .i64 16,.string (numT l.ask.kind)]) (by kernel_rfl) (by kernel_rfl) (rpu_g11_3 l z7) trivial (fun j wx _ hm=>refField_ok 16 l.ask.kind (by omega) wx)
   have rpu_g11_c6:rpu_g11C l w z7 6:=cert_call (v:=.agg #[.int .i64 17,.string (numT l.ask.stripe)]) (by kernel_rfl) (by kernel_rfl) (rpu_g11_6 l z7) trivial (fun j wx _ hm=>refField_ok 17 l.ask.stripe (by omega) wx)
   have rpu_g11_c9:rpu_g11C l w z7 9:=cert_call (v:=.agg #[.int .i64 18,.string (numT l.ask.epoch)]) (by kernel_rfl) (by kernel_rfl) (rpu_g11_9 l z7) trivial (fun j wx _ hm=>refField_ok 18 l.ask.epoch (by omega) wx)
   have rpu_g11_c12:rpu_g11C l w z7 12:=cert_call (v:=.agg #[.int .i64 19,.string (numT l.ask.seq)]) (by kernel_rfl) (by kernel_rfl) (rpu_g11_12 l z7) trivial (fun j wx _ hm=>refField_ok 19 l.ask.seq (by omega) wx)
   have rpu_g11_c15:rpu_g11C l w z7 15:=cert_call (v:=.agg #[.int .i64 20,.string (numT l.ask.mask)]) (by kernel_rfl) (by kernel_rfl) (rpu_g11_15 l z7) trivial (fun j wx _ hm=>refField_ok 20 l.ask.mask (by omega) wx)
   have rpu_g11_c18:rpu_g11C l w z7 18:=cert_call (v:=.agg #[.int .i64 21,.string (numT l.ask.node)]) (by kernel_rfl) (by kernel_rfl) (rpu_g11_18 l z7) trivial (fun j wx _ hm=>refField_ok 21 l.ask.node (by omega) wx)
   have rpu_g11_c22:rpu_g11C l w z7 22:=cert_call (v:=.agg #[.int .i64 22,.string (numT l.ask.oe)]) (by kernel_rfl) (by kernel_rfl) (rpu_g11_22 l z7) trivial (fun j wx _ hm=>refField_ok 22 l.ask.oe (by omega) wx)
   have rpu_g11_c26:rpu_g11C l w z7 26:=cert_call (v:=.agg #[.int .i64 23,.string (numT l.ask.os)]) (by kernel_rfl) (by kernel_rfl) (rpu_g11_26 l z7) trivial (fun j wx _ hm=>refField_ok 23 l.ask.os (by omega) wx)
   have rpu_g11_c30:rpu_g11C l w z7 30:=cert_newK (h:=oh0) (ob:=[]) (rs:=[]) (e:=60) (L:=9) (l:=(rpu_v4 l)) (by kernel_rfl) (by kernel_rfl) (by kernel_rfl) (fun sz=>by kernel_rfl) trivial
   have rpu_g11_c31:rpu_g11C l w z7 31:=cert_app (k0:=0) (k:=30) (q:=1) (t:=54) (ty:=54) (e:=60) (zv:=.agg #[.int .i64 0,.string ⟨#[]⟩]) (by_:=24) (d0:=59) (d:=89) (List.mem_of_getElem? (i:=0) (by kernel_rfl)) (by kernel_rfl) (by kernel_rfl) (List.mem_of_getElem? (i:=1) (by kernel_rfl)) (by kernel_rfl) (by kernel_rfl) (by decide) (by kernel_rfl) (by kernel_rfl) (fun g=>by kernel_rfl) (fun g=>by kernel_rfl) (by kernel_rfl) (by kernel_rfl) (by kernel_rfl) (by decide) (fun j bk h_=>by
     match j,h_ with
     | 0,h_=>
      have h':some (rpu_b2 l w z7) = some bk:=h_
      cases h'
      rfl
     | j + 1,h_=>
      have h':(none:Option (List Bk)) = some bk:=h_
      cases h') rfl rfl (by decide) (by decide) (by decide)
   have rpu_g11_c32:rpu_g11C l w z7 32:=cert_asg (k:=31) (d:=90) (List.mem_of_getElem? (i:=0) (by kernel_rfl)) (by kernel_rfl) (by kernel_rfl) (by decide) (by kernel_rfl) (by kernel_rfl) (fun v=>by kernel_rfl) (fun v=>by kernel_rfl)
   have rpu_g11_R:∀ e_ ∈ (rZs [0,1,4,7,10,13,16,19,20,23,24,27,29] ++ [⟨2,⟨false,0,[⟨false,2,0,1⟩]⟩,[],[(z7 + 1,0,1)]⟩,⟨5,⟨false,0,[⟨false,2,1,1⟩]⟩,[],[(z7 + 1,1,1)]⟩,⟨8,⟨false,0,[⟨false,2,2,1⟩]⟩,[],[(z7 + 1,2,1)]⟩,⟨11,⟨false,0,[⟨false,2,3,1⟩]⟩,[],[(z7 + 1,3,1)]⟩,⟨14,⟨false,0,[⟨false,2,4,1⟩]⟩,[],[(z7 + 1,4,1)]⟩,⟨17,⟨false,0,[⟨false,2,5,1⟩]⟩,[],[(z7 + 1,5,1)]⟩,⟨21,⟨false,0,[⟨false,2,6,1⟩]⟩,[],[(z7 + 1,6,1)]⟩,⟨25,⟨false,0,[⟨false,2,7,1⟩]⟩,[],[(z7 + 1,7,1)]⟩,⟨28,⟨false,0,[⟨false,2,8,1⟩]⟩,[],[(z7 + 1,8,1)]⟩]:List RegE),rpu_g11C l w z7 e_.i:=certs_reg (by kernel_rfl) _ (fun sz=>by kernel_rfl)
   refine holds_mixV (vs:=(rpu_g11v l z7)) (ms:=(rpu_g11m l w z7)) (stg:=(rpu_g11t)) (J:=0) (sl':=[(2,sT ⟨#[]⟩),(3,i6 0)]) (bk':=(rpu_b2 l w z7)) (CApp 30 31 32 (z7 + 2) 9 (rpu_v4 l) 60 2 (3 + 9) ((rpu_v2 l) ++ (rpu_v4 l))) [2,3] 32 5 (by kernel_rfl) (by kernel_rfl) (by kernel_rfl) (capp_stable (by intro b hb_; simp at hb_; rcases hb_ with rfl | rfl | rfl <;> (simp; try omega))) (certs_mix rpu_g11_R [3,6,9,12,15,18,22,26,30,31,32] ⟨rpu_g11_c3,rpu_g11_c6,rpu_g11_c9,rpu_g11_c12,rpu_g11_c15,rpu_g11_c18,rpu_g11_c22,rpu_g11_c26,rpu_g11_c30,rpu_g11_c31,rpu_g11_c32,tI⟩ (by kernel_rfl)) (by kernel_rfl) (by kernel_rfl) rfl (of_decide_eq_true (by kernel_rfl)) (by kernel_rfl) (by kernel_rfl) (by kernel_rfl) (fun v_ W1 hC hzW hm1=>?_)
   rcases hC with ⟨h_,_⟩ | ⟨_,g5,c5,rfl,hg5,hO⟩
   ·exact absurd h_ (by decide)
   have hO5:=hO.below (show w.heap.size ≤ z7 + 2 by omega)
   have eF:(rpu_v2 l) ++ (rpu_v4 l) = fldV (fldsM l):=by unfold fldsM; rw [ha]; rfl
   have hnT:∀ x,ownS (some ⟨g5,0,none⟩) x → ¬ Turned (rpu_b2 l w z7) x:=by
    rintro x ⟨a,ha_,hx⟩ ⟨b,hb_,_,he⟩
    simp only [Option.some.injEq] at ha_
    subst ha_
    simp at hb_
    rcases hb_ with rfl | rfl | rfl <;> simp at he hx <;> omega
   refine hgE 6 [oh0] [2,3,92] [] [] [.ops [1,1,1,1,1,0] [1,2,3,4,5,6],.code [1,1,1,1,1,1]] ⟨[(2,sT ⟨#[]⟩),(3,i6 0),(92,.slice (some ⟨g5,0,none⟩) 12 c5)],(rpu_b2 l w z7),[],W1.heap.size⟩ ?_
   refine hcp (.tuple #[sT (layT (fldsM l)),i6 0]) 24 [.slice (some ⟨g5,0,none⟩) 12 c5] (some 93) [] tI rfl (fun wx hm=>by have h_:=refLay_ok (some ⟨g5,0,none⟩) 12 c5 w.heap.size (fldsM l) hlo wx (by rw [← eF]; exact hO5.kept hm.kept hnT); exact h_) fun z13 hz13=>?_
   replace hz13:W1.heap.size ≤ z13:=hz13
   refine hgE 12 [oh0,oh0,oh0,oh0,oh0,oh0] [2,3,97] [] [] [.ops [1,1,1,1,1,1,0] [1,2,3,4,5,6],.code [1,1,1,1,1,1,1]] ⟨[(2,sT ⟨#[]⟩),(3,i6 0),(97,sT (layT (fldsM l)))],(rpu_b2 l w z7),[],z13⟩ ?_
   refine hcp (.tuple #[sT (frameT (layT (fldsM l))),i6 0]) 25 [sT (layT (fldsM l))] (some 98) [] tI rfl (fun wx hm=>refFrame_ok (layT (fldsM l)) (by rw [len_layT]; omega) wx) fun z15 hz15=>?_
   replace hz15:z13 ≤ z15:=hz15
   refine hgE 15 [oh0,oh0,oh0,oh0,oh0,oh0,oh0,oh0] [2,3] [] [] [.code [1,1,1,1,1,1,1,1]] ⟨[(2,sT (frameT (layT (fldsM l)))),(3,i6 0)],(rpu_b2 l w z7),[],z15⟩ ?_
   refine hrt [] [sT (frameT (layT (fldsM l))),i6 0] [] ?_
   intro wx hm
   exact ⟨by unfold putT putE; rw [h]; rfl,(MemOk.bck hm1 hm).kept⟩
  ·skip
   obtain ⟨hsa,_⟩:=hb.say ha
   obtain ⟨s1,s2,s3,hre⟩:=saBd hsa
   refine hgE 17 [oh1,oh0,oh0,oh0,(oA 0 16 10),oh0,oh2] [1,2,3,5,6,32] [oE (l.ans = true) ha,vV] [(w.heap.size,16,10)] [.code [1,1,1,1,0,1,0,1,0,1],.code rpu_n1,.code [1,1,1,1,1]] ⟨[(1,(pt w.heap.size 0)),(2,sT ⟨#[]⟩),(3,i6 0),(5,.slice (some ⟨z7,0,none⟩) 3 3),(6,sT ⟨#[]⟩),(32,.bool (!((recZ l.say.rc))))],(rpu_b1 l w z7),[],z7 + 1⟩ ?_
   suffices HF:∀ p:ByteArray,p = recT l.say.rc → ∀ zz:Nat,z7 + 1 ≤ zz → Holds [] Try.prog (bodyOf Try.f11) 102 w (fun _=>False) (bodyPost Try.prog Try.f11 (RetK (.tuple #[.string (putT l),.int .i64 (putE l)]) w)) [.code rpu_n1,.code [1,1,1,1,1]] ⟨[(1,(pt w.heap.size 0)),(2,.string ⟨#[]⟩),(3,.int .i64 0),(5,.slice (some ⟨z7,0,none⟩) 3 3),(6,.string p)],(rpu_b1 l w z7),[],zz⟩ by
    rcases Bool.eq_false_or_eq_true (recZ l.say.rc) with hz | hz
    ·skip
     refine hgE 5 [oh0] [1,2,3,5,6] [oE ((!((recZ l.say.rc))) = false) (by rw [show ((recZ l.say.rc)) = true from by exact hz]; rfl)] [] [.code rpu_n1,.code [1,1,1,1,1]] ⟨[(1,(pt w.heap.size 0)),(2,sT ⟨#[]⟩),(3,i6 0),(5,.slice (some ⟨z7,0,none⟩) 3 3),(6,sT ⟨#[]⟩)],(rpu_b1 l w z7),[],z7 + 1⟩ ?_
     exact HF ⟨#[]⟩ (by unfold recT; rw [hz]; rfl) _ (by omega)
    ·skip
     refine hgE 8 [oh1,oh0,oh0,(oA 0 16 10)] [1,2,3,5,6,36] [oE ((!((recZ l.say.rc))) = true) (by rw [show ((recZ l.say.rc)) = false from by exact hz]; rfl)] [(w.heap.size,16,10)] [.ops [1,1,1,1,0,1,0,1,0,1,0] [3,4,5,6,7],.code rpu_n1,.code [1,1,1,1,1]] ⟨[(1,(pt w.heap.size 0)),(2,sT ⟨#[]⟩),(3,i6 0),(5,.slice (some ⟨z7,0,none⟩) 3 3),(6,sT ⟨#[]⟩),(36,.agg (List.toArray (rpu_v6 l)))],(rpu_b1 l w z7),[],z7 + 1⟩ ?_
     refine hcp (.tuple #[sT (packS 0 l.say.rc),i6 0]) 23 [i6 0,.agg (List.toArray (rpu_v6 l))] (some 37) [] tI rfl (fun wx hm=>by have h_:=refPack_any 0 l.say.rc wx; rw [packT_ok (by omega) hre,packE_ok (by omega) hre] at h_; exact h_) fun z21 hz21=>?_
     replace hz21:z7 + 1 ≤ z21:=hz21
     refine hgE 8 [oh0,oh0,oh0,oh0] [1,2,3,5,6] [] [] [.code rpu_n1,.code [1,1,1,1,1]] ⟨[(1,(pt w.heap.size 0)),(2,sT ⟨#[]⟩),(3,i6 0),(5,.slice (some ⟨z7,0,none⟩) 3 3),(6,sT (packS 0 l.say.rc))],(rpu_b1 l w z7),[],z21⟩ ?_
     exact HF (packS 0 l.say.rc) (by unfold recT; rw [hz]; rfl) _ (by omega)
   intro p hp zz hzz
   have rpu_g23_c4:rpu_g23C l p w z7 zz 4:=cert_call (v:=.agg #[.int .i64 32,.string (numT l.say.st)]) (by kernel_rfl) (by kernel_rfl) (rpu_g23_4 l p w z7) trivial (fun j wx _ hm=>refField_ok 32 l.say.st (by omega) wx)
   have rpu_g23_c8:rpu_g23C l p w z7 zz 8:=cert_call (v:=.agg #[.int .i64 33,.string (numT l.say.ep)]) (by kernel_rfl) (by kernel_rfl) (rpu_g23_8 l p w z7) trivial (fun j wx _ hm=>refField_ok 33 l.say.ep (by omega) wx)
   have rpu_g23_c12:rpu_g23C l p w z7 zz 12:=cert_call (v:=.agg #[.int .i64 34,.string (numT l.say.ou)]) (by kernel_rfl) (by kernel_rfl) (rpu_g23_12 l p w z7) trivial (fun j wx _ hm=>refField_ok 34 l.say.ou (by omega) wx)
   have rpu_g23_c15:rpu_g23C l p w z7 zz 15:=cert_newK (h:=oh0) (ob:=[]) (rs:=[]) (e:=60) (L:=4) (l:=(rpu_v5 l p)) (by kernel_rfl) (by kernel_rfl) (by kernel_rfl) (fun sz=>by kernel_rfl) trivial
   have rpu_g23_c16:rpu_g23C l p w z7 zz 16:=cert_app (k0:=0) (k:=15) (q:=1) (t:=54) (ty:=54) (e:=60) (zv:=.agg #[.int .i64 0,.string ⟨#[]⟩]) (by_:=24) (d0:=40) (d:=55) (List.mem_of_getElem? (i:=0) (by kernel_rfl)) (by kernel_rfl) (by kernel_rfl) (List.mem_of_getElem? (i:=1) (by kernel_rfl)) (by kernel_rfl) (by kernel_rfl) (by decide) (by kernel_rfl) (by kernel_rfl) (fun g=>by kernel_rfl) (fun g=>by kernel_rfl) (by kernel_rfl) (by kernel_rfl) (by kernel_rfl) (by decide) (fun j bk h_=>by
     match j,h_ with
     | 0,h_=>
      have h':some (rpu_b1 l w z7) = some bk:=h_
      cases h'
      rfl
     | j + 1,h_=>
      have h':(none:Option (List Bk)) = some bk:=h_
      cases h') rfl rfl (by decide) (by decide) (by decide)
   have rpu_g23_c17:rpu_g23C l p w z7 zz 17:=cert_asg (k:=16) (d:=56) (List.mem_of_getElem? (i:=0) (by kernel_rfl)) (by kernel_rfl) (by kernel_rfl) (by decide) (by kernel_rfl) (by kernel_rfl) (fun v=>by kernel_rfl) (fun v=>by kernel_rfl)
   have rpu_g23_R:∀ e_ ∈ (rZs [0,1,2,5,6,9,10,13,14] ++ [⟨3,⟨false,0,[⟨false,0,13,1⟩]⟩,[],[(w.heap.size,13,1)]⟩,⟨7,⟨false,0,[⟨false,0,14,1⟩]⟩,[],[(w.heap.size,14,1)]⟩,⟨11,⟨false,0,[⟨false,0,15,1⟩]⟩,[],[(w.heap.size,15,1)]⟩]:List RegE),rpu_g23C l p w z7 zz e_.i:=certs_reg (by kernel_rfl) _ (fun sz=>by kernel_rfl)
   refine holds_mixV (vs:=(rpu_g23v l p w z7)) (ms:=(rpu_g23m l w z7)) (stg:=(rpu_g23t)) (J:=0) (sl':=[(2,sT ⟨#[]⟩),(3,i6 0)]) (bk':=(rpu_b1 l w z7)) (CApp 15 16 17 zz 4 (rpu_v5 l p) 60 2 (3 + 4) ((rpu_v2 l) ++ (rpu_v5 l p))) [2,3] 17 5 (by kernel_rfl) (by kernel_rfl) (by kernel_rfl) (capp_stable (by intro b hb_; simp at hb_; rcases hb_ with rfl | rfl <;> (simp; try omega))) (certs_mix rpu_g23_R [4,8,12,15,16,17] ⟨rpu_g23_c4,rpu_g23_c8,rpu_g23_c12,rpu_g23_c15,rpu_g23_c16,rpu_g23_c17,tI⟩ (by kernel_rfl)) (by kernel_rfl) (by kernel_rfl) rfl (of_decide_eq_true (by kernel_rfl)) (by kernel_rfl) (by kernel_rfl) (by kernel_rfl) (fun v_ W1 hC hzW hm1=>?_)
   rcases hC with ⟨h_,_⟩ | ⟨_,g5,c5,rfl,hg5,hO⟩
   ·exact absurd h_ (by decide)
   have hO5:=hO.below (show w.heap.size ≤ zz by omega)
   have eF:(rpu_v2 l) ++ (rpu_v5 l p) = fldV (fldsM l):=by unfold fldsM; rw [ha,hp]; rfl
   have hnT:∀ x,ownS (some ⟨g5,0,none⟩) x → ¬ Turned (rpu_b1 l w z7) x:=by
    rintro x ⟨a,ha_,hx⟩ ⟨b,hb_,_,he⟩
    simp only [Option.some.injEq] at ha_
    subst ha_
    simp at hb_
    rcases hb_ with rfl | rfl <;> simp at he hx <;> omega
   refine hgE 6 [oh0] [2,3,92] [] [] [.ops [1,1,1,1,1,0] [1,2,3,4,5,6],.code [1,1,1,1,1,1]] ⟨[(2,sT ⟨#[]⟩),(3,i6 0),(92,.slice (some ⟨g5,0,none⟩) 7 c5)],(rpu_b1 l w z7),[],W1.heap.size⟩ ?_
   refine hcp (.tuple #[sT (layT (fldsM l)),i6 0]) 24 [.slice (some ⟨g5,0,none⟩) 7 c5] (some 93) [] tI rfl (fun wx hm=>by have h_:=refLay_ok (some ⟨g5,0,none⟩) 7 c5 w.heap.size (fldsM l) hlo wx (by rw [← eF]; exact hO5.kept hm.kept hnT); exact h_) fun z25 hz25=>?_
   replace hz25:W1.heap.size ≤ z25:=hz25
   refine hgE 12 [oh0,oh0,oh0,oh0,oh0,oh0] [2,3,97] [] [] [.ops [1,1,1,1,1,1,0] [1,2,3,4,5,6],.code [1,1,1,1,1,1,1]] ⟨[(2,sT ⟨#[]⟩),(3,i6 0),(97,sT (layT (fldsM l)))],(rpu_b1 l w z7),[],z25⟩ ?_
   refine hcp (.tuple #[sT (frameT (layT (fldsM l))),i6 0]) 25 [sT (layT (fldsM l))] (some 98) [] tI rfl (fun wx hm=>refFrame_ok (layT (fldsM l)) (by rw [len_layT]; omega) wx) fun z27 hz27=>?_
   replace hz27:z25 ≤ z27:=hz27
   refine hgE 15 [oh0,oh0,oh0,oh0,oh0,oh0,oh0,oh0] [2,3] [] [] [.code [1,1,1,1,1,1,1,1]] ⟨[(2,sT (frameT (layT (fldsM l)))),(3,i6 0)],(rpu_b1 l w z7),[],z27⟩ ?_
   refine hrt [] [sT (frameT (layT (fldsM l))),i6 0] [] ?_
   intro wx hm
   exact ⟨by unfold putT putE; rw [h]; rfl,(MemOk.bck hm1 hm).kept⟩
end Go.Proofs.Ytkffgdfbdmgncaa
