import Derived.Test.YtkffgdfbdmgncaaRefM12
import Derived.Test.YtkffgdfbdmgncaaRefL12
import Derived.Test.YtkffgdfbdmgncaaEngK
import Derived.Test.YtkffgdfbdmgncaaPackR8
namespace Go.Proofs.Ytkffgdfbdmgncaa
open Go.RowKit
def rpu_v1 (l:LetM):List Value:=[.int .i64 l.fr,.int .i64 l.dst,.int .i64 l.id,.bool l.ans,.int .i64 l.ask.kind,.int .i64 l.ask.stripe,.int .i64 l.ask.epoch,.int .i64 l.ask.seq,.int .i64 l.ask.mask,.int .i64 l.ask.node,.int .i64 l.ask.oe,.int .i64 l.ask.os,.string l.ask.block,.int .i64 l.say.st,.int .i64 l.say.ep,.int .i64 l.say.ou,.bool l.say.rc.used,.int .i64 l.say.rc.fence,.int .i64 l.say.rc.de,.int .i64 l.say.rc.ds,.string l.say.rc.block,.bool l.say.rc.op,.int .i64 l.say.rc.ie,.int .i64 l.say.rc.is,.int .i64 l.say.rc.mask,.string l.say.rc.staged]
def rpu_v2 (l:LetM):List Value:=[.int .i64 1,.string (numT l.fr),.int .i64 2,.string (numT l.dst),.int .i64 3,.string (numT l.id)]
def rpu_v3 (l:LetM):List Value:=[.int .i64 l.ask.kind,.int .i64 l.ask.stripe,.int .i64 l.ask.epoch,.int .i64 l.ask.seq,.int .i64 l.ask.mask,.int .i64 l.ask.node,.int .i64 l.ask.oe,.int .i64 l.ask.os,.string l.ask.block]
def rpu_v4 (l:LetM):List Value:=[.int .i64 16,.string (numT l.ask.kind),.int .i64 17,.string (numT l.ask.stripe),.int .i64 18,.string (numT l.ask.epoch),.int .i64 19,.string (numT l.ask.seq),.int .i64 20,.string (numT l.ask.mask),.int .i64 21,.string (numT l.ask.node),.int .i64 22,.string (numT l.ask.oe),.int .i64 23,.string (numT l.ask.os),.int .i64 24,.string l.ask.block]
def rpu_v5 (l:LetM) (p:ByteArray):List Value:=[.int .i64 32,.string (numT l.say.st),.int .i64 33,.string (numT l.say.ep),.int .i64 34,.string (numT l.say.ou),.int .i64 35,.string p]
def rpu_v6 (l:LetM):List Value:=[.bool l.say.rc.used,.int .i64 l.say.rc.fence,.int .i64 l.say.rc.de,.int .i64 l.say.rc.ds,.string l.say.rc.block,.bool l.say.rc.op,.int .i64 l.say.rc.ie,.int .i64 l.say.rc.is,.int .i64 l.say.rc.mask,.string l.say.rc.staged]
def rpu_n1:List Nat:=[1,1,1,1,0,1,0,1,1]
def rpu_n2:List Nat:=[1,1,1,1,0,1,1,1]
def rpu_n3:Array Bool:=#[true,true,true,true,true,true,true,true,true,false,false]
@[simp] def rpu_b1 (l:LetM) (w:World) (z7:Nat):List Bk:=[⟨w.heap.size,31,true,(rpu_v1 l)⟩,⟨z7,60,true,(rpu_v2 l)⟩]
@[simp] def rpu_b2 (l:LetM) (w:World) (z7:Nat):List Bk:=[⟨w.heap.size,31,true,(rpu_v1 l)⟩,⟨z7,60,true,(rpu_v2 l)⟩,⟨z7 + 1,25,true,(rpu_v3 l)⟩]
theorem rpu_q7 (l:LetM) (w:World) (z5:Nat):Out.prune [1,2,3,18,21,24] (qList Try.prog 102 w (fun _=>False) ((opsOf (getCode (bodyOf Try.f11) [1,1,1,0])).toList.take 9) ⟨[(1,(pt w.heap.size 0)),(2,.string ⟨#[]⟩),(3,.int .i64 0)],[⟨w.heap.size,31,true,(rpu_v1 l)⟩],[],z5⟩ [.op oh0,.op ⟨false,0,[⟨false,0,0,1⟩]⟩,.call (.agg #[.int .i64 1,.string (numT l.fr)]),.op oh0,.op ⟨false,0,[⟨false,0,1,1⟩]⟩,.call (.agg #[.int .i64 2,.string (numT l.dst)]),.op oh0,.op ⟨false,0,[⟨false,0,2,1⟩]⟩,.call (.agg #[.int .i64 3,.string (numT l.id)])]) = some ⟨[∀ w',MemC w (fun _=>False) [⟨w.heap.size,31,true,(rpu_v1 l)⟩] [] z5 w' → Calls Try.prog 22 #[.int .i64 1,.int .i64 l.fr] w' (RetK (.agg #[.int .i64 1,.string (numT l.fr)]) w'),∀ w',MemC w (fun _=>False) [⟨w.heap.size,31,true,(rpu_v1 l)⟩] [] z5 w' → Calls Try.prog 22 #[.int .i64 2,.int .i64 l.dst] w' (RetK (.agg #[.int .i64 2,.string (numT l.dst)]) w'),∀ w',MemC w (fun _=>False) [⟨w.heap.size,31,true,(rpu_v1 l)⟩] [] z5 w' → Calls Try.prog 22 #[.int .i64 3,.int .i64 l.id] w' (RetK (.agg #[.int .i64 3,.string (numT l.id)]) w')],dupR [(w.heap.size,0,1),(w.heap.size,1,1),(w.heap.size,2,1)],⟨[(1,(pt w.heap.size 0)),(2,.string ⟨#[]⟩),(3,.int .i64 0),(18,.agg #[.int .i64 1,.string (numT l.fr)]),(21,.agg #[.int .i64 2,.string (numT l.dst)]),(24,.agg #[.int .i64 3,.string (numT l.id)])],[⟨w.heap.size,31,true,(rpu_v1 l)⟩],[],z5⟩⟩:=by kernel_rfl
theorem rpu_t8 (l:LetM) (w:World) (z7:Nat):tailP [1,2,3,5] (tailX Try.prog 102 (opsOf (getCode (bodyOf Try.f11) [1,1,1,0])) 2 rpu_n3 ⟨[(1,(pt w.heap.size 0)),(2,.string ⟨#[]⟩),(3,.int .i64 0),(18,.agg #[.int .i64 1,.string (numT l.fr)]),(21,.agg #[.int .i64 2,.string (numT l.dst)]),(24,.agg #[.int .i64 3,.string (numT l.id)])],[⟨w.heap.size,31,true,(rpu_v1 l)⟩],[],z7⟩ [(9,false,oh0),(10,false,oh0)]) = some (⟨[],dupR [],⟨[(1,(pt w.heap.size 0)),(2,.string ⟨#[]⟩),(3,.int .i64 0),(5,.slice (some ⟨z7,0,none⟩) 3 3)],(rpu_b1 l w z7),[],z7 + 1⟩⟩,0,#[true,true,true,true,true,true,true,true,true,true,true]):=by kernel_rfl
def rpu_g11s (z7:Nat):List (Nat × Value):=[(2,.string ⟨#[]⟩),(3,.int .i64 0),(5,.slice (some ⟨z7,0,none⟩) 3 3),(7,(pt (z7 + 1) 0))]
def rpu_g11v (l:LetM) (z7:Nat):List (Option Value):=[some (.slice (some ⟨z7,0,none⟩) 3 3),some ((pt (z7 + 1) 0)),some (.int .i64 l.ask.kind),some (.agg #[.int .i64 16,.string (numT l.ask.kind)]),some ((pt (z7 + 1) 1)),some (.int .i64 l.ask.stripe),some (.agg #[.int .i64 17,.string (numT l.ask.stripe)]),some ((pt (z7 + 1) 2)),some (.int .i64 l.ask.epoch),some (.agg #[.int .i64 18,.string (numT l.ask.epoch)]),some ((pt (z7 + 1) 3)),some (.int .i64 l.ask.seq),some (.agg #[.int .i64 19,.string (numT l.ask.seq)]),some ((pt (z7 + 1) 4)),some (.int .i64 l.ask.mask),some (.agg #[.int .i64 20,.string (numT l.ask.mask)]),some ((pt (z7 + 1) 5)),some (.int .i64 l.ask.node),some (.agg #[.int .i64 21,.string (numT l.ask.node)]),some ((pt (z7 + 1) 6)),some ((pt (z7 + 1) 6)),some (.int .i64 l.ask.oe),some (.agg #[.int .i64 22,.string (numT l.ask.oe)]),some ((pt (z7 + 1) 6)),some ((pt (z7 + 1) 7)),some (.int .i64 l.ask.os),some (.agg #[.int .i64 23,.string (numT l.ask.os)]),some ((pt (z7 + 1) 8)),some (.string l.ask.block),some (.agg #[.int .i64 24,.string l.ask.block]),none,none,none]
def rpu_g11m (l:LetM) (w:World) (z7:Nat):List (List Bk):=[(rpu_b2 l w z7)]
def rpu_g11t:List (Option Nat):=[none,none,none,none,none,none,none,none,none,none,none,none,none,none,none,none,none,none,none,none,none,none,none,none,none,none,none,none,none,none,none,none,none]
def rpu_g11E (l:LetM) (w:World) (z7:Nat) (i_:Nat) (h_:OH) (o_:List Prop) (r_:List (Nat × Nat × Nat)):Prop:=∀ sz,(List.range (0 + 1)).map (regEnt Try.prog (opsOf (getCode (bodyOf Try.f11) rpu_n2)) (slI (opsOf (getCode (bodyOf Try.f11) rpu_n2)) (rpu_g11s z7) i_) (rpu_g11v l z7) (rpu_g11m l w z7) [] sz i_ h_) = (List.range (0 + 1)).map (regExp (rpu_g11v l z7) (rpu_g11m l w z7) sz i_ o_ r_)
theorem rpu_g11_0 (l:LetM) (w:World) (z7:Nat):rpu_g11E l w z7 0 oh0 [] []:=fun sz=>by kernel_rfl
theorem rpu_g11_1 (l:LetM) (w:World) (z7:Nat):rpu_g11E l w z7 1 oh0 [] []:=fun sz=>by kernel_rfl
theorem rpu_g11_2 (l:LetM) (w:World) (z7:Nat):rpu_g11E l w z7 2 ⟨false,0,[⟨false,2,0,1⟩]⟩ [] [(z7 + 1,0,1)]:=fun sz=>by kernel_rfl
theorem rpu_g11_3 (l:LetM) (z7:Nat):callAt Try.prog (opsOf (getCode (bodyOf Try.f11) rpu_n2)) (slG (opsOf (getCode (bodyOf Try.f11) rpu_n2)) (rpu_g11v l z7) (slI (opsOf (getCode (bodyOf Try.f11) rpu_n2)) (rpu_g11s z7) 3) (needsOf (opsOf (getCode (bodyOf Try.f11) rpu_n2)) 3)) 3 = some (22,[.int .i64 16,.int .i64 l.ask.kind],dstOf (opsOf (getCode (bodyOf Try.f11) rpu_n2)) 3,[]):=by kernel_rfl
theorem rpu_g11_4 (l:LetM) (w:World) (z7:Nat):rpu_g11E l w z7 4 oh0 [] []:=fun sz=>by kernel_rfl
theorem rpu_g11_5 (l:LetM) (w:World) (z7:Nat):rpu_g11E l w z7 5 ⟨false,0,[⟨false,2,1,1⟩]⟩ [] [(z7 + 1,1,1)]:=fun sz=>by kernel_rfl
theorem rpu_g11_6 (l:LetM) (z7:Nat):callAt Try.prog (opsOf (getCode (bodyOf Try.f11) rpu_n2)) (slG (opsOf (getCode (bodyOf Try.f11) rpu_n2)) (rpu_g11v l z7) (slI (opsOf (getCode (bodyOf Try.f11) rpu_n2)) (rpu_g11s z7) 6) (needsOf (opsOf (getCode (bodyOf Try.f11) rpu_n2)) 6)) 6 = some (22,[.int .i64 17,.int .i64 l.ask.stripe],dstOf (opsOf (getCode (bodyOf Try.f11) rpu_n2)) 6,[]):=by kernel_rfl
theorem rpu_g11_7 (l:LetM) (w:World) (z7:Nat):rpu_g11E l w z7 7 oh0 [] []:=fun sz=>by kernel_rfl
theorem rpu_g11_8 (l:LetM) (w:World) (z7:Nat):rpu_g11E l w z7 8 ⟨false,0,[⟨false,2,2,1⟩]⟩ [] [(z7 + 1,2,1)]:=fun sz=>by kernel_rfl
theorem rpu_g11_9 (l:LetM) (z7:Nat):callAt Try.prog (opsOf (getCode (bodyOf Try.f11) rpu_n2)) (slG (opsOf (getCode (bodyOf Try.f11) rpu_n2)) (rpu_g11v l z7) (slI (opsOf (getCode (bodyOf Try.f11) rpu_n2)) (rpu_g11s z7) 9) (needsOf (opsOf (getCode (bodyOf Try.f11) rpu_n2)) 9)) 9 = some (22,[.int .i64 18,.int .i64 l.ask.epoch],dstOf (opsOf (getCode (bodyOf Try.f11) rpu_n2)) 9,[]):=by kernel_rfl
theorem rpu_g11_10 (l:LetM) (w:World) (z7:Nat):rpu_g11E l w z7 10 oh0 [] []:=fun sz=>by kernel_rfl
theorem rpu_g11_11 (l:LetM) (w:World) (z7:Nat):rpu_g11E l w z7 11 ⟨false,0,[⟨false,2,3,1⟩]⟩ [] [(z7 + 1,3,1)]:=fun sz=>by kernel_rfl
theorem rpu_g11_12 (l:LetM) (z7:Nat):callAt Try.prog (opsOf (getCode (bodyOf Try.f11) rpu_n2)) (slG (opsOf (getCode (bodyOf Try.f11) rpu_n2)) (rpu_g11v l z7) (slI (opsOf (getCode (bodyOf Try.f11) rpu_n2)) (rpu_g11s z7) 12) (needsOf (opsOf (getCode (bodyOf Try.f11) rpu_n2)) 12)) 12 = some (22,[.int .i64 19,.int .i64 l.ask.seq],dstOf (opsOf (getCode (bodyOf Try.f11) rpu_n2)) 12,[]):=by kernel_rfl
theorem rpu_g11_13 (l:LetM) (w:World) (z7:Nat):rpu_g11E l w z7 13 oh0 [] []:=fun sz=>by kernel_rfl
theorem rpu_g11_14 (l:LetM) (w:World) (z7:Nat):rpu_g11E l w z7 14 ⟨false,0,[⟨false,2,4,1⟩]⟩ [] [(z7 + 1,4,1)]:=fun sz=>by kernel_rfl
theorem rpu_g11_15 (l:LetM) (z7:Nat):callAt Try.prog (opsOf (getCode (bodyOf Try.f11) rpu_n2)) (slG (opsOf (getCode (bodyOf Try.f11) rpu_n2)) (rpu_g11v l z7) (slI (opsOf (getCode (bodyOf Try.f11) rpu_n2)) (rpu_g11s z7) 15) (needsOf (opsOf (getCode (bodyOf Try.f11) rpu_n2)) 15)) 15 = some (22,[.int .i64 20,.int .i64 l.ask.mask],dstOf (opsOf (getCode (bodyOf Try.f11) rpu_n2)) 15,[]):=by kernel_rfl
theorem rpu_g11_16 (l:LetM) (w:World) (z7:Nat):rpu_g11E l w z7 16 oh0 [] []:=fun sz=>by kernel_rfl
theorem rpu_g11_17 (l:LetM) (w:World) (z7:Nat):rpu_g11E l w z7 17 ⟨false,0,[⟨false,2,5,1⟩]⟩ [] [(z7 + 1,5,1)]:=fun sz=>by kernel_rfl
theorem rpu_g11_18 (l:LetM) (z7:Nat):callAt Try.prog (opsOf (getCode (bodyOf Try.f11) rpu_n2)) (slG (opsOf (getCode (bodyOf Try.f11) rpu_n2)) (rpu_g11v l z7) (slI (opsOf (getCode (bodyOf Try.f11) rpu_n2)) (rpu_g11s z7) 18) (needsOf (opsOf (getCode (bodyOf Try.f11) rpu_n2)) 18)) 18 = some (22,[.int .i64 21,.int .i64 l.ask.node],dstOf (opsOf (getCode (bodyOf Try.f11) rpu_n2)) 18,[]):=by kernel_rfl
theorem rpu_g11_19 (l:LetM) (w:World) (z7:Nat):rpu_g11E l w z7 19 oh0 [] []:=fun sz=>by kernel_rfl
theorem rpu_g11_20 (l:LetM) (w:World) (z7:Nat):rpu_g11E l w z7 20 oh0 [] []:=fun sz=>by kernel_rfl
theorem rpu_g11_21 (l:LetM) (w:World) (z7:Nat):rpu_g11E l w z7 21 ⟨false,0,[⟨false,2,6,1⟩]⟩ [] [(z7 + 1,6,1)]:=fun sz=>by kernel_rfl
theorem rpu_g11_22 (l:LetM) (z7:Nat):callAt Try.prog (opsOf (getCode (bodyOf Try.f11) rpu_n2)) (slG (opsOf (getCode (bodyOf Try.f11) rpu_n2)) (rpu_g11v l z7) (slI (opsOf (getCode (bodyOf Try.f11) rpu_n2)) (rpu_g11s z7) 22) (needsOf (opsOf (getCode (bodyOf Try.f11) rpu_n2)) 22)) 22 = some (22,[.int .i64 22,.int .i64 l.ask.oe],dstOf (opsOf (getCode (bodyOf Try.f11) rpu_n2)) 22,[]):=by kernel_rfl
theorem rpu_g11_23 (l:LetM) (w:World) (z7:Nat):rpu_g11E l w z7 23 oh0 [] []:=fun sz=>by kernel_rfl
theorem rpu_g11_24 (l:LetM) (w:World) (z7:Nat):rpu_g11E l w z7 24 oh0 [] []:=fun sz=>by kernel_rfl
theorem rpu_g11_25 (l:LetM) (w:World) (z7:Nat):rpu_g11E l w z7 25 ⟨false,0,[⟨false,2,7,1⟩]⟩ [] [(z7 + 1,7,1)]:=fun sz=>by kernel_rfl
theorem rpu_g11_26 (l:LetM) (z7:Nat):callAt Try.prog (opsOf (getCode (bodyOf Try.f11) rpu_n2)) (slG (opsOf (getCode (bodyOf Try.f11) rpu_n2)) (rpu_g11v l z7) (slI (opsOf (getCode (bodyOf Try.f11) rpu_n2)) (rpu_g11s z7) 26) (needsOf (opsOf (getCode (bodyOf Try.f11) rpu_n2)) 26)) 26 = some (22,[.int .i64 23,.int .i64 l.ask.os],dstOf (opsOf (getCode (bodyOf Try.f11) rpu_n2)) 26,[]):=by kernel_rfl
theorem rpu_g11_27 (l:LetM) (w:World) (z7:Nat):rpu_g11E l w z7 27 oh0 [] []:=fun sz=>by kernel_rfl
theorem rpu_g11_28 (l:LetM) (w:World) (z7:Nat):rpu_g11E l w z7 28 ⟨false,0,[⟨false,2,8,1⟩]⟩ [] [(z7 + 1,8,1)]:=fun sz=>by kernel_rfl
theorem rpu_g11_29 (l:LetM) (w:World) (z7:Nat):rpu_g11E l w z7 29 oh0 [] []:=fun sz=>by kernel_rfl
def rpu_g11C (l:LetM) (w:World) (z7:Nat) (i_:Nat):Prop:=CertG (wpOp Try.prog (opsOf (getCode (bodyOf Try.f11) rpu_n2)) (sem Try.prog (bodyOf Try.f11) (bodyPost Try.prog Try.f11 (RetK (.tuple #[.string (putT l),.int .i64 (putE l)]) w)) [.code [1,1,1,1,1]])) [] 102 (opsOf (getCode (bodyOf Try.f11) rpu_n2)) (slI (opsOf (getCode (bodyOf Try.f11) rpu_n2)) (rpu_g11s z7) i_) (rpu_g11t) 0 (MG w (fun _=>False) (rpu_g11m l w z7) [] (z7 + 2)) (Turned (rpu_b2 l w z7)) (PvG (rpu_g11v l z7) (CApp 30 31 32 (z7 + 2) 9 (rpu_v4 l) 60 2 (3 + 9) ((rpu_v2 l) ++ (rpu_v4 l)))) i_
def rpu_g23s (p:ByteArray) (w:World) (z7:Nat):List (Nat × Value):=[(1,(pt w.heap.size 0)),(2,.string ⟨#[]⟩),(3,.int .i64 0),(5,.slice (some ⟨z7,0,none⟩) 3 3),(6,.string p)]
def rpu_g23v (l:LetM) (p:ByteArray) (w:World) (z7:Nat):List (Option Value):=[some (.slice (some ⟨z7,0,none⟩) 3 3),some ((pt w.heap.size 13)),some ((pt w.heap.size 13)),some (.int .i64 l.say.st),some (.agg #[.int .i64 32,.string (numT l.say.st)]),some ((pt w.heap.size 13)),some ((pt w.heap.size 14)),some (.int .i64 l.say.ep),some (.agg #[.int .i64 33,.string (numT l.say.ep)]),some ((pt w.heap.size 13)),some ((pt w.heap.size 15)),some (.int .i64 l.say.ou),some (.agg #[.int .i64 34,.string (numT l.say.ou)]),some (.string p),some (.agg #[.int .i64 35,.string p]),none,none,none]
def rpu_g23m (l:LetM) (w:World) (z7:Nat):List (List Bk):=[(rpu_b1 l w z7)]
def rpu_g23t:List (Option Nat):=[none,none,none,none,none,none,none,none,none,none,none,none,none,none,none,none,none,none]
def rpu_g23E (l:LetM) (p:ByteArray) (w:World) (z7:Nat) (i_:Nat) (h_:OH) (o_:List Prop) (r_:List (Nat × Nat × Nat)):Prop:=∀ sz,(List.range (0 + 1)).map (regEnt Try.prog (opsOf (getCode (bodyOf Try.f11) rpu_n1)) (slI (opsOf (getCode (bodyOf Try.f11) rpu_n1)) (rpu_g23s p w z7) i_) (rpu_g23v l p w z7) (rpu_g23m l w z7) [] sz i_ h_) = (List.range (0 + 1)).map (regExp (rpu_g23v l p w z7) (rpu_g23m l w z7) sz i_ o_ r_)
theorem rpu_g23_0 (l:LetM) (p:ByteArray) (w:World) (z7:Nat):rpu_g23E l p w z7 0 oh0 [] []:=fun sz=>by kernel_rfl
theorem rpu_g23_1 (l:LetM) (p:ByteArray) (w:World) (z7:Nat):rpu_g23E l p w z7 1 oh0 [] []:=fun sz=>by kernel_rfl
theorem rpu_g23_2 (l:LetM) (p:ByteArray) (w:World) (z7:Nat):rpu_g23E l p w z7 2 oh0 [] []:=fun sz=>by kernel_rfl
theorem rpu_g23_3 (l:LetM) (p:ByteArray) (w:World) (z7:Nat):rpu_g23E l p w z7 3 ⟨false,0,[⟨false,0,13,1⟩]⟩ [] [(w.heap.size,13,1)]:=fun sz=>by kernel_rfl
theorem rpu_g23_4 (l:LetM) (p:ByteArray) (w:World) (z7:Nat):callAt Try.prog (opsOf (getCode (bodyOf Try.f11) rpu_n1)) (slG (opsOf (getCode (bodyOf Try.f11) rpu_n1)) (rpu_g23v l p w z7) (slI (opsOf (getCode (bodyOf Try.f11) rpu_n1)) (rpu_g23s p w z7) 4) (needsOf (opsOf (getCode (bodyOf Try.f11) rpu_n1)) 4)) 4 = some (22,[.int .i64 32,.int .i64 l.say.st],dstOf (opsOf (getCode (bodyOf Try.f11) rpu_n1)) 4,[]):=by kernel_rfl
theorem rpu_g23_5 (l:LetM) (p:ByteArray) (w:World) (z7:Nat):rpu_g23E l p w z7 5 oh0 [] []:=fun sz=>by kernel_rfl
theorem rpu_g23_6 (l:LetM) (p:ByteArray) (w:World) (z7:Nat):rpu_g23E l p w z7 6 oh0 [] []:=fun sz=>by kernel_rfl
theorem rpu_g23_7 (l:LetM) (p:ByteArray) (w:World) (z7:Nat):rpu_g23E l p w z7 7 ⟨false,0,[⟨false,0,14,1⟩]⟩ [] [(w.heap.size,14,1)]:=fun sz=>by kernel_rfl
theorem rpu_g23_8 (l:LetM) (p:ByteArray) (w:World) (z7:Nat):callAt Try.prog (opsOf (getCode (bodyOf Try.f11) rpu_n1)) (slG (opsOf (getCode (bodyOf Try.f11) rpu_n1)) (rpu_g23v l p w z7) (slI (opsOf (getCode (bodyOf Try.f11) rpu_n1)) (rpu_g23s p w z7) 8) (needsOf (opsOf (getCode (bodyOf Try.f11) rpu_n1)) 8)) 8 = some (22,[.int .i64 33,.int .i64 l.say.ep],dstOf (opsOf (getCode (bodyOf Try.f11) rpu_n1)) 8,[]):=by kernel_rfl
theorem rpu_g23_9 (l:LetM) (p:ByteArray) (w:World) (z7:Nat):rpu_g23E l p w z7 9 oh0 [] []:=fun sz=>by kernel_rfl
theorem rpu_g23_10 (l:LetM) (p:ByteArray) (w:World) (z7:Nat):rpu_g23E l p w z7 10 oh0 [] []:=fun sz=>by kernel_rfl
theorem rpu_g23_11 (l:LetM) (p:ByteArray) (w:World) (z7:Nat):rpu_g23E l p w z7 11 ⟨false,0,[⟨false,0,15,1⟩]⟩ [] [(w.heap.size,15,1)]:=fun sz=>by kernel_rfl
theorem rpu_g23_12 (l:LetM) (p:ByteArray) (w:World) (z7:Nat):callAt Try.prog (opsOf (getCode (bodyOf Try.f11) rpu_n1)) (slG (opsOf (getCode (bodyOf Try.f11) rpu_n1)) (rpu_g23v l p w z7) (slI (opsOf (getCode (bodyOf Try.f11) rpu_n1)) (rpu_g23s p w z7) 12) (needsOf (opsOf (getCode (bodyOf Try.f11) rpu_n1)) 12)) 12 = some (22,[.int .i64 34,.int .i64 l.say.ou],dstOf (opsOf (getCode (bodyOf Try.f11) rpu_n1)) 12,[]):=by kernel_rfl
theorem rpu_g23_13 (l:LetM) (p:ByteArray) (w:World) (z7:Nat):rpu_g23E l p w z7 13 oh0 [] []:=fun sz=>by kernel_rfl
theorem rpu_g23_14 (l:LetM) (p:ByteArray) (w:World) (z7:Nat):rpu_g23E l p w z7 14 oh0 [] []:=fun sz=>by kernel_rfl
def rpu_g23C (l:LetM) (p:ByteArray) (w:World) (z7:Nat) (zz:Nat) (i_:Nat):Prop:=CertG (wpOp Try.prog (opsOf (getCode (bodyOf Try.f11) rpu_n1)) (sem Try.prog (bodyOf Try.f11) (bodyPost Try.prog Try.f11 (RetK (.tuple #[.string (putT l),.int .i64 (putE l)]) w)) [.code [1,1,1,1,1]])) [] 102 (opsOf (getCode (bodyOf Try.f11) rpu_n1)) (slI (opsOf (getCode (bodyOf Try.f11) rpu_n1)) (rpu_g23s p w z7) i_) (rpu_g23t) 0 (MG w (fun _=>False) (rpu_g23m l w z7) [] zz) (Turned (rpu_b1 l w z7)) (PvG (rpu_g23v l p w z7) (CApp 15 16 17 zz 4 (rpu_v5 l p) 60 2 (3 + 4) ((rpu_v2 l) ++ (rpu_v5 l p)))) i_
set_option maxRecDepth 100000 in
set_option maxHeartbeats 4000000 in
theorem refPut_any (l:LetM) (w:World) :
  Calls Try.prog 11 #[.agg #[.int .i64 l.fr,.int .i64 l.dst,.int .i64 l.id,.bool l.ans,.int .i64 l.ask.kind,.int .i64 l.ask.stripe,.int .i64 l.ask.epoch,.int .i64 l.ask.seq,.int .i64 l.ask.mask,.int .i64 l.ask.node,.int .i64 l.ask.oe,.int .i64 l.ask.os,.string l.ask.block,.int .i64 l.say.st,.int .i64 l.say.ep,.int .i64 l.say.ou,.bool l.say.rc.used,.int .i64 l.say.rc.fence,.int .i64 l.say.rc.de,.int .i64 l.say.rc.ds,.string l.say.rc.block,.bool l.say.rc.op,.int .i64 l.say.rc.ie,.int .i64 l.say.rc.is,.int .i64 l.say.rc.mask,.string l.say.rc.staged]] w (RetK (.tuple #[.string (putT l),.int .i64 (putE l)]) w):=by
 refine calls_of_holds (S:=(fun _=>False)) (l:=[.agg (List.toArray (rpu_v1 l))]) (n:=102) Try.func11 (body_of (by kernel_rfl)) rfl (by simp) (MemOk.none w _) ?_
 refine hgo 12 [oh0,oh0,oh0,⟨false,0,[⟨false,0,0,26⟩]⟩] [1,2,3,12] [] [(w.heap.size,0,26)] [.ops [1,0] [1,2],.code [1,1]] ⟨[(1,(pt w.heap.size 0)),(2,.string ⟨#[]⟩),(3,.int .i64 0),(12,.agg (List.toArray (rpu_v1 l)))],[⟨w.heap.size,31,true,(rpu_v1 l)⟩],[],w.heap.size + 1⟩ trivial ?_
 rcases Bool.eq_false_or_eq_true (rightL l) with h | h
 rotate_left
 ·skip
  refine hcp (.bool false) 15 [.agg (List.toArray (rpu_v1 l))] (some 13) [] trivial rfl (fun wx hm=>by have h_:=refMsgRight_any l wx; rw [h] at h_; exact h_) fun z2 hz2=>?_
  replace hz2:w.heap.size + 1 ≤ z2:=hz2
  refine hgo 17 [oh0,oh0,oh0,oh1,oh0,oh0] [1,2,3] [true = true] [] [.code [1,1,0,1,0,1],.code [1,1,1]] ⟨[(1,(pt w.heap.size 0)),(2,.string ⟨#[]⟩),(3,.int .i64 120)],[⟨w.heap.size,31,true,(rpu_v1 l)⟩],[],z2⟩ ⟨rfl,trivial⟩ ?_
  refine hrt [] [.string ⟨#[]⟩,.int .i64 120] [] ?_
  intro wx hm
  exact ⟨by unfold putT putE; rw [h]; rfl,hm.kept⟩
 ·skip
  obtain ⟨hlo,hln,hl1,hl2⟩:=fldsM_ok h
  have hb:=letBd h
  refine hcp (.bool true) 15 [.agg (List.toArray (rpu_v1 l))] (some 13) [] trivial rfl (fun wx hm=>by have h_:=refMsgRight_any l wx; rw [h] at h_; exact h_) fun z5 hz5=>?_
  replace hz5:w.heap.size + 1 ≤ z5:=hz5
  refine hgo 14 [oh0,oh0,oh0,oh0] [1,2,3] [false = false] [] [.code [1,1,1,0],.code [1,1,1,1]] ⟨[(1,(pt w.heap.size 0)),(2,.string ⟨#[]⟩),(3,.int .i64 0)],[⟨w.heap.size,31,true,(rpu_v1 l)⟩],[],z5⟩ ⟨rfl,trivial⟩ ?_
  refine holds_draw (f:=2) (ls:=rpu_n3) 9 _ _ (by kernel_rfl) (by kernel_rfl) (by kernel_rfl) (by kernel_rfl) (rpu_q7 l w z5) ⟨(fun wx hm=>refField_ok 1 l.fr (by have:=hb.hfr; omega) wx),(fun wx hm=>refField_ok 2 l.dst (by have:=hb.hto; omega) wx),(fun wx hm=>refField_ok 3 l.id (by have:=hb.hid; omega) wx),trivial⟩ fun z7 hz7=>?_
  replace hz7:z5 ≤ z7:=hz7
  refine holds_tail panicOk_body _ _ (rpu_t8 l w z7) trivial ?_
  refine holds_done (by kernel_rfl) ?_
  refine hgo 9 [oh0,⟨false,0,[⟨false,0,3,1⟩]⟩] [1,2,3,5,27] [] [(w.heap.size,3,1)] [.code [1,1,1,1,0,1],.code [1,1,1,1,1]] ⟨[(1,(pt w.heap.size 0)),(2,.string ⟨#[]⟩),(3,.int .i64 0),(5,.slice (some ⟨z7,0,none⟩) 3 3),(27,.bool l.ans)],(rpu_b1 l w z7),[],z7 + 1⟩ trivial ?_
  rcases Bool.eq_false_or_eq_true l.ans with ha | ha
  rotate_left
  ·skip
   have hq:=(hb.ask ha).1
   obtain ⟨q1,q2,q3,q4,q5,q6,q7,q8,_⟩:=hq
   refine hgo 11 [oh0,oh0,⟨false,0,[⟨false,0,4,9⟩]⟩,oh0,⟨false,0,[⟨false,2,0,9⟩]⟩] [2,3,5,7] [l.ans = false] [(w.heap.size,4,9),(z7 + 1,0,9)] [.code rpu_n2,.code [1,1,1,1,1]] ⟨[(2,.string ⟨#[]⟩),(3,.int .i64 0),(5,.slice (some ⟨z7,0,none⟩) 3 3),(7,(pt (z7 + 1) 0))],(rpu_b2 l w z7),[],z7 + 2⟩ ⟨ha,trivial⟩ ?_
   have rpu_g11_c0:rpu_g11C l w z7 0:=cert_reg (v:=.slice (some ⟨z7,0,none⟩) 3 3) (by kernel_rfl) (by kernel_rfl) (by kernel_rfl) (rpu_g11_0 l w z7) trivial
   have rpu_g11_c1:rpu_g11C l w z7 1:=cert_reg (v:=(pt (z7 + 1) 0)) (by kernel_rfl) (by kernel_rfl) (by kernel_rfl) (rpu_g11_1 l w z7) trivial
   have rpu_g11_c2:rpu_g11C l w z7 2:=cert_reg (v:=.int .i64 l.ask.kind) (by kernel_rfl) (by kernel_rfl) (by kernel_rfl) (rpu_g11_2 l w z7) trivial
   have rpu_g11_c3:rpu_g11C l w z7 3:=cert_call (v:=.agg #[.int .i64 16,.string (numT l.ask.kind)]) (by kernel_rfl) (by kernel_rfl) (rpu_g11_3 l z7) trivial (fun j wx _ hm=>refField_ok 16 l.ask.kind (by omega) wx)
   have rpu_g11_c4:rpu_g11C l w z7 4:=cert_reg (v:=(pt (z7 + 1) 1)) (by kernel_rfl) (by kernel_rfl) (by kernel_rfl) (rpu_g11_4 l w z7) trivial
   have rpu_g11_c5:rpu_g11C l w z7 5:=cert_reg (v:=.int .i64 l.ask.stripe) (by kernel_rfl) (by kernel_rfl) (by kernel_rfl) (rpu_g11_5 l w z7) trivial
   have rpu_g11_c6:rpu_g11C l w z7 6:=cert_call (v:=.agg #[.int .i64 17,.string (numT l.ask.stripe)]) (by kernel_rfl) (by kernel_rfl) (rpu_g11_6 l z7) trivial (fun j wx _ hm=>refField_ok 17 l.ask.stripe (by omega) wx)
   have rpu_g11_c7:rpu_g11C l w z7 7:=cert_reg (v:=(pt (z7 + 1) 2)) (by kernel_rfl) (by kernel_rfl) (by kernel_rfl) (rpu_g11_7 l w z7) trivial
   have rpu_g11_c8:rpu_g11C l w z7 8:=cert_reg (v:=.int .i64 l.ask.epoch) (by kernel_rfl) (by kernel_rfl) (by kernel_rfl) (rpu_g11_8 l w z7) trivial
   have rpu_g11_c9:rpu_g11C l w z7 9:=cert_call (v:=.agg #[.int .i64 18,.string (numT l.ask.epoch)]) (by kernel_rfl) (by kernel_rfl) (rpu_g11_9 l z7) trivial (fun j wx _ hm=>refField_ok 18 l.ask.epoch (by omega) wx)
   have rpu_g11_c10:rpu_g11C l w z7 10:=cert_reg (v:=(pt (z7 + 1) 3)) (by kernel_rfl) (by kernel_rfl) (by kernel_rfl) (rpu_g11_10 l w z7) trivial
   have rpu_g11_c11:rpu_g11C l w z7 11:=cert_reg (v:=.int .i64 l.ask.seq) (by kernel_rfl) (by kernel_rfl) (by kernel_rfl) (rpu_g11_11 l w z7) trivial
   have rpu_g11_c12:rpu_g11C l w z7 12:=cert_call (v:=.agg #[.int .i64 19,.string (numT l.ask.seq)]) (by kernel_rfl) (by kernel_rfl) (rpu_g11_12 l z7) trivial (fun j wx _ hm=>refField_ok 19 l.ask.seq (by omega) wx)
   have rpu_g11_c13:rpu_g11C l w z7 13:=cert_reg (v:=(pt (z7 + 1) 4)) (by kernel_rfl) (by kernel_rfl) (by kernel_rfl) (rpu_g11_13 l w z7) trivial
   have rpu_g11_c14:rpu_g11C l w z7 14:=cert_reg (v:=.int .i64 l.ask.mask) (by kernel_rfl) (by kernel_rfl) (by kernel_rfl) (rpu_g11_14 l w z7) trivial
   have rpu_g11_c15:rpu_g11C l w z7 15:=cert_call (v:=.agg #[.int .i64 20,.string (numT l.ask.mask)]) (by kernel_rfl) (by kernel_rfl) (rpu_g11_15 l z7) trivial (fun j wx _ hm=>refField_ok 20 l.ask.mask (by omega) wx)
   have rpu_g11_c16:rpu_g11C l w z7 16:=cert_reg (v:=(pt (z7 + 1) 5)) (by kernel_rfl) (by kernel_rfl) (by kernel_rfl) (rpu_g11_16 l w z7) trivial
   have rpu_g11_c17:rpu_g11C l w z7 17:=cert_reg (v:=.int .i64 l.ask.node) (by kernel_rfl) (by kernel_rfl) (by kernel_rfl) (rpu_g11_17 l w z7) trivial
   have rpu_g11_c18:rpu_g11C l w z7 18:=cert_call (v:=.agg #[.int .i64 21,.string (numT l.ask.node)]) (by kernel_rfl) (by kernel_rfl) (rpu_g11_18 l z7) trivial (fun j wx _ hm=>refField_ok 21 l.ask.node (by omega) wx)
   have rpu_g11_c19:rpu_g11C l w z7 19:=cert_reg (v:=(pt (z7 + 1) 6)) (by kernel_rfl) (by kernel_rfl) (by kernel_rfl) (rpu_g11_19 l w z7) trivial
   have rpu_g11_c20:rpu_g11C l w z7 20:=cert_reg (v:=(pt (z7 + 1) 6)) (by kernel_rfl) (by kernel_rfl) (by kernel_rfl) (rpu_g11_20 l w z7) trivial
   have rpu_g11_c21:rpu_g11C l w z7 21:=cert_reg (v:=.int .i64 l.ask.oe) (by kernel_rfl) (by kernel_rfl) (by kernel_rfl) (rpu_g11_21 l w z7) trivial
   have rpu_g11_c22:rpu_g11C l w z7 22:=cert_call (v:=.agg #[.int .i64 22,.string (numT l.ask.oe)]) (by kernel_rfl) (by kernel_rfl) (rpu_g11_22 l z7) trivial (fun j wx _ hm=>refField_ok 22 l.ask.oe (by omega) wx)
   have rpu_g11_c23:rpu_g11C l w z7 23:=cert_reg (v:=(pt (z7 + 1) 6)) (by kernel_rfl) (by kernel_rfl) (by kernel_rfl) (rpu_g11_23 l w z7) trivial
   have rpu_g11_c24:rpu_g11C l w z7 24:=cert_reg (v:=(pt (z7 + 1) 7)) (by kernel_rfl) (by kernel_rfl) (by kernel_rfl) (rpu_g11_24 l w z7) trivial
   have rpu_g11_c25:rpu_g11C l w z7 25:=cert_reg (v:=.int .i64 l.ask.os) (by kernel_rfl) (by kernel_rfl) (by kernel_rfl) (rpu_g11_25 l w z7) trivial
   have rpu_g11_c26:rpu_g11C l w z7 26:=cert_call (v:=.agg #[.int .i64 23,.string (numT l.ask.os)]) (by kernel_rfl) (by kernel_rfl) (rpu_g11_26 l z7) trivial (fun j wx _ hm=>refField_ok 23 l.ask.os (by omega) wx)
   have rpu_g11_c27:rpu_g11C l w z7 27:=cert_reg (v:=(pt (z7 + 1) 8)) (by kernel_rfl) (by kernel_rfl) (by kernel_rfl) (rpu_g11_27 l w z7) trivial
   have rpu_g11_c28:rpu_g11C l w z7 28:=cert_reg (v:=.string l.ask.block) (by kernel_rfl) (by kernel_rfl) (by kernel_rfl) (rpu_g11_28 l w z7) trivial
   have rpu_g11_c29:rpu_g11C l w z7 29:=cert_reg (v:=.agg #[.int .i64 24,.string l.ask.block]) (by kernel_rfl) (by kernel_rfl) (by kernel_rfl) (rpu_g11_29 l w z7) trivial
   have rpu_g11_c30:rpu_g11C l w z7 30:=cert_newK (h:=oh0) (ob:=[]) (rs:=[]) (e:=60) (L:=9) (l:=(rpu_v4 l)) (by kernel_rfl) (by kernel_rfl) (by kernel_rfl) (fun sz=>by kernel_rfl) trivial
   have rpu_g11_c31:rpu_g11C l w z7 31:=cert_app (k0:=0) (k:=30) (q:=1) (t:=54) (ty:=54) (e:=60) (zv:=.agg #[.int .i64 0,.string ⟨#[]⟩]) (by_:=24) (d0:=59) (d:=89) (List.mem_of_getElem? (i:=0) (by kernel_rfl)) (by kernel_rfl) (by kernel_rfl) (List.mem_of_getElem? (i:=1) (by kernel_rfl)) (by kernel_rfl) (by kernel_rfl) (by decide) (by kernel_rfl) (by kernel_rfl) (fun g=>by kernel_rfl) (fun g=>by kernel_rfl) (by kernel_rfl) (by kernel_rfl) (by kernel_rfl) (by decide) (fun j bk h_=>by
     match j,h_ with
     | 0,h_=>
      have h':some (rpu_b2 l w z7) = some bk:=h_
      cases h'
      rfl
     | j + 1,h_=>
      have h':(none:Option (List Bk)) = some bk:=h_
      cases h') rfl rfl (by decide) (by decide) (by decide)
   have rpu_g11_c32:rpu_g11C l w z7 32:=cert_asg (k:=31) (d:=90) (List.mem_of_getElem? (i:=0) (by kernel_rfl)) (by kernel_rfl) (by kernel_rfl) (by decide) (by kernel_rfl) (by kernel_rfl) (fun v=>by kernel_rfl) (fun v=>by kernel_rfl)
   refine holds_mixV (vs:=(rpu_g11v l z7)) (ms:=(rpu_g11m l w z7)) (stg:=(rpu_g11t)) (J:=0) (sl':=[(2,.string ⟨#[]⟩),(3,.int .i64 0)]) (bk':=(rpu_b2 l w z7)) (CApp 30 31 32 (z7 + 2) 9 (rpu_v4 l) 60 2 (3 + 9) ((rpu_v2 l) ++ (rpu_v4 l))) [2,3] 32 5 (by kernel_rfl) (by kernel_rfl) (by kernel_rfl) (capp_stable (by intro b hb_; simp at hb_; rcases hb_ with rfl | rfl | rfl <;> (simp; try omega))) (certs_of [0,1,2,3,4,5,6,7,8,9,10,11,12,13,14,15,16,17,18,19,20,21,22,23,24,25,26,27,28,29,30,31,32] (by kernel_rfl) ⟨rpu_g11_c0,rpu_g11_c1,rpu_g11_c2,rpu_g11_c3,rpu_g11_c4,rpu_g11_c5,rpu_g11_c6,rpu_g11_c7,rpu_g11_c8,rpu_g11_c9,rpu_g11_c10,rpu_g11_c11,rpu_g11_c12,rpu_g11_c13,rpu_g11_c14,rpu_g11_c15,rpu_g11_c16,rpu_g11_c17,rpu_g11_c18,rpu_g11_c19,rpu_g11_c20,rpu_g11_c21,rpu_g11_c22,rpu_g11_c23,rpu_g11_c24,rpu_g11_c25,rpu_g11_c26,rpu_g11_c27,rpu_g11_c28,rpu_g11_c29,rpu_g11_c30,rpu_g11_c31,rpu_g11_c32,trivial⟩) (by kernel_rfl) (by kernel_rfl) rfl (of_decide_eq_true (by kernel_rfl)) (by kernel_rfl) (by kernel_rfl) (by kernel_rfl) (fun v_ W1 hC hzW hm1=>?_)
   rcases hC with ⟨h_,_⟩ | ⟨_,g5,c5,rfl,hg5,hO⟩
   ·exact absurd h_ (by decide)
   have hO5:=hO.below (show w.heap.size ≤ z7 + 2 by omega)
   have eF:(rpu_v2 l) ++ (rpu_v4 l) = fldV (fldsM l):=by unfold fldsM; rw [ha]; rfl
   have hnT:∀ x,ownS (some ⟨g5,0,none⟩) x → ¬ Turned (rpu_b2 l w z7) x:=by
    rintro x ⟨a,ha_,hx⟩ ⟨b,hb_,_,he⟩
    simp only [Option.some.injEq] at ha_
    subst ha_
    simp at hb_
    rcases hb_ with rfl | rfl | rfl <;> simp at he hx <;> omega
   refine hgo 6 [oh0] [2,3,92] [] [] [.ops [1,1,1,1,1,0] [1,2,3,4,5,6],.code [1,1,1,1,1,1]] ⟨[(2,.string ⟨#[]⟩),(3,.int .i64 0),(92,.slice (some ⟨g5,0,none⟩) 12 c5)],(rpu_b2 l w z7),[],W1.heap.size⟩ trivial ?_
   refine hcp (.tuple #[.string (layT (fldsM l)),.int .i64 0]) 24 [.slice (some ⟨g5,0,none⟩) 12 c5] (some 93) [] trivial rfl (fun wx hm=>by have h_:=refLay_ok (some ⟨g5,0,none⟩) 12 c5 w.heap.size (fldsM l) hlo wx (by rw [← eF]; exact hO5.kept hm.kept hnT); exact h_) fun z13 hz13=>?_
   replace hz13:W1.heap.size ≤ z13:=hz13
   refine hgo 12 [oh0,oh0,oh0,oh0,oh0,oh0] [2,3,97] [] [] [.ops [1,1,1,1,1,1,0] [1,2,3,4,5,6],.code [1,1,1,1,1,1,1]] ⟨[(2,.string ⟨#[]⟩),(3,.int .i64 0),(97,.string (layT (fldsM l)))],(rpu_b2 l w z7),[],z13⟩ trivial ?_
   refine hcp (.tuple #[.string (frameT (layT (fldsM l))),.int .i64 0]) 25 [.string (layT (fldsM l))] (some 98) [] trivial rfl (fun wx hm=>refFrame_ok (layT (fldsM l)) (by rw [len_layT]; omega) wx) fun z15 hz15=>?_
   replace hz15:z13 ≤ z15:=hz15
   refine hgo 15 [oh0,oh0,oh0,oh0,oh0,oh0,oh0,oh0] [2,3] [] [] [.code [1,1,1,1,1,1,1,1]] ⟨[(2,.string (frameT (layT (fldsM l)))),(3,.int .i64 0)],(rpu_b2 l w z7),[],z15⟩ trivial ?_
   refine hrt [] [.string (frameT (layT (fldsM l))),.int .i64 0] [] ?_
   intro wx hm
   exact ⟨by unfold putT putE; rw [h]; rfl,(MemOk.bck hm1 hm).kept⟩
  ·skip
   obtain ⟨hsa,_⟩:=hb.say ha
   obtain ⟨s1,s2,s3,hre⟩:=saBd hsa
   refine hgo 17 [oh1,oh0,oh0,oh0,⟨false,0,[⟨false,0,16,10⟩]⟩,oh0,oh2] [1,2,3,5,6,32] [l.ans = true,True] [(w.heap.size,16,10)] [.code [1,1,1,1,0,1,0,1,0,1],.code rpu_n1,.code [1,1,1,1,1]] ⟨[(1,(pt w.heap.size 0)),(2,.string ⟨#[]⟩),(3,.int .i64 0),(5,.slice (some ⟨z7,0,none⟩) 3 3),(6,.string ⟨#[]⟩),(32,.bool (!((recZ l.say.rc))))],(rpu_b1 l w z7),[],z7 + 1⟩ ⟨ha,trivial,trivial⟩ ?_
   suffices HF:∀ p:ByteArray,p = recT l.say.rc → ∀ zz:Nat,z7 + 1 ≤ zz → Holds [] Try.prog (bodyOf Try.f11) 102 w (fun _=>False) (bodyPost Try.prog Try.f11 (RetK (.tuple #[.string (putT l),.int .i64 (putE l)]) w)) [.code rpu_n1,.code [1,1,1,1,1]] ⟨[(1,(pt w.heap.size 0)),(2,.string ⟨#[]⟩),(3,.int .i64 0),(5,.slice (some ⟨z7,0,none⟩) 3 3),(6,.string p)],(rpu_b1 l w z7),[],zz⟩ by
    rcases Bool.eq_false_or_eq_true (recZ l.say.rc) with hz | hz
    ·skip
     refine hgo 5 [oh0] [1,2,3,5,6] [(!((recZ l.say.rc))) = false] [] [.code rpu_n1,.code [1,1,1,1,1]] ⟨[(1,(pt w.heap.size 0)),(2,.string ⟨#[]⟩),(3,.int .i64 0),(5,.slice (some ⟨z7,0,none⟩) 3 3),(6,.string ⟨#[]⟩)],(rpu_b1 l w z7),[],z7 + 1⟩ ⟨(by rw [show ((recZ l.say.rc)) = true from by exact hz]; rfl),trivial⟩ ?_
     exact HF ⟨#[]⟩ (by unfold recT; rw [hz]; rfl) _ (by omega)
    ·skip
     refine hgo 8 [oh1,oh0,oh0,⟨false,0,[⟨false,0,16,10⟩]⟩] [1,2,3,5,6,36] [(!((recZ l.say.rc))) = true] [(w.heap.size,16,10)] [.ops [1,1,1,1,0,1,0,1,0,1,0] [3,4,5,6,7],.code rpu_n1,.code [1,1,1,1,1]] ⟨[(1,(pt w.heap.size 0)),(2,.string ⟨#[]⟩),(3,.int .i64 0),(5,.slice (some ⟨z7,0,none⟩) 3 3),(6,.string ⟨#[]⟩),(36,.agg (List.toArray (rpu_v6 l)))],(rpu_b1 l w z7),[],z7 + 1⟩ ⟨(by rw [show ((recZ l.say.rc)) = false from by exact hz]; rfl),trivial⟩ ?_
     refine hcp (.tuple #[.string (packS 0 l.say.rc),.int .i64 0]) 23 [.int .i64 0,.agg (List.toArray (rpu_v6 l))] (some 37) [] trivial rfl (fun wx hm=>by have h_:=refPack_any 0 l.say.rc wx; rw [packT_ok (by omega) hre,packE_ok (by omega) hre] at h_; exact h_) fun z21 hz21=>?_
     replace hz21:z7 + 1 ≤ z21:=hz21
     refine hgo 8 [oh0,oh0,oh0,oh0] [1,2,3,5,6] [] [] [.code rpu_n1,.code [1,1,1,1,1]] ⟨[(1,(pt w.heap.size 0)),(2,.string ⟨#[]⟩),(3,.int .i64 0),(5,.slice (some ⟨z7,0,none⟩) 3 3),(6,.string (packS 0 l.say.rc))],(rpu_b1 l w z7),[],z21⟩ trivial ?_
     exact HF (packS 0 l.say.rc) (by unfold recT; rw [hz]; rfl) _ (by omega)
   intro p hp zz hzz
   have rpu_g23_c0:rpu_g23C l p w z7 zz 0:=cert_reg (v:=.slice (some ⟨z7,0,none⟩) 3 3) (by kernel_rfl) (by kernel_rfl) (by kernel_rfl) (rpu_g23_0 l p w z7) trivial
   have rpu_g23_c1:rpu_g23C l p w z7 zz 1:=cert_reg (v:=(pt w.heap.size 13)) (by kernel_rfl) (by kernel_rfl) (by kernel_rfl) (rpu_g23_1 l p w z7) trivial
   have rpu_g23_c2:rpu_g23C l p w z7 zz 2:=cert_reg (v:=(pt w.heap.size 13)) (by kernel_rfl) (by kernel_rfl) (by kernel_rfl) (rpu_g23_2 l p w z7) trivial
   have rpu_g23_c3:rpu_g23C l p w z7 zz 3:=cert_reg (v:=.int .i64 l.say.st) (by kernel_rfl) (by kernel_rfl) (by kernel_rfl) (rpu_g23_3 l p w z7) trivial
   have rpu_g23_c4:rpu_g23C l p w z7 zz 4:=cert_call (v:=.agg #[.int .i64 32,.string (numT l.say.st)]) (by kernel_rfl) (by kernel_rfl) (rpu_g23_4 l p w z7) trivial (fun j wx _ hm=>refField_ok 32 l.say.st (by omega) wx)
   have rpu_g23_c5:rpu_g23C l p w z7 zz 5:=cert_reg (v:=(pt w.heap.size 13)) (by kernel_rfl) (by kernel_rfl) (by kernel_rfl) (rpu_g23_5 l p w z7) trivial
   have rpu_g23_c6:rpu_g23C l p w z7 zz 6:=cert_reg (v:=(pt w.heap.size 14)) (by kernel_rfl) (by kernel_rfl) (by kernel_rfl) (rpu_g23_6 l p w z7) trivial
   have rpu_g23_c7:rpu_g23C l p w z7 zz 7:=cert_reg (v:=.int .i64 l.say.ep) (by kernel_rfl) (by kernel_rfl) (by kernel_rfl) (rpu_g23_7 l p w z7) trivial
   have rpu_g23_c8:rpu_g23C l p w z7 zz 8:=cert_call (v:=.agg #[.int .i64 33,.string (numT l.say.ep)]) (by kernel_rfl) (by kernel_rfl) (rpu_g23_8 l p w z7) trivial (fun j wx _ hm=>refField_ok 33 l.say.ep (by omega) wx)
   have rpu_g23_c9:rpu_g23C l p w z7 zz 9:=cert_reg (v:=(pt w.heap.size 13)) (by kernel_rfl) (by kernel_rfl) (by kernel_rfl) (rpu_g23_9 l p w z7) trivial
   have rpu_g23_c10:rpu_g23C l p w z7 zz 10:=cert_reg (v:=(pt w.heap.size 15)) (by kernel_rfl) (by kernel_rfl) (by kernel_rfl) (rpu_g23_10 l p w z7) trivial
   have rpu_g23_c11:rpu_g23C l p w z7 zz 11:=cert_reg (v:=.int .i64 l.say.ou) (by kernel_rfl) (by kernel_rfl) (by kernel_rfl) (rpu_g23_11 l p w z7) trivial
   have rpu_g23_c12:rpu_g23C l p w z7 zz 12:=cert_call (v:=.agg #[.int .i64 34,.string (numT l.say.ou)]) (by kernel_rfl) (by kernel_rfl) (rpu_g23_12 l p w z7) trivial (fun j wx _ hm=>refField_ok 34 l.say.ou (by omega) wx)
   have rpu_g23_c13:rpu_g23C l p w z7 zz 13:=cert_reg (v:=.string p) (by kernel_rfl) (by kernel_rfl) (by kernel_rfl) (rpu_g23_13 l p w z7) trivial
   have rpu_g23_c14:rpu_g23C l p w z7 zz 14:=cert_reg (v:=.agg #[.int .i64 35,.string p]) (by kernel_rfl) (by kernel_rfl) (by kernel_rfl) (rpu_g23_14 l p w z7) trivial
   have rpu_g23_c15:rpu_g23C l p w z7 zz 15:=cert_newK (h:=oh0) (ob:=[]) (rs:=[]) (e:=60) (L:=4) (l:=(rpu_v5 l p)) (by kernel_rfl) (by kernel_rfl) (by kernel_rfl) (fun sz=>by kernel_rfl) trivial
   have rpu_g23_c16:rpu_g23C l p w z7 zz 16:=cert_app (k0:=0) (k:=15) (q:=1) (t:=54) (ty:=54) (e:=60) (zv:=.agg #[.int .i64 0,.string ⟨#[]⟩]) (by_:=24) (d0:=40) (d:=55) (List.mem_of_getElem? (i:=0) (by kernel_rfl)) (by kernel_rfl) (by kernel_rfl) (List.mem_of_getElem? (i:=1) (by kernel_rfl)) (by kernel_rfl) (by kernel_rfl) (by decide) (by kernel_rfl) (by kernel_rfl) (fun g=>by kernel_rfl) (fun g=>by kernel_rfl) (by kernel_rfl) (by kernel_rfl) (by kernel_rfl) (by decide) (fun j bk h_=>by
     match j,h_ with
     | 0,h_=>
      have h':some (rpu_b1 l w z7) = some bk:=h_
      cases h'
      rfl
     | j + 1,h_=>
      have h':(none:Option (List Bk)) = some bk:=h_
      cases h') rfl rfl (by decide) (by decide) (by decide)
   have rpu_g23_c17:rpu_g23C l p w z7 zz 17:=cert_asg (k:=16) (d:=56) (List.mem_of_getElem? (i:=0) (by kernel_rfl)) (by kernel_rfl) (by kernel_rfl) (by decide) (by kernel_rfl) (by kernel_rfl) (fun v=>by kernel_rfl) (fun v=>by kernel_rfl)
   refine holds_mixV (vs:=(rpu_g23v l p w z7)) (ms:=(rpu_g23m l w z7)) (stg:=(rpu_g23t)) (J:=0) (sl':=[(2,.string ⟨#[]⟩),(3,.int .i64 0)]) (bk':=(rpu_b1 l w z7)) (CApp 15 16 17 zz 4 (rpu_v5 l p) 60 2 (3 + 4) ((rpu_v2 l) ++ (rpu_v5 l p))) [2,3] 17 5 (by kernel_rfl) (by kernel_rfl) (by kernel_rfl) (capp_stable (by intro b hb_; simp at hb_; rcases hb_ with rfl | rfl <;> (simp; try omega))) (certs_of [0,1,2,3,4,5,6,7,8,9,10,11,12,13,14,15,16,17] (by kernel_rfl) ⟨rpu_g23_c0,rpu_g23_c1,rpu_g23_c2,rpu_g23_c3,rpu_g23_c4,rpu_g23_c5,rpu_g23_c6,rpu_g23_c7,rpu_g23_c8,rpu_g23_c9,rpu_g23_c10,rpu_g23_c11,rpu_g23_c12,rpu_g23_c13,rpu_g23_c14,rpu_g23_c15,rpu_g23_c16,rpu_g23_c17,trivial⟩) (by kernel_rfl) (by kernel_rfl) rfl (of_decide_eq_true (by kernel_rfl)) (by kernel_rfl) (by kernel_rfl) (by kernel_rfl) (fun v_ W1 hC hzW hm1=>?_)
   rcases hC with ⟨h_,_⟩ | ⟨_,g5,c5,rfl,hg5,hO⟩
   ·exact absurd h_ (by decide)
   have hO5:=hO.below (show w.heap.size ≤ zz by omega)
   have eF:(rpu_v2 l) ++ (rpu_v5 l p) = fldV (fldsM l):=by unfold fldsM; rw [ha,hp]; rfl
   have hnT:∀ x,ownS (some ⟨g5,0,none⟩) x → ¬ Turned (rpu_b1 l w z7) x:=by
    rintro x ⟨a,ha_,hx⟩ ⟨b,hb_,_,he⟩
    simp only [Option.some.injEq] at ha_
    subst ha_
    simp at hb_
    rcases hb_ with rfl | rfl <;> simp at he hx <;> omega
   refine hgo 6 [oh0] [2,3,92] [] [] [.ops [1,1,1,1,1,0] [1,2,3,4,5,6],.code [1,1,1,1,1,1]] ⟨[(2,.string ⟨#[]⟩),(3,.int .i64 0),(92,.slice (some ⟨g5,0,none⟩) 7 c5)],(rpu_b1 l w z7),[],W1.heap.size⟩ trivial ?_
   refine hcp (.tuple #[.string (layT (fldsM l)),.int .i64 0]) 24 [.slice (some ⟨g5,0,none⟩) 7 c5] (some 93) [] trivial rfl (fun wx hm=>by have h_:=refLay_ok (some ⟨g5,0,none⟩) 7 c5 w.heap.size (fldsM l) hlo wx (by rw [← eF]; exact hO5.kept hm.kept hnT); exact h_) fun z25 hz25=>?_
   replace hz25:W1.heap.size ≤ z25:=hz25
   refine hgo 12 [oh0,oh0,oh0,oh0,oh0,oh0] [2,3,97] [] [] [.ops [1,1,1,1,1,1,0] [1,2,3,4,5,6],.code [1,1,1,1,1,1,1]] ⟨[(2,.string ⟨#[]⟩),(3,.int .i64 0),(97,.string (layT (fldsM l)))],(rpu_b1 l w z7),[],z25⟩ trivial ?_
   refine hcp (.tuple #[.string (frameT (layT (fldsM l))),.int .i64 0]) 25 [.string (layT (fldsM l))] (some 98) [] trivial rfl (fun wx hm=>refFrame_ok (layT (fldsM l)) (by rw [len_layT]; omega) wx) fun z27 hz27=>?_
   replace hz27:z25 ≤ z27:=hz27
   refine hgo 15 [oh0,oh0,oh0,oh0,oh0,oh0,oh0,oh0] [2,3] [] [] [.code [1,1,1,1,1,1,1,1]] ⟨[(2,.string (frameT (layT (fldsM l)))),(3,.int .i64 0)],(rpu_b1 l w z7),[],z27⟩ trivial ?_
   refine hrt [] [.string (frameT (layT (fldsM l))),.int .i64 0] [] ?_
   intro wx hm
   exact ⟨by unfold putT putE; rw [h]; rfl,(MemOk.bck hm1 hm).kept⟩
end Go.Proofs.Ytkffgdfbdmgncaa
