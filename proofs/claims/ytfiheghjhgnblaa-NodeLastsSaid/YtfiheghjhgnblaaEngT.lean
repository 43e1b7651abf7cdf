import Derived.Test.YtfiheghjhgnblaaEngS
namespace Go.Proofs.Ytfiheghjhgnblaa
open Go.RowKit
structure RecM where
 used:Bool
 (fence de ds:Int)
 block:ByteArray
 op:Bool
 (ie is mask:Int)
 staged:ByteArray
structure AskM where
 (kind stripe epoch seq mask node oe os:Int)
 block:ByteArray
structure SayR where
 (st ep ou:Int)
 rc:RecM
def RecM.cells (r:RecM):List Value:=[.bool r.used,.int .i64 r.fence,.int .i64 r.de,.int .i64 r.ds,.string r.block,.bool r.op,.int .i64 r.ie,.int .i64 r.is,.int .i64 r.mask,.string r.staged]
def SayR.cells (s:SayR):List Value:=[.int .i64 s.st,.int .i64 s.ep,.int .i64 s.ou] ++ s.rc.cells
def outV (p:RecM × SayR):Value:=.tuple #[.agg p.1.cells.toArray,.agg p.2.cells.toArray]
def noText:ByteArray:=⟨#[]⟩
def blankR (f:Int):RecM:=⟨false,f,0,0,noText,false,0,0,0,noText⟩
def sayM (r:RecM) (s:Int):RecM × SayR:=(r,⟨s,r.fence,0,blankR 0⟩)
def tagEq (a b c d:Int):Bool:=(a == c) && ((b == d) && true)
def beforeM (a b c d:Int):Bool:=decide (a < c) || ((a == c) && decide (b < d))
def closedM (r:RecM):RecM:=⟨r.used,r.fence,r.de,r.ds,r.block,false,0,0,0,noText⟩
def doneM (r:RecM):RecM:=⟨r.used,r.fence,r.ie,r.is,r.staged,false,0,0,0,noText⟩
def followM (r:RecM) (q:AskM):RecM × SayR:=(⟨r.used,q.epoch,r.de,r.ds,r.block,r.op,r.ie,r.is,r.mask,r.staged⟩,⟨1,q.epoch,0,⟨r.used,q.epoch,r.de,r.ds,r.block,r.op,r.ie,r.is,r.mask,r.staged⟩⟩)
def fenceM (r:RecM) (q:AskM):RecM × SayR:=
 bif decide (q.epoch < r.fence) then sayM r 2
 else followM r q
def readM (r:RecM):RecM × SayR:=(r,⟨1,r.fence,0,closedM r⟩)
def newM (r:RecM) (q:AskM):RecM:=⟨true,r.fence,q.epoch,q.seq,q.block,false,0,0,0,noText⟩
def putM (r:RecM) (q:AskM):RecM × SayR:=
 bif r.used then
  bif tagEq r.de r.ds q.epoch q.seq then sayM r 1
  else bif beforeM r.de r.ds q.epoch q.seq then sayM (newM r q) 1 else sayM r 4
 else sayM (newM r q) 1
def openM (r:RecM) (q:AskM):RecM:=⟨r.used,r.fence,r.de,r.ds,r.block,true,q.epoch,q.seq,q.mask,q.block⟩
def prepareM (r:RecM) (q:AskM):RecM × SayR:=
 bif tagEq r.de r.ds q.epoch q.seq then sayM r 1
 else bif beforeM r.de r.ds q.epoch q.seq then
  bif r.op then bif tagEq r.ie r.is q.epoch q.seq then sayM r 1 else sayM r 3
  else sayM (openM r q) 1
 else sayM r 4
def commitM (r:RecM) (q:AskM):RecM × SayR:=
 bif r.op then
  bif tagEq r.ie r.is q.epoch q.seq then sayM (doneM r) 1
  else bif tagEq r.de r.ds q.epoch q.seq then sayM r 1 else sayM r 4
 else bif tagEq r.de r.ds q.epoch q.seq then sayM r 1 else sayM r 4
def settleM (r:RecM) (q:AskM):RecM × SayR:=
 bif r.op then
  bif tagEq r.ie r.is q.oe q.os then
   bif q.mask == 1 then sayM (doneM r) 1 else sayM (closedM r) 1
  else sayM r 1
 else sayM r 1
def chosenF (r:RecM) (q:AskM):Nat:=
 bif q.kind == 1 then 0
 else bif q.epoch != r.fence then 1
 else bif q.kind == 7 then 2
 else bif r.used then
  bif q.kind == 2 then 4 else bif q.kind == 4 then 5 else bif q.kind == 5 then 6 else bif q.kind == 6 then 7 else 8
 else 3
def turnM (r:RecM) (q:AskM):RecM × SayR:=
 match chosenF r q with
 | 0=>fenceM r q
 | 1=>sayM r 2
 | 2=>putM r q
 | 3=>sayM r 5
 | 4=>readM r
 | 5=>prepareM r q
 | 6=>commitM r q
 | 7=>settleM r q
 | _=>sayM r 1
def applyM (r:RecM) (q:AskM):RecM × SayR:=bif decide (q.kind > 7) then (r,⟨6,0,0,blankR 0⟩) else turnM r q
structure RecOk (r:RecM):Prop where
 fence:0 ≤ r.fence ∧ r.fence ≤ 16777215
 de:0 ≤ r.de ∧ r.de ≤ 16777215
 ds:0 ≤ r.ds ∧ r.ds ≤ 16777215
 ie:0 ≤ r.ie ∧ r.ie ≤ 16777215
 is:0 ≤ r.is ∧ r.is ≤ 16777215
 mask:0 ≤ r.mask ∧ r.mask ≤ 63
 block:r.used = true → r.block.size = 16
 none:r.used = false → r.block = noText ∧ r.op = false ∧ r.de = 0 ∧ r.ds = 0
 staged:r.op = true → r.staged.size = 16
 shut:r.op = false → r.staged = noText ∧ r.ie = 0 ∧ r.is = 0 ∧ r.mask = 0
structure AskOk (q:AskM):Prop where
 kind:1 ≤ q.kind ∧ q.kind ≤ 10
 stripe:0 ≤ q.stripe ∧ q.stripe ≤ 7
 epoch:q.kind ≠ 8 → 1 ≤ q.epoch ∧ q.epoch ≤ 100
 epoch8:q.kind = 8 → q.epoch = 0
 seq:q.kind = 4 ∨ q.kind = 5 ∨ q.kind = 7 → 1 ≤ q.seq ∧ q.seq ≤ 6
 seq0:¬ (q.kind = 4 ∨ q.kind = 5 ∨ q.kind = 7) → q.seq = 0
 mask4:q.kind = 4 → 1 ≤ q.mask ∧ q.mask ≤ 63
 mask6:q.kind = 6 → 0 ≤ q.mask ∧ q.mask ≤ 1
 mask0:¬ (q.kind = 4 ∨ q.kind = 6) → q.mask = 0
 block:q.kind = 4 ∨ q.kind = 7 → q.block.size = 16
 block0:¬ (q.kind = 4 ∨ q.kind = 7) → q.block = noText
 old:q.kind = 6 → 0 ≤ q.oe ∧ q.oe < q.epoch ∧ 0 ≤ q.os ∧ q.os ≤ 6
 old0:q.kind ≠ 6 → q.oe = 0 ∧ q.os = 0
 node:q.kind = 9 → 0 ≤ q.node ∧ q.node ≤ 5
 node0:q.kind ≠ 9 → q.node = 0
end Go.Proofs.Ytfiheghjhgnblaa
namespace Go.Proofs.Ytfiheghjhgnblaa
open Go.RowKit
section
variable {D:List Deferred} {P:Program} {body:Code} {n:Nat} {w0:World} {S:Nat → Prop} {Q:Exit → Act → World → Prop}
theorem holds_anyStart {p:List Nat} {k:List KI} {st:St} {f:Nat} {ls:Array Bool} (hc:isDraw (getCode body p) = true) (hm:P.follows .mixedOrders = true) (hz:(opsOf (getCode body p)).size = f)
  (hl:Array.replicate (opsOf (getCode body p)).size false = ls) (hh:Holds D P body n w0 S Q (.any p f ls :: k) st):Holds D P body n w0 S Q (.code p :: k) st:=by
 intro a w hf hmm
 obtain ⟨id,hc⟩:=draw_of hc
 subst hl hz
 simp only [sem]
 rw [hc]
 refine wp_region_any hm ?_
 have h1:=hh a { w with drawn:=w.drawn + 1 } hf ⟨hmm.size,hmm.blk,hmm.own,hmm.nd,hmm.kept.drew,hmm.win⟩
 simpa only [sem] using h1
def Edge (D:List Deferred) (P:Program) (body:Code) (n:Nat) (w0:World) (S:Nat → Prop) (Q:Exit → Act → World → Prop) (p:List Nat) (f:Nat) (k:List KI) (ls:Array Bool) (st:St) (i:Nat):Prop:=
 ∀ a w,FrOk D n st.sl a → MemOk w0 S st.bk st.wn st.sz w → wpOp P (opsOf (getCode body p)) (sem P body Q k) i (wpAny P .any (opsOf (getCode body p)) (sem P body Q k) f (ls.setIfInBounds i true)) a w
theorem edge_op {p:List Nat} {f i:Nat} {k:List KI} {ls ls':Array Bool} {st st':St} {h0:OH} {ob:List Prop} {rs:List (Nat × Nat × Nat)} {ks:List Nat} (hl:ls.setIfInBounds i true = ls')
  (h:Out.prune ks (opStep P n (opsOf (getCode body p)) st i h0) = some ⟨ob,dupR rs,st'⟩) (ho:All ob) (hh:Holds D P body n w0 S Q (.any p f ls' :: k) st'):Edge D P body n w0 S Q p f k ls st i:=by
 subst hl
 intro a w hf hm
 obtain ⟨r,hr,h1,h2,h3⟩:=out_prune h
 dsimp only at h1 h2 h3
 refine opStep_sound hr (by rw [h1]; exact ho) (by rw [h2]; exact dupR_good rs) hf hm (fun a' w' hf' hm'=>?_)
 have h4:=holds_prune (D:=D) (P:=P) (body:=body) (n:=n) (w0:=w0) (S:=S) (Q:=Q) (k:=.any p f (ls.setIfInBounds i true) :: k) (st:=r.st) ks [] (by rw [h3]; exact hh) a' w' hf' hm'
 simpa only [sem] using h4
theorem eop {p:List Nat} {f i:Nat} {k:List KI} {ls:Array Bool} {st:St} (ls':Array Bool) (h0:OH) (ks:List Nat) (ob:List Prop) (rs:List (Nat × Nat × Nat)) (st':St) (ho:All ob) (hh:Holds D P body n w0 S Q (.any p f ls' :: k) st') (hl:ls.setIfInBounds i true = ls':=by kernel_rfl)
  (h:Out.prune ks (opStep P n (opsOf (getCode body p)) st i h0) = some ⟨ob,dupR rs,st'⟩:=by kernel_rfl):Edge D P body n w0 S Q p f k ls st i:=edge_op hl h ho hh
theorem holds_anyAll {p:List Nat} {f:Nat} {k:List KI} {ls:Array Bool} {st:St} {l:List Nat} (hr:Region.ready .any (opsOf (getCode body p)) ls = l) (hne:l ≠ []) (h:All (l.map (Edge D P body n w0 S Q p f k ls st))) :
  Holds D P body n w0 S Q (.any p (f + 1) ls :: k) st:=by
 intro a w hf hm
 simp only [sem]
 refine ⟨fun h'=>absurd (hr.symm.trans h') hne,fun i hi=>?_⟩
 rw [hr] at hi
 have h2:∀ (l:List Nat),All (l.map (Edge D P body n w0 S Q p f k ls st)) → ∀ i ∈ l,Edge D P body n w0 S Q p f k ls st i:=by
  intro l
  induction l with
  | nil=>intro _ i hi; cases hi
  | cons x l ih=>
   intro h i hi
   rcases List.mem_cons.1 hi with rfl | hi
   ·exact h.1
   ·exact ih h.2 i hi
 exact h2 l h i hi a w hf hm
end
end Go.Proofs.Ytfiheghjhgnblaa
