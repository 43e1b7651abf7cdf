/- Layer 9 in plain Lean: records, asks, answers, and what an ask makes of a record. No program. -/
import Derived.Test.YtmeddeaphmpjcaaEngS
namespace Go.Proofs.Ytmeddeaphmpjcaa
open Go.RowKit

structure RecM where
  used : Bool
  (fence de ds : Int)
  block : ByteArray
  op : Bool
  (ie is mask : Int)
  staged : ByteArray
structure AskM where
  (kind stripe epoch seq mask node oe os : Int)
  block : ByteArray
structure SayR where
  (st ep ou : Int)
  rc : RecM
def RecM.cells (r : RecM) : List Value := [.bool r.used, .int .i64 r.fence, .int .i64 r.de, .int .i64 r.ds, .string r.block, .bool r.op, .int .i64 r.ie, .int .i64 r.is, .int .i64 r.mask, .string r.staged]
def AskM.cells (q : AskM) : List Value := [.int .i64 q.kind, .int .i64 q.stripe, .int .i64 q.epoch, .int .i64 q.seq, .int .i64 q.mask, .int .i64 q.node, .int .i64 q.oe, .int .i64 q.os, .string q.block]
def SayR.cells (s : SayR) : List Value := [.int .i64 s.st, .int .i64 s.ep, .int .i64 s.ou] ++ s.rc.cells
def outV (p : RecM × SayR) : Value := .tuple #[.agg p.1.cells.toArray, .agg p.2.cells.toArray]

def noText : ByteArray := ⟨#[]⟩
def blankR (f : Int) : RecM := ⟨false, f, 0, 0, noText, false, 0, 0, 0, noText⟩
def sayM (r : RecM) (s : Int) : RecM × SayR := (r, ⟨s, r.fence, 0, blankR 0⟩)
def tagEq (a b c d : Int) : Bool := (a == c) && ((b == d) && true)
def beforeM (a b c d : Int) : Bool := decide (a < c) || ((a == c) && decide (b < d))
def closedM (r : RecM) : RecM := ⟨r.used, r.fence, r.de, r.ds, r.block, false, 0, 0, 0, noText⟩
def doneM (r : RecM) : RecM := ⟨r.used, r.fence, r.ie, r.is, r.staged, false, 0, 0, 0, noText⟩
def followM (r : RecM) (q : AskM) : RecM × SayR := (⟨r.used, q.epoch, r.de, r.ds, r.block, r.op, r.ie, r.is, r.mask, r.staged⟩, ⟨1, q.epoch, 0, ⟨r.used, q.epoch, r.de, r.ds, r.block, r.op, r.ie, r.is, r.mask, r.staged⟩⟩)
def fenceM (r : RecM) (q : AskM) : RecM × SayR :=
  bif decide (q.epoch < r.fence) then sayM r 2
  else followM r q
def readM (r : RecM) : RecM × SayR := (r, ⟨1, r.fence, 0, closedM r⟩)
def newM (r : RecM) (q : AskM) : RecM := ⟨true, r.fence, q.epoch, q.seq, q.block, false, 0, 0, 0, noText⟩
def putM (r : RecM) (q : AskM) : RecM × SayR :=
  bif r.used then
    bif tagEq r.de r.ds q.epoch q.seq then sayM r 1
    else bif beforeM r.de r.ds q.epoch q.seq then sayM (newM r q) 1 else sayM r 4
  else sayM (newM r q) 1
def openM (r : RecM) (q : AskM) : RecM := ⟨r.used, r.fence, r.de, r.ds, r.block, true, q.epoch, q.seq, q.mask, q.block⟩
def prepareM (r : RecM) (q : AskM) : RecM × SayR :=
  bif tagEq r.de r.ds q.epoch q.seq then sayM r 1
  else bif beforeM r.de r.ds q.epoch q.seq then
    bif r.op then bif tagEq r.ie r.is q.epoch q.seq then sayM r 1 else sayM r 3
    else sayM (openM r q) 1
  else sayM r 4
def commitM (r : RecM) (q : AskM) : RecM × SayR :=
  bif r.op then
    bif tagEq r.ie r.is q.epoch q.seq then sayM (doneM r) 1
    else bif tagEq r.de r.ds q.epoch q.seq then sayM r 1 else sayM r 4
  else bif tagEq r.de r.ds q.epoch q.seq then sayM r 1 else sayM r 4
def settleM (r : RecM) (q : AskM) : RecM × SayR :=
  bif r.op then
    bif tagEq r.ie r.is q.oe q.os then
      bif q.mask == 1 then sayM (doneM r) 1 else sayM (closedM r) 1
    else sayM r 1
  else sayM r 1
/-- which function it is that answers -/
def chosenF (r : RecM) (q : AskM) : Nat :=
  bif q.kind == 1 then 0
  else bif q.epoch != r.fence then 1
  else bif q.kind == 7 then 2
  else bif r.used then
    bif q.kind == 2 then 4 else bif q.kind == 4 then 5 else bif q.kind == 5 then 6 else bif q.kind == 6 then 7 else 8
  else 3
def turnM (r : RecM) (q : AskM) : RecM × SayR :=
  match chosenF r q with
  | 0 => fenceM r q
  | 1 => sayM r 2
  | 2 => putM r q
  | 3 => sayM r 5
  | 4 => readM r
  | 5 => prepareM r q
  | 6 => commitM r q
  | 7 => settleM r q
  | _ => sayM r 1
def applyM (r : RecM) (q : AskM) : RecM × SayR := bif decide (q.kind > 7) then (r, ⟨6, 0, 0, blankR 0⟩) else turnM r q

/-- a record that may be -/
structure RecOk (r : RecM) : Prop where
  fence : 0 ≤ r.fence ∧ r.fence ≤ 16777215
  de : 0 ≤ r.de ∧ r.de ≤ 16777215
  ds : 0 ≤ r.ds ∧ r.ds ≤ 16777215
  ie : 0 ≤ r.ie ∧ r.ie ≤ 16777215
  is : 0 ≤ r.is ∧ r.is ≤ 16777215
  mask : 0 ≤ r.mask ∧ r.mask ≤ 63
  block : r.used = true → r.block.size = 16
  none : r.used = false → r.block = noText ∧ r.op = false ∧ r.de = 0 ∧ r.ds = 0
  staged : r.op = true → r.staged.size = 16
  shut : r.op = false → r.staged = noText ∧ r.ie = 0 ∧ r.is = 0 ∧ r.mask = 0
theorem RecOk.shape {r : RecM} (h : RecOk r) : (r.used = false ∧ r = blankR r.fence) ∨ (r.used = true ∧ r.op = false ∧ r = ⟨true, r.fence, r.de, r.ds, r.block, false, 0, 0, 0, noText⟩ ∧ r.block.size = 16) ∨ (r.used = true ∧ r.op = true ∧ r.block.size = 16 ∧ r.staged.size = 16) := by
  obtain ⟨u, f, de, ds, b, o, ie, is, m, s⟩ := r
  cases u with
  | false =>
    obtain ⟨h1, h2, h3, h4⟩ := h.none rfl
    obtain ⟨h5, h6, h7, h8⟩ := h.shut h2
    exact .inl ⟨rfl, by simp_all [blankR]⟩
  | true =>
    cases o with
    | false =>
      obtain ⟨h5, h6, h7, h8⟩ := h.shut rfl
      exact .inr (.inl ⟨rfl, rfl, by simp_all, h.block rfl⟩)
    | true => exact .inr (.inr ⟨rfl, rfl, h.block rfl, h.staged rfl⟩)
/-- an ask that may be, of those that come of a raw one -/
structure AskOk (q : AskM) : Prop where
  kind : 1 ≤ q.kind ∧ q.kind ≤ 10
  stripe : 0 ≤ q.stripe ∧ q.stripe ≤ 7
  epoch : q.kind ≠ 8 → 1 ≤ q.epoch ∧ q.epoch ≤ 100
  epoch8 : q.kind = 8 → q.epoch = 0
  seq : q.kind = 4 ∨ q.kind = 5 ∨ q.kind = 7 → 1 ≤ q.seq ∧ q.seq ≤ 6
  seq0 : ¬ (q.kind = 4 ∨ q.kind = 5 ∨ q.kind = 7) → q.seq = 0
  mask4 : q.kind = 4 → 1 ≤ q.mask ∧ q.mask ≤ 63
  mask6 : q.kind = 6 → 0 ≤ q.mask ∧ q.mask ≤ 1
  mask0 : ¬ (q.kind = 4 ∨ q.kind = 6) → q.mask = 0
  block : q.kind = 4 ∨ q.kind = 7 → q.block.size = 16
  block0 : ¬ (q.kind = 4 ∨ q.kind = 7) → q.block = noText
  old : q.kind = 6 → 0 ≤ q.oe ∧ q.oe < q.epoch ∧ 0 ≤ q.os ∧ q.os ≤ 6
  old0 : q.kind ≠ 6 → q.oe = 0 ∧ q.os = 0
  node : q.kind = 9 → 0 ≤ q.node ∧ q.node ≤ 5
  node0 : q.kind ≠ 9 → q.node = 0
end Go.Proofs.Ytmeddeaphmpjcaa
