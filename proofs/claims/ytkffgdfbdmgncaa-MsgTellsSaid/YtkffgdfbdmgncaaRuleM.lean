import Derived.Test.YtkffgdfbdmgncaaEngS
namespace Go.Proofs.Ytkffgdfbdmgncaa
open Go.RowKit
structure RecM where
 used:Bool
 (fence de ds:Int)
 block:ByteArray
 op:Bool
 (ie is mask:Int)
 staged:ByteArray
structure AskM where
 (kind stripe epoch seq mask node oe os:Int)
 block:ByteArray
structure SayR where
 (st ep ou:Int)
 rc:RecM
def RecM.cells (r:RecM):List Value:=[.bool r.used,.int .i64 r.fence,.int .i64 r.de,.int .i64 r.ds,.string r.block,.bool r.op,.int .i64 r.ie,.int .i64 r.is,.int .i64 r.mask,.string r.staged]
def AskM.cells (q:AskM):List Value:=[.int .i64 q.kind,.int .i64 q.stripe,.int .i64 q.epoch,.int .i64 q.seq,.int .i64 q.mask,.int .i64 q.node,.int .i64 q.oe,.int .i64 q.os,.string q.block]
def SayR.cells (s:SayR):List Value:=[.int .i64 s.st,.int .i64 s.ep,.int .i64 s.ou] ++ s.rc.cells
def noText:ByteArray:=⟨#[]⟩
def blankR (f:Int):RecM:=⟨false,f,0,0,noText,false,0,0,0,noText⟩
structure RecOk (r:RecM):Prop where
 fence:0 ≤ r.fence ∧ r.fence ≤ 16777215
 de:0 ≤ r.de ∧ r.de ≤ 16777215
 ds:0 ≤ r.ds ∧ r.ds ≤ 16777215
 ie:0 ≤ r.ie ∧ r.ie ≤ 16777215
 is:0 ≤ r.is ∧ r.is ≤ 16777215
 mask:0 ≤ r.mask ∧ r.mask ≤ 63
 block:r.used = true → r.block.size = 16
 none:r.used = false → r.block = noText ∧ r.op = false ∧ r.de = 0 ∧ r.ds = 0
 staged:r.op = true → r.staged.size = 16
 shut:r.op = false → r.staged = noText ∧ r.ie = 0 ∧ r.is = 0 ∧ r.mask = 0
structure AskOk (q:AskM):Prop where
 kind:1 ≤ q.kind ∧ q.kind ≤ 10
 stripe:0 ≤ q.stripe ∧ q.stripe ≤ 7
 epoch:q.kind ≠ 8 → 1 ≤ q.epoch ∧ q.epoch ≤ 100
 epoch8:q.kind = 8 → q.epoch = 0
 seq:q.kind = 4 ∨ q.kind = 5 ∨ q.kind = 7 → 1 ≤ q.seq ∧ q.seq ≤ 6
 seq0:¬ (q.kind = 4 ∨ q.kind = 5 ∨ q.kind = 7) → q.seq = 0
 mask4:q.kind = 4 → 1 ≤ q.mask ∧ q.mask ≤ 63
 mask6:q.kind = 6 → 0 ≤ q.mask ∧ q.mask ≤ 1
 mask0:¬ (q.kind = 4 ∨ q.kind = 6) → q.mask = 0
 block:q.kind = 4 ∨ q.kind = 7 → q.block.size = 16
 block0:¬ (q.kind = 4 ∨ q.kind = 7) → q.block = noText
 old:q.kind = 6 → 0 ≤ q.oe ∧ q.oe < q.epoch ∧ 0 ≤ q.os ∧ q.os ≤ 6
 old0:q.kind ≠ 6 → q.oe = 0 ∧ q.os = 0
 node:q.kind = 9 → 0 ≤ q.node ∧ q.node ≤ 5
 node0:q.kind ≠ 9 → q.node = 0
end Go.Proofs.Ytkffgdfbdmgncaa
