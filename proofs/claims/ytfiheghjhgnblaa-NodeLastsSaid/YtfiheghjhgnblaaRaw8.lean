import Derived.Test.YtfiheghjhgnblaaEngG
namespace Go.Proofs.Ytfiheghjhgnblaa
open Go.RowKit
def I64 (n:Int):Prop:=-9223372036854775808 ≤ n ∧ n ≤ 9223372036854775807
structure Raw9 where
 (kind stripe epoch seq mask node oe os:Int)
 block:ByteArray
structure Raw9Ok (x:Raw9):Prop where
 kind:I64 x.kind
 stripe:I64 x.stripe
 epoch:I64 x.epoch
 seq:I64 x.seq
 mask:I64 x.mask
 node:I64 x.node
 oe:I64 x.oe
 os:I64 x.os
end Go.Proofs.Ytfiheghjhgnblaa
namespace Go.Proofs.Ytfiheghjhgnblaa
open Go.RowKit
end Go.Proofs.Ytfiheghjhgnblaa
