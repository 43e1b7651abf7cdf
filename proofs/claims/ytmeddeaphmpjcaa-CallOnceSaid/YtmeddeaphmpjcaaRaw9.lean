/- A raw ask of layer 9's law, and the right one that it is. -/
import Derived.Test.YtmeddeaphmpjcaaEngG
namespace Go.Proofs.Ytmeddeaphmpjcaa
open Go.RowKit
def I64 (n : Int) : Prop := -9223372036854775808 ≤ n ∧ n ≤ 9223372036854775807
structure Raw9 where
  (kind stripe epoch seq mask node oe os : Int)
  block : ByteArray
structure Raw9Ok (x : Raw9) : Prop where
  kind : I64 x.kind
  stripe : I64 x.stripe
  epoch : I64 x.epoch
  seq : I64 x.seq
  mask : I64 x.mask
  node : I64 x.node
  oe : I64 x.oe
  os : I64 x.os
def Raw9.cells (x : Raw9) : List Value := [.int .i64 x.kind, .int .i64 x.stripe, .int .i64 x.epoch, .int .i64 x.seq, .int .i64 x.mask, .int .i64 x.node, .int .i64 x.oe, .int .i64 x.os, .string x.block]
end Go.Proofs.Ytmeddeaphmpjcaa
