/- A raw record of layer 8's law. -/
import Derived.Test.YtpilmccjjbgmiaaRaw9
namespace Go.Proofs.Ytpilmccjjbgmiaa
open Go.RowKit
structure Raw8 where
  (flags fence epoch seq ie is mask : Int)
  (block staged : ByteArray)
structure Raw8Ok (x : Raw8) : Prop where
  flags : I64 x.flags
  fence : I64 x.fence
  epoch : I64 x.epoch
  seq : I64 x.seq
  ie : I64 x.ie
  is : I64 x.is
  mask : I64 x.mask
end Go.Proofs.Ytpilmccjjbgmiaa
