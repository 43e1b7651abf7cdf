/- strings.Repeat at this program: the library's contract, laid; 64 noughts. -/
import Derived.Shelf.Strings.Repeat
import Derived.Test.YtfiheghjhgnblaaEngV
import Derived.Test.YtfiheghjhgnblaaProg
namespace Go.Proofs.Ytfiheghjhgnblaa
open Go.Shelf Go.RowKit

def Try.lays105_ren : Go.Shelf.Ren := ⟨fun | 105 => 37 | 212 => 50 | 99 => 51 | 165 => 52 | 166 => 53 | 170 => 54 | 169 => 55 | 263 => 72 | 264 => 73 | 206 => 74 | 240 => 75 | 241 => 76 | 276 => 94 | 277 => 95 | n => n, fun | 9 => 9 | 3 => 3 | 4 => 4 | 20 => 20 | 0 => 0 | 46 => 96 | 109 => 97 | 5 => 5 | 72 => 102 | 76 => 106 | 51 => 119 | 146 => 120 | 53 => 122 | 148 => 123 | 70 => 100 | 37 => 53 | 75 => 105 | 127 => 125 | 164 => 139 | 80 => 108 | n => n, fun | n => n⟩
theorem Try.lays105 : Go.Proofs.Lays.n105 Try.prog Try.lays105_ren := {
  mixed := by kernel_rfl
  f99 := Try.func51.trans (congrArg some (by kernel_rfl))
  f105 := Try.func37.trans (congrArg some (by kernel_rfl))
  f165 := Try.func52.trans (congrArg some (by kernel_rfl))
  f166 := Try.func53.trans (congrArg some (by kernel_rfl))
  f169 := Try.func55.trans (congrArg some (by kernel_rfl))
  f170 := Try.func54.trans (congrArg some (by kernel_rfl))
  f206 := Try.func74.trans (congrArg some (by kernel_rfl))
  f212 := Try.func50.trans (congrArg some (by kernel_rfl))
  f240 := Try.func75.trans (congrArg some (by kernel_rfl))
  f241 := Try.func76.trans (congrArg some (by kernel_rfl))
  f263 := Try.func72.trans (congrArg some (by kernel_rfl))
  f264 := Try.func73.trans (congrArg some (by kernel_rfl))
  f276 := Try.func94.trans (congrArg some (by kernel_rfl))
  f277 := Try.func95.trans (congrArg some (by kernel_rfl))
  t0 := Try.underlying0
  a0 := Try.isAgg0
  z0 := Try.sizeOf0
  v0 := Try.zeroValue0
  t3 := Try.underlying3
  a3 := Try.isAgg3
  z3 := Try.sizeOf3
  v3 := Try.zeroValue3
  t4 := Try.underlying4
  a4 := Try.isAgg4
  z4 := Try.sizeOf4
  v4 := Try.zeroValue4
  t5 := Try.underlying5
  a5 := Try.isAgg5
  z5 := Try.sizeOf5
  v5 := Try.zeroValue5
  t9 := Try.underlying9
  a9 := Try.isAgg9
  z9 := Try.sizeOf9
  v9 := Try.zeroValue9
  t20 := Try.underlying20
  a20 := Try.isAgg20
  z20 := Try.sizeOf20
  v20 := Try.zeroValue20
  t37 := Try.underlying53
  a37 := Try.isAgg53
  z37 := Try.sizeOf53
  v37 := Try.zeroValue53
  t46 := Try.underlying96
  a46 := Try.isAgg96
  z46 := Try.sizeOf96
  v46 := Try.zeroValue96
  t51 := Try.underlying119
  a51 := Try.isAgg119
  z51 := Try.sizeOf119
  v51 := Try.zeroValue119
  t53 := Try.underlying122
  a53 := Try.isAgg122
  z53 := Try.sizeOf122
  v53 := Try.zeroValue122
  t70 := Try.underlying100
  a70 := Try.isAgg100
  z70 := Try.sizeOf100
  v70 := Try.zeroValue100
  t72 := Try.underlying102
  a72 := Try.isAgg102
  z72 := Try.sizeOf102
  v72 := Try.zeroValue102
  t75 := Try.underlying105
  a75 := Try.isAgg105
  z75 := Try.sizeOf105
  v75 := Try.zeroValue105
  t76 := Try.underlying106
  a76 := Try.isAgg106
  z76 := Try.sizeOf106
  v76 := Try.zeroValue106
  t109 := Try.underlying97
  a109 := Try.isAgg97
  z109 := Try.sizeOf97
  v109 := Try.zeroValue97
  t127 := Try.underlying125
  a127 := Try.isAgg125
  z127 := Try.sizeOf125
  v127 := Try.zeroValue125
  t146 := Try.underlying120
  a146 := Try.isAgg120
  z146 := Try.sizeOf120
  v146 := Try.zeroValue120
  t148 := Try.underlying123
  a148 := Try.isAgg123
  z148 := Try.sizeOf123
  v148 := Try.zeroValue123
  t164 := Try.underlying139
  a164 := Try.isAgg139
  z164 := Try.sizeOf139
  v164 := Try.zeroValue139 }
theorem Try.Builder_Extra_105 : Builder.Extra Try.prog Try.lays105_ren := {
  sizeBuilder := by kernel_rfl
  liesBuilder := by kernel_rfl
  t5 := Try.underlying5
  a5 := Try.isAgg5
  z5 := Try.sizeOf5
  v5 := Try.zeroValue5
  infoByte := by kernel_rfl
  cellsByte := by kernel_rfl
  sizeByte := by kernel_rfl
  neB5 := by decide }
theorem Try.strings_Repeat (s : ByteArray) (c : Nat) (w : World) (hc : c ≤ 9223372036854775807) (hlen : s.size * c ≤ 140737488355328) :
    Calls Try.prog 37 #[.string s, .int .i64 c] w fun e w' => e = .returned (.string ⟨(Lib.repeatL s.data.toList c).toArray⟩) ∧ Below w.heap.size w w' := Any.strings_Repeat Try.lays105 Try.Builder_Extra_105 s c w hc hlen
theorem zeros_any (w : World) : Calls Try.prog 37 #[.string ⟨#[0]⟩, .int .i64 64] w (RetK (.string (bytesI (List.replicate 64 0))) w) := by
  refine (Try.strings_Repeat ⟨#[0]⟩ 64 w (by decide) (by decide)).mono fun e w' h => ?_
  refine ⟨h.1.trans ?_, Kept.of_below h.2 (fun k h1 h2 => absurd h1 (Nat.not_lt.2 h2))⟩
  rw [show (Lib.repeatL (⟨#[0]⟩ : ByteArray).data.toList 64) = List.replicate 64 0 from by kernel_rfl, show bytesI (List.replicate 64 0) = ⟨(List.replicate 64 (0 : UInt8)).toArray⟩ from by kernel_rfl]
theorem zeros16_any (w : World) : Calls Try.prog 37 #[.string ⟨#[0]⟩, .int .i64 16] w (RetK (.string (bytesI (List.replicate 16 0))) w) := by
  refine (Try.strings_Repeat ⟨#[0]⟩ 16 w (by decide) (by decide)).mono fun e w' h => ?_
  refine ⟨h.1.trans ?_, Kept.of_below h.2 (fun k h1 h2 => absurd h1 (Nat.not_lt.2 h2))⟩
  rw [show (Lib.repeatL (⟨#[0]⟩ : ByteArray).data.toList 16) = List.replicate 16 0 from by kernel_rfl, show bytesI (List.replicate 16 0) = ⟨(List.replicate 16 (0 : UInt8)).toArray⟩ from by kernel_rfl]
end Go.Proofs.Ytfiheghjhgnblaa
