/- strings.Repeat at this program: the library's contract, laid; 64 noughts. -/
import Derived.Shelf.Strings.Repeat
import Derived.Test.YtkffgdfbdmgncaaEngV
import Derived.Test.YtkffgdfbdmgncaaProg
namespace Go.Proofs.Ytkffgdfbdmgncaa
open Go.Shelf Go.RowKit

def Try.lays105_ren : Go.Shelf.Ren := ⟨fun | 105 => 63 | 212 => 68 | 99 => 69 | 165 => 70 | 166 => 71 | 170 => 72 | 169 => 73 | 263 => 75 | 264 => 76 | 206 => 77 | 240 => 78 | 241 => 79 | 276 => 80 | 277 => 81 | n => n, fun | 9 => 9 | 3 => 3 | 4 => 4 | 20 => 20 | 0 => 0 | 46 => 80 | 109 => 102 | 5 => 5 | 72 => 107 | 76 => 111 | 51 => 116 | 146 => 117 | 53 => 119 | 148 => 120 | 70 => 105 | 37 => 50 | 75 => 110 | 127 => 122 | 164 => 123 | 80 => 114 | n => n, fun | n => n⟩
theorem Try.lays105 : Go.Proofs.Lays.n105 Try.prog Try.lays105_ren := {
  mixed := by kernel_rfl
  f99 := Try.func69.trans (congrArg some (by kernel_rfl))
  f105 := Try.func63.trans (congrArg some (by kernel_rfl))
  f165 := Try.func70.trans (congrArg some (by kernel_rfl))
  f166 := Try.func71.trans (congrArg some (by kernel_rfl))
  f169 := Try.func73.trans (congrArg some (by kernel_rfl))
  f170 := Try.func72.trans (congrArg some (by kernel_rfl))
  f206 := Try.func77.trans (congrArg some (by kernel_rfl))
  f212 := Try.func68.trans (congrArg some (by kernel_rfl))
  f240 := Try.func78.trans (congrArg some (by kernel_rfl))
  f241 := Try.func79.trans (congrArg some (by kernel_rfl))
  f263 := Try.func75.trans (congrArg some (by kernel_rfl))
  f264 := Try.func76.trans (congrArg some (by kernel_rfl))
  f276 := Try.func80.trans (congrArg some (by kernel_rfl))
  f277 := Try.func81.trans (congrArg some (by kernel_rfl))
  t0 := Try.underlying0
  a0 := Try.isAgg0
  z0 := Try.sizeOf0
  v0 := Try.zeroValue0
  t3 := Try.underlying3
  a3 := Try.isAgg3
  z3 := Try.sizeOf3
  v3 := Try.zeroValue3
  t4 := Try.underlying4
  a4 := Try.isAgg4
  z4 := Try.sizeOf4
  v4 := Try.zeroValue4
  t5 := Try.underlying5
  a5 := Try.isAgg5
  z5 := Try.sizeOf5
  v5 := Try.zeroValue5
  t9 := Try.underlying9
  a9 := Try.isAgg9
  z9 := Try.sizeOf9
  v9 := Try.zeroValue9
  t20 := Try.underlying20
  a20 := Try.isAgg20
  z20 := Try.sizeOf20
  v20 := Try.zeroValue20
  t37 := Try.underlying50
  a37 := Try.isAgg50
  z37 := Try.sizeOf50
  v37 := Try.zeroValue50
  t46 := Try.underlying80
  a46 := Try.isAgg80
  z46 := Try.sizeOf80
  v46 := Try.zeroValue80
  t51 := Try.underlying116
  a51 := Try.isAgg116
  z51 := Try.sizeOf116
  v51 := Try.zeroValue116
  t53 := Try.underlying119
  a53 := Try.isAgg119
  z53 := Try.sizeOf119
  v53 := Try.zeroValue119
  t70 := Try.underlying105
  a70 := Try.isAgg105
  z70 := Try.sizeOf105
  v70 := Try.zeroValue105
  t72 := Try.underlying107
  a72 := Try.isAgg107
  z72 := Try.sizeOf107
  v72 := Try.zeroValue107
  t75 := Try.underlying110
  a75 := Try.isAgg110
  z75 := Try.sizeOf110
  v75 := Try.zeroValue110
  t76 := Try.underlying111
  a76 := Try.isAgg111
  z76 := Try.sizeOf111
  v76 := Try.zeroValue111
  t109 := Try.underlying102
  a109 := Try.isAgg102
  z109 := Try.sizeOf102
  v109 := Try.zeroValue102
  t127 := Try.underlying122
  a127 := Try.isAgg122
  z127 := Try.sizeOf122
  v127 := Try.zeroValue122
  t146 := Try.underlying117
  a146 := Try.isAgg117
  z146 := Try.sizeOf117
  v146 := Try.zeroValue117
  t148 := Try.underlying120
  a148 := Try.isAgg120
  z148 := Try.sizeOf120
  v148 := Try.zeroValue120
  t164 := Try.underlying123
  a164 := Try.isAgg123
  z164 := Try.sizeOf123
  v164 := Try.zeroValue123 }
theorem Try.Builder_Extra_105 : Builder.Extra Try.prog Try.lays105_ren := {
  sizeBuilder := by kernel_rfl
  liesBuilder := by kernel_rfl
  t5 := Try.underlying5
  a5 := Try.isAgg5
  z5 := Try.sizeOf5
  v5 := Try.zeroValue5
  infoByte := by kernel_rfl
  cellsByte := by kernel_rfl
  sizeByte := by kernel_rfl
  neB5 := by decide }
theorem Try.strings_Repeat (s : ByteArray) (c : Nat) (w : World) (hc : c ≤ 9223372036854775807) (hlen : s.size * c ≤ 140737488355328) :
    Calls Try.prog 63 #[.string s, .int .i64 c] w fun e w' => e = .returned (.string ⟨(Lib.repeatL s.data.toList c).toArray⟩) ∧ Below w.heap.size w w' := Any.strings_Repeat Try.lays105 Try.Builder_Extra_105 s c w hc hlen
theorem zeros_any (w : World) : Calls Try.prog 63 #[.string ⟨#[0]⟩, .int .i64 64] w (RetK (.string (bytesI (List.replicate 64 0))) w) := by
  refine (Try.strings_Repeat ⟨#[0]⟩ 64 w (by decide) (by decide)).mono fun e w' h => ?_
  refine ⟨h.1.trans ?_, Kept.of_below h.2 (fun k h1 h2 => absurd h1 (Nat.not_lt.2 h2))⟩
  rw [show (Lib.repeatL (⟨#[0]⟩ : ByteArray).data.toList 64) = List.replicate 64 0 from by kernel_rfl, show bytesI (List.replicate 64 0) = ⟨(List.replicate 64 (0 : UInt8)).toArray⟩ from by kernel_rfl]
end Go.Proofs.Ytkffgdfbdmgncaa
