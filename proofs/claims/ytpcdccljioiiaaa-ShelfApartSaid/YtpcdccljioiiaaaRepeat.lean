/- strings.Repeat at this program: the library's contract, laid; 64 noughts. -/
import Derived.Shelf.Strings.Repeat
import Derived.Test.YtpcdccljioiiaaaEngV
import Derived.Test.YtpcdccljioiiaaaProg
namespace Go.Proofs.Ytpcdccljioiiaaa
open Go.Shelf Go.RowKit

def Try.lays105_ren : Go.Shelf.Ren := ⟨fun | 105 => 28 | 212 => 42 | 99 => 43 | 165 => 44 | 166 => 45 | 170 => 46 | 169 => 47 | 263 => 50 | 264 => 51 | 206 => 52 | 240 => 53 | 241 => 54 | 276 => 55 | 277 => 56 | n => n, fun | 9 => 9 | 3 => 3 | 4 => 4 | 20 => 20 | 0 => 0 | 46 => 62 | 109 => 83 | 5 => 5 | 72 => 88 | 76 => 92 | 51 => 97 | 146 => 98 | 53 => 100 | 148 => 101 | 70 => 86 | 37 => 40 | 75 => 91 | 127 => 103 | 164 => 104 | 80 => 94 | n => n, fun | n => n⟩
theorem Try.lays105 : Go.Proofs.Lays.n105 Try.prog Try.lays105_ren := {
  mixed := by kernel_rfl
  f99 := Try.func43.trans (congrArg some (by kernel_rfl))
  f105 := Try.func28.trans (congrArg some (by kernel_rfl))
  f165 := Try.func44.trans (congrArg some (by kernel_rfl))
  f166 := Try.func45.trans (congrArg some (by kernel_rfl))
  f169 := Try.func47.trans (congrArg some (by kernel_rfl))
  f170 := Try.func46.trans (congrArg some (by kernel_rfl))
  f206 := Try.func52.trans (congrArg some (by kernel_rfl))
  f212 := Try.func42.trans (congrArg some (by kernel_rfl))
  f240 := Try.func53.trans (congrArg some (by kernel_rfl))
  f241 := Try.func54.trans (congrArg some (by kernel_rfl))
  f263 := Try.func50.trans (congrArg some (by kernel_rfl))
  f264 := Try.func51.trans (congrArg some (by kernel_rfl))
  f276 := Try.func55.trans (congrArg some (by kernel_rfl))
  f277 := Try.func56.trans (congrArg some (by kernel_rfl))
  t0 := Try.underlying0
  a0 := Try.isAgg0
  z0 := Try.sizeOf0
  v0 := Try.zeroValue0
  t3 := Try.underlying3
  a3 := Try.isAgg3
  z3 := Try.sizeOf3
  v3 := Try.zeroValue3
  t4 := Try.underlying4
  a4 := Try.isAgg4
  z4 := Try.sizeOf4
  v4 := Try.zeroValue4
  t5 := Try.underlying5
  a5 := Try.isAgg5
  z5 := Try.sizeOf5
  v5 := Try.zeroValue5
  t9 := Try.underlying9
  a9 := Try.isAgg9
  z9 := Try.sizeOf9
  v9 := Try.zeroValue9
  t20 := Try.underlying20
  a20 := Try.isAgg20
  z20 := Try.sizeOf20
  v20 := Try.zeroValue20
  t37 := Try.underlying40
  a37 := Try.isAgg40
  z37 := Try.sizeOf40
  v37 := Try.zeroValue40
  t46 := Try.underlying62
  a46 := Try.isAgg62
  z46 := Try.sizeOf62
  v46 := Try.zeroValue62
  t51 := Try.underlying97
  a51 := Try.isAgg97
  z51 := Try.sizeOf97
  v51 := Try.zeroValue97
  t53 := Try.underlying100
  a53 := Try.isAgg100
  z53 := Try.sizeOf100
  v53 := Try.zeroValue100
  t70 := Try.underlying86
  a70 := Try.isAgg86
  z70 := Try.sizeOf86
  v70 := Try.zeroValue86
  t72 := Try.underlying88
  a72 := Try.isAgg88
  z72 := Try.sizeOf88
  v72 := Try.zeroValue88
  t75 := Try.underlying91
  a75 := Try.isAgg91
  z75 := Try.sizeOf91
  v75 := Try.zeroValue91
  t76 := Try.underlying92
  a76 := Try.isAgg92
  z76 := Try.sizeOf92
  v76 := Try.zeroValue92
  t109 := Try.underlying83
  a109 := Try.isAgg83
  z109 := Try.sizeOf83
  v109 := Try.zeroValue83
  t127 := Try.underlying103
  a127 := Try.isAgg103
  z127 := Try.sizeOf103
  v127 := Try.zeroValue103
  t146 := Try.underlying98
  a146 := Try.isAgg98
  z146 := Try.sizeOf98
  v146 := Try.zeroValue98
  t148 := Try.underlying101
  a148 := Try.isAgg101
  z148 := Try.sizeOf101
  v148 := Try.zeroValue101
  t164 := Try.underlying104
  a164 := Try.isAgg104
  z164 := Try.sizeOf104
  v164 := Try.zeroValue104 }
theorem Try.Builder_Extra_105 : Builder.Extra Try.prog Try.lays105_ren := {
  sizeBuilder := by kernel_rfl
  liesBuilder := by kernel_rfl
  t5 := Try.underlying5
  a5 := Try.isAgg5
  z5 := Try.sizeOf5
  v5 := Try.zeroValue5
  infoByte := by kernel_rfl
  cellsByte := by kernel_rfl
  sizeByte := by kernel_rfl
  neB5 := by decide }
theorem Try.strings_Repeat (s : ByteArray) (c : Nat) (w : World) (hc : c ≤ 9223372036854775807) (hlen : s.size * c ≤ 140737488355328) :
    Calls Try.prog 28 #[.string s, .int .i64 c] w fun e w' => e = .returned (.string ⟨(Lib.repeatL s.data.toList c).toArray⟩) ∧ Below w.heap.size w w' := Any.strings_Repeat Try.lays105 Try.Builder_Extra_105 s c w hc hlen
theorem zeros_any (w : World) : Calls Try.prog 28 #[.string ⟨#[0]⟩, .int .i64 64] w (RetK (.string (bytesI (List.replicate 64 0))) w) := by
  refine (Try.strings_Repeat ⟨#[0]⟩ 64 w (by decide) (by decide)).mono fun e w' h => ?_
  refine ⟨h.1.trans ?_, Kept.of_below h.2 (fun k h1 h2 => absurd h1 (Nat.not_lt.2 h2))⟩
  rw [show (Lib.repeatL (⟨#[0]⟩ : ByteArray).data.toList 64) = List.replicate 64 0 from by kernel_rfl, show bytesI (List.replicate 64 0) = ⟨(List.replicate 64 (0 : UInt8)).toArray⟩ from by kernel_rfl]
end Go.Proofs.Ytpcdccljioiiaaa
