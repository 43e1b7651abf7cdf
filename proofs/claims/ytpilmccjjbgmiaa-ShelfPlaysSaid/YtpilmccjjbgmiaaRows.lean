/-
  No cell of these rows narrows 'for every input' (looked for: loops, veiled, ifaces, maps, wideKeys, modest, calm, conditions, laid).
  DERIVED. THE GIVEN ROWS OF THIS SEAT. 8 by the template 'for every input the law returns true; each argument reads behind the call as it read before'; 0 by the template 'total and deterministic' (their statements: YtpilmccjjbgmiaaTotals.lean).
  GIVEN WITH THE SEED: the statements are not yours to turn. If you find one false, say at which input.
  Laid BY PROGRAM, IN A SANDBOX (cutbox-rows.mjs): the forced cells as the released guide's own fill.sh prints them over the translation 6e095dd2a2cb363b… (all of the seat's roots in one cut). By AI agents, Wed Nov 11 2026. No macro, syntax, notation, axiom, sorry.
-/
import Derived.Test.YtpilmccjjbgmiaaChecked
import GoSem.Claim
import GoSem.ClaimJoined
import GoSem.ClaimMapViews
import Derived.JoinedTies
import Derived.KernelRfl
namespace Go.Proofs.Ytpilmccjjbgmiaa
/- THE CELL 'sum', in the pinned program and in every row, IS THE sha256 OF THE DUMP (.gsa) THAT YtpilmccjjbgmiaaProg.lean LOADS. Nothing in Lean hashes anything: it is a label: what it is worth is what the hold of that sum in a sandbox is worth. -/
noncomputable def Try.pinned : Pinned := { name := "ytpilmccjjbgmiaa", sum := "6e095dd2a2cb363b99e528840ec444c97470adcd9c89e20d97f39d2364b123ed", checked := Try.checked }
namespace Rows
def none {H : Type} : Left H := { results := [], args := [] }

/-- 'windlasslaw08.ShelfTells': WHATEVER THE INPUT: true; the input reads as it did. -/
def shelfTellsSpec : ChangeSpec := { name := "shelfTells", fn := fun _ => fun
  | [d1, d2, d3] => { results := [.lit (.bool true)], args := [d1, d2, d3] }
  | _ => none }
def shelfTellsRow : OpenClaim := { program := "ytpilmccjjbgmiaa", sum := "6e095dd2a2cb363b99e528840ec444c97470adcd9c89e20d97f39d2364b123ed", func := "windlass/windlasslaw08.ShelfTells", spec := "shelfTells", inPlace := ["internal/abi.NoEscape", "internal/bytealg.MakeNoZero"], unfollowed := true, recurses := true, apart := false }
def ShelfTellsSaid : Prop := shelfTellsRow.holds Try.pinned (OpenSpec.ofChange shelfTellsSpec)

/-- ITS FALSE NEIGHBOUR: 'it returns false'. Refute it at one input. -/
def shelfTellsWrong : ChangeSpec := { name := "shelfTells", fn := fun _ => fun
  | [d1, d2, d3] => { results := [.lit (.bool false)], args := [d1, d2, d3] }
  | _ => none }
def ShelfTellsWrongFalsely : Prop := shelfTellsRow.holds Try.pinned (OpenSpec.ofChange shelfTellsWrong)

/-- 'windlasslaw08.ShelfPacks': WHATEVER THE INPUT: true; the input reads as it did. -/
def shelfPacksSpec : ChangeSpec := { name := "shelfPacks", fn := fun _ => fun
  | [d1, d2, d3] => { results := [.lit (.bool true)], args := [d1, d2, d3] }
  | _ => none }
def shelfPacksRow : OpenClaim := { program := "ytpilmccjjbgmiaa", sum := "6e095dd2a2cb363b99e528840ec444c97470adcd9c89e20d97f39d2364b123ed", func := "windlass/windlasslaw08.ShelfPacks", spec := "shelfPacks", inPlace := ["internal/abi.NoEscape", "internal/bytealg.MakeNoZero"], unfollowed := true, recurses := true, apart := false }
def ShelfPacksSaid : Prop := shelfPacksRow.holds Try.pinned (OpenSpec.ofChange shelfPacksSpec)

/-- ITS FALSE NEIGHBOUR: 'it returns false'. Refute it at one input. -/
def shelfPacksWrong : ChangeSpec := { name := "shelfPacks", fn := fun _ => fun
  | [d1, d2, d3] => { results := [.lit (.bool false)], args := [d1, d2, d3] }
  | _ => none }
def ShelfPacksWrongFalsely : Prop := shelfPacksRow.holds Try.pinned (OpenSpec.ofChange shelfPacksWrong)

/-- 'windlasslaw08.ShelfBack': WHATEVER THE INPUT: true; the input reads as it did. -/
def shelfBackSpec : ChangeSpec := { name := "shelfBack", fn := fun _ => fun
  | [d1, d2, d3, d4] => { results := [.lit (.bool true)], args := [d1, d2, d3, d4] }
  | _ => none }
def shelfBackRow : OpenClaim := { program := "ytpilmccjjbgmiaa", sum := "6e095dd2a2cb363b99e528840ec444c97470adcd9c89e20d97f39d2364b123ed", func := "windlass/windlasslaw08.ShelfBack", spec := "shelfBack", inPlace := ["internal/abi.NoEscape", "internal/bytealg.MakeNoZero"], unfollowed := true, recurses := true, apart := false }
def ShelfBackSaid : Prop := shelfBackRow.holds Try.pinned (OpenSpec.ofChange shelfBackSpec)

/-- ITS FALSE NEIGHBOUR: 'it returns false'. Refute it at one input. -/
def shelfBackWrong : ChangeSpec := { name := "shelfBack", fn := fun _ => fun
  | [d1, d2, d3, d4] => { results := [.lit (.bool false)], args := [d1, d2, d3, d4] }
  | _ => none }
def ShelfBackWrongFalsely : Prop := shelfBackRow.holds Try.pinned (OpenSpec.ofChange shelfBackWrong)

/-- 'windlasslaw08.ShelfTurned': WHATEVER THE INPUT: true; the input reads as it did. -/
def shelfTurnedSpec : ChangeSpec := { name := "shelfTurned", fn := fun _ => fun
  | [d1, d2, d3, d4] => { results := [.lit (.bool true)], args := [d1, d2, d3, d4] }
  | _ => none }
def shelfTurnedRow : OpenClaim := { program := "ytpilmccjjbgmiaa", sum := "6e095dd2a2cb363b99e528840ec444c97470adcd9c89e20d97f39d2364b123ed", func := "windlass/windlasslaw08.ShelfTurned", spec := "shelfTurned", inPlace := ["internal/abi.NoEscape", "internal/bytealg.MakeNoZero"], unfollowed := true, recurses := true, apart := false }
def ShelfTurnedSaid : Prop := shelfTurnedRow.holds Try.pinned (OpenSpec.ofChange shelfTurnedSpec)

/-- ITS FALSE NEIGHBOUR: 'it returns false'. Refute it at one input. -/
def shelfTurnedWrong : ChangeSpec := { name := "shelfTurned", fn := fun _ => fun
  | [d1, d2, d3, d4] => { results := [.lit (.bool false)], args := [d1, d2, d3, d4] }
  | _ => none }
def ShelfTurnedWrongFalsely : Prop := shelfTurnedRow.holds Try.pinned (OpenSpec.ofChange shelfTurnedWrong)

/-- 'windlasslaw08.ShelfPlaced': WHATEVER THE INPUT: true; the input reads as it did. -/
def shelfPlacedSpec : ChangeSpec := { name := "shelfPlaced", fn := fun _ => fun
  | [d1, d2, d3] => { results := [.lit (.bool true)], args := [d1, d2, d3] }
  | _ => none }
def shelfPlacedRow : OpenClaim := { program := "ytpilmccjjbgmiaa", sum := "6e095dd2a2cb363b99e528840ec444c97470adcd9c89e20d97f39d2364b123ed", func := "windlass/windlasslaw08.ShelfPlaced", spec := "shelfPlaced", inPlace := ["internal/abi.NoEscape", "internal/bytealg.MakeNoZero"], unfollowed := true, recurses := true, apart := false }
def ShelfPlacedSaid : Prop := shelfPlacedRow.holds Try.pinned (OpenSpec.ofChange shelfPlacedSpec)

/-- ITS FALSE NEIGHBOUR: 'it returns false'. Refute it at one input. -/
def shelfPlacedWrong : ChangeSpec := { name := "shelfPlaced", fn := fun _ => fun
  | [d1, d2, d3] => { results := [.lit (.bool false)], args := [d1, d2, d3] }
  | _ => none }
def ShelfPlacedWrongFalsely : Prop := shelfPlacedRow.holds Try.pinned (OpenSpec.ofChange shelfPlacedWrong)

/-- 'windlasslaw08.ShelfApart': WHATEVER THE INPUT: true; the input reads as it did. -/
def shelfApartSpec : ChangeSpec := { name := "shelfApart", fn := fun _ => fun
  | [d1, d2] => { results := [.lit (.bool true)], args := [d1, d2] }
  | _ => none }
def shelfApartRow : OpenClaim := { program := "ytpilmccjjbgmiaa", sum := "6e095dd2a2cb363b99e528840ec444c97470adcd9c89e20d97f39d2364b123ed", func := "windlass/windlasslaw08.ShelfApart", spec := "shelfApart", inPlace := ["internal/abi.NoEscape", "internal/bytealg.MakeNoZero"], unfollowed := true, recurses := true, apart := false }
def ShelfApartSaid : Prop := shelfApartRow.holds Try.pinned (OpenSpec.ofChange shelfApartSpec)

/-- ITS FALSE NEIGHBOUR: 'it returns false'. Refute it at one input. -/
def shelfApartWrong : ChangeSpec := { name := "shelfApart", fn := fun _ => fun
  | [d1, d2] => { results := [.lit (.bool false)], args := [d1, d2] }
  | _ => none }
def ShelfApartWrongFalsely : Prop := shelfApartRow.holds Try.pinned (OpenSpec.ofChange shelfApartWrong)

/-- 'windlasslaw08.ShelfLasts': WHATEVER THE INPUT: true; the input reads as it did. -/
def shelfLastsSpec : ChangeSpec := { name := "shelfLasts", fn := fun _ => fun
  | [d1, d2, d3, d4] => { results := [.lit (.bool true)], args := [d1, d2, d3, d4] }
  | _ => none }
def shelfLastsRow : OpenClaim := { program := "ytpilmccjjbgmiaa", sum := "6e095dd2a2cb363b99e528840ec444c97470adcd9c89e20d97f39d2364b123ed", func := "windlass/windlasslaw08.ShelfLasts", spec := "shelfLasts", inPlace := ["internal/abi.NoEscape", "internal/bytealg.MakeNoZero"], unfollowed := true, recurses := true, apart := false }
def ShelfLastsSaid : Prop := shelfLastsRow.holds Try.pinned (OpenSpec.ofChange shelfLastsSpec)

/-- ITS FALSE NEIGHBOUR: 'it returns false'. Refute it at one input. -/
def shelfLastsWrong : ChangeSpec := { name := "shelfLasts", fn := fun _ => fun
  | [d1, d2, d3, d4] => { results := [.lit (.bool false)], args := [d1, d2, d3, d4] }
  | _ => none }
def ShelfLastsWrongFalsely : Prop := shelfLastsRow.holds Try.pinned (OpenSpec.ofChange shelfLastsWrong)

/-- 'windlasslaw08.ShelfPlays': WHATEVER THE INPUT: true; the input reads as it did. -/
def shelfPlaysSpec : ChangeSpec := { name := "shelfPlays", fn := fun _ => fun
  | [d1, d2, d3] => { results := [.lit (.bool true)], args := [d1, d2, d3] }
  | _ => none }
def shelfPlaysRow : OpenClaim := { program := "ytpilmccjjbgmiaa", sum := "6e095dd2a2cb363b99e528840ec444c97470adcd9c89e20d97f39d2364b123ed", func := "windlass/windlasslaw08.ShelfPlays", spec := "shelfPlays", inPlace := ["internal/abi.NoEscape", "internal/bytealg.MakeNoZero"], unfollowed := true, recurses := true, apart := false }
def ShelfPlaysSaid : Prop := shelfPlaysRow.holds Try.pinned (OpenSpec.ofChange shelfPlaysSpec)

/-- ITS FALSE NEIGHBOUR: 'it returns false'. Refute it at one input. -/
def shelfPlaysWrong : ChangeSpec := { name := "shelfPlays", fn := fun _ => fun
  | [d1, d2, d3] => { results := [.lit (.bool false)], args := [d1, d2, d3] }
  | _ => none }
def ShelfPlaysWrongFalsely : Prop := shelfPlaysRow.holds Try.pinned (OpenSpec.ofChange shelfPlaysWrong)

/- THE SECOND FORM. 'bulk': how many values and letters a reading holds, each counted each time it is reached (what is shared counts as often as it is met; a slice's spare places count too). A statement '..UptoSaid' is the law's where the arguments, and the package variables that the reading takes, are together of bulk at most 1048576: NARROWER than '..Said'. Prove '..Said' where nothing that the law and all that it calls make is longer than what came in: it says more and counts as full. Else prove '..UptoSaid'. A law counts once. -/
mutual
def uptoBulk {H : Type} : DataW H → Nat
  | .lit (.string bytes) => bytes.length + 1
  | .lit _ => 1
  | .nil => 1
  | .ptr d => uptoBulk d + 1
  | .slice elems spare => uptoBulkAll elems + uptoBulkAll spare + 1
  | .agg parts => uptoBulkAll parts + 1
  | .iface _ d => uptoBulk d + 1
  | .map entries => uptoBulkEntries entries + 1
  | .held _ => 1
def uptoBulkAll {H : Type} : List (DataW H) → Nat
  | [] => 0
  | d :: r => uptoBulk d + uptoBulkAll r
def uptoBulkEntries {H : Type} : List (Lit × DataW H) → Nat
  | [] => 0
  | x :: r => uptoBulkEntry x + uptoBulkEntries r
def uptoBulkEntry {H : Type} : Lit × DataW H → Nat
  | (.string bytes, d) => bytes.length + uptoBulk d + 1
  | (_, d) => uptoBulk d + 1
 end
def uptoSmall : (H : Type) → List (DataW H) → Bool := fun _ ds => decide (uptoBulkAll ds ≤ 1048576)
def OpenSpec.upto (s : _root_.Go.ChangeSpec) : _root_.Go.OpenSpec := { _root_.Go.OpenSpec.ofChange s with cond := some uptoSmall }

/-- 'windlasslaw08.ShelfTells', WHERE WHAT IT READS IS OF BULK AT MOST 1048576: true; the input reads as it did. -/
def shelfTellsUptoRow : OpenClaim := { program := "ytpilmccjjbgmiaa", sum := "6e095dd2a2cb363b99e528840ec444c97470adcd9c89e20d97f39d2364b123ed", func := "windlass/windlasslaw08.ShelfTells", spec := "shelfTells", inPlace := ["internal/abi.NoEscape", "internal/bytealg.MakeNoZero"], unfollowed := true, recurses := true, apart := false, narrowed := true }
def ShelfTellsUptoSaid : Prop := shelfTellsUptoRow.holds Try.pinned (OpenSpec.upto shelfTellsSpec)

/-- 'windlasslaw08.ShelfPacks', WHERE WHAT IT READS IS OF BULK AT MOST 1048576: true; the input reads as it did. -/
def shelfPacksUptoRow : OpenClaim := { program := "ytpilmccjjbgmiaa", sum := "6e095dd2a2cb363b99e528840ec444c97470adcd9c89e20d97f39d2364b123ed", func := "windlass/windlasslaw08.ShelfPacks", spec := "shelfPacks", inPlace := ["internal/abi.NoEscape", "internal/bytealg.MakeNoZero"], unfollowed := true, recurses := true, apart := false, narrowed := true }
def ShelfPacksUptoSaid : Prop := shelfPacksUptoRow.holds Try.pinned (OpenSpec.upto shelfPacksSpec)

/-- 'windlasslaw08.ShelfBack', WHERE WHAT IT READS IS OF BULK AT MOST 1048576: true; the input reads as it did. -/
def shelfBackUptoRow : OpenClaim := { program := "ytpilmccjjbgmiaa", sum := "6e095dd2a2cb363b99e528840ec444c97470adcd9c89e20d97f39d2364b123ed", func := "windlass/windlasslaw08.ShelfBack", spec := "shelfBack", inPlace := ["internal/abi.NoEscape", "internal/bytealg.MakeNoZero"], unfollowed := true, recurses := true, apart := false, narrowed := true }
def ShelfBackUptoSaid : Prop := shelfBackUptoRow.holds Try.pinned (OpenSpec.upto shelfBackSpec)

/-- 'windlasslaw08.ShelfTurned', WHERE WHAT IT READS IS OF BULK AT MOST 1048576: true; the input reads as it did. -/
def shelfTurnedUptoRow : OpenClaim := { program := "ytpilmccjjbgmiaa", sum := "6e095dd2a2cb363b99e528840ec444c97470adcd9c89e20d97f39d2364b123ed", func := "windlass/windlasslaw08.ShelfTurned", spec := "shelfTurned", inPlace := ["internal/abi.NoEscape", "internal/bytealg.MakeNoZero"], unfollowed := true, recurses := true, apart := false, narrowed := true }
def ShelfTurnedUptoSaid : Prop := shelfTurnedUptoRow.holds Try.pinned (OpenSpec.upto shelfTurnedSpec)

/-- 'windlasslaw08.ShelfPlaced', WHERE WHAT IT READS IS OF BULK AT MOST 1048576: true; the input reads as it did. -/
def shelfPlacedUptoRow : OpenClaim := { program := "ytpilmccjjbgmiaa", sum := "6e095dd2a2cb363b99e528840ec444c97470adcd9c89e20d97f39d2364b123ed", func := "windlass/windlasslaw08.ShelfPlaced", spec := "shelfPlaced", inPlace := ["internal/abi.NoEscape", "internal/bytealg.MakeNoZero"], unfollowed := true, recurses := true, apart := false, narrowed := true }
def ShelfPlacedUptoSaid : Prop := shelfPlacedUptoRow.holds Try.pinned (OpenSpec.upto shelfPlacedSpec)

/-- 'windlasslaw08.ShelfApart', WHERE WHAT IT READS IS OF BULK AT MOST 1048576: true; the input reads as it did. -/
def shelfApartUptoRow : OpenClaim := { program := "ytpilmccjjbgmiaa", sum := "6e095dd2a2cb363b99e528840ec444c97470adcd9c89e20d97f39d2364b123ed", func := "windlass/windlasslaw08.ShelfApart", spec := "shelfApart", inPlace := ["internal/abi.NoEscape", "internal/bytealg.MakeNoZero"], unfollowed := true, recurses := true, apart := false, narrowed := true }
def ShelfApartUptoSaid : Prop := shelfApartUptoRow.holds Try.pinned (OpenSpec.upto shelfApartSpec)

/-- 'windlasslaw08.ShelfLasts', WHERE WHAT IT READS IS OF BULK AT MOST 1048576: true; the input reads as it did. -/
def shelfLastsUptoRow : OpenClaim := { program := "ytpilmccjjbgmiaa", sum := "6e095dd2a2cb363b99e528840ec444c97470adcd9c89e20d97f39d2364b123ed", func := "windlass/windlasslaw08.ShelfLasts", spec := "shelfLasts", inPlace := ["internal/abi.NoEscape", "internal/bytealg.MakeNoZero"], unfollowed := true, recurses := true, apart := false, narrowed := true }
def ShelfLastsUptoSaid : Prop := shelfLastsUptoRow.holds Try.pinned (OpenSpec.upto shelfLastsSpec)

/-- 'windlasslaw08.ShelfPlays', WHERE WHAT IT READS IS OF BULK AT MOST 1048576: true; the input reads as it did. -/
def shelfPlaysUptoRow : OpenClaim := { program := "ytpilmccjjbgmiaa", sum := "6e095dd2a2cb363b99e528840ec444c97470adcd9c89e20d97f39d2364b123ed", func := "windlass/windlasslaw08.ShelfPlays", spec := "shelfPlays", inPlace := ["internal/abi.NoEscape", "internal/bytealg.MakeNoZero"], unfollowed := true, recurses := true, apart := false, narrowed := true }
def ShelfPlaysUptoSaid : Prop := shelfPlaysUptoRow.holds Try.pinned (OpenSpec.upto shelfPlaysSpec)

end Rows
end Go.Proofs.Ytpilmccjjbgmiaa
