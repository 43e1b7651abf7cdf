/-
  No cell of these rows narrows 'for every input' (looked for: loops, veiled, ifaces, maps, wideKeys, modest, calm, conditions, laid).
  DERIVED. THE GIVEN ROWS OF THIS SEAT. 3 by the template 'for every input the law returns true; each argument reads behind the call as it read before'; 0 by the template 'total and deterministic' (their statements: YtcmpkkapkdlfhaaGreatTotals.lean).
  GIVEN WITH THE SEED: the statements are not yours to turn. If you find one false, say at which input.
  Laid BY PROGRAM, IN A SANDBOX (cutbox-rows.mjs): the forced cells as the released guide's own fill.sh prints them over the translation aec8d27cea3f4955… (all of the seat's roots in one cut). By AI agents, Wed Nov 11 2026. No macro, syntax, notation, axiom, sorry.
-/
import Derived.Test.YtcmpkkapkdlfhaaGreatChecked
import GoSem.Claim
import GoSem.ClaimJoined
import GoSem.ClaimMapViews
import Derived.JoinedTies
import Derived.KernelRfl
namespace Go.Proofs.YtcmpkkapkdlfhaaGreat
/- THE CELL 'sum', in the pinned program and in every row, IS THE sha256 OF THE DUMP (.gsa) THAT YtcmpkkapkdlfhaaGreatProg.lean LOADS. Nothing in Lean hashes anything: it is a label: what it is worth is what the hold of that sum in a sandbox is worth. -/
noncomputable def Tryz.pinned : Pinned := { name := "ytcmpkkapkdlfhaagreat", sum := "aec8d27cea3f4955684e4c103c649042db1a71af84e66921bb872a6425aedf11", checked := Tryz.checked }
namespace Rows
def none {H : Type} : Left H := { results := [], args := [] }

/-- 'windlasslaw17.PilotEnds': WHATEVER THE INPUT: true; the input reads as it did. -/
def pilotEndsSpec : ChangeSpec := { name := "pilotEnds", fn := fun _ => fun
  | [d1, d2, d3, d4, d5] => { results := [.lit (.bool true)], args := [d1, d2, d3, d4, d5] }
  | _ => none }
def pilotEndsRow : OpenClaim := { program := "ytcmpkkapkdlfhaagreat", sum := "aec8d27cea3f4955684e4c103c649042db1a71af84e66921bb872a6425aedf11", func := "windlass/windlasslaw17.PilotEnds", spec := "pilotEnds", unfollowed := true, recurses := true, apart := false }
def PilotEndsSaid : Prop := pilotEndsRow.holds Tryz.pinned (OpenSpec.ofChange pilotEndsSpec)

/-- ITS FALSE NEIGHBOUR: 'it returns false'. Refute it at one input. -/
def pilotEndsWrong : ChangeSpec := { name := "pilotEnds", fn := fun _ => fun
  | [d1, d2, d3, d4, d5] => { results := [.lit (.bool false)], args := [d1, d2, d3, d4, d5] }
  | _ => none }
def PilotEndsWrongFalsely : Prop := pilotEndsRow.holds Tryz.pinned (OpenSpec.ofChange pilotEndsWrong)

/-- 'windlasslaw17.PilotTwo': WHATEVER THE INPUT: true; the input reads as it did. -/
def pilotTwoSpec : ChangeSpec := { name := "pilotTwo", fn := fun _ => fun
  | [d1, d2] => { results := [.lit (.bool true)], args := [d1, d2] }
  | _ => none }
def pilotTwoRow : OpenClaim := { program := "ytcmpkkapkdlfhaagreat", sum := "aec8d27cea3f4955684e4c103c649042db1a71af84e66921bb872a6425aedf11", func := "windlass/windlasslaw17.PilotTwo", spec := "pilotTwo", unfollowed := true, recurses := true, apart := false }
def PilotTwoSaid : Prop := pilotTwoRow.holds Tryz.pinned (OpenSpec.ofChange pilotTwoSpec)

/-- ITS FALSE NEIGHBOUR: 'it returns false'. Refute it at one input. -/
def pilotTwoWrong : ChangeSpec := { name := "pilotTwo", fn := fun _ => fun
  | [d1, d2] => { results := [.lit (.bool false)], args := [d1, d2] }
  | _ => none }
def PilotTwoWrongFalsely : Prop := pilotTwoRow.holds Tryz.pinned (OpenSpec.ofChange pilotTwoWrong)

/-- 'windlasslaw17.PilotFenced': WHATEVER THE INPUT: true; the input reads as it did. -/
def pilotFencedSpec : ChangeSpec := { name := "pilotFenced", fn := fun _ => fun
  | [d1, d2, d3, d4] => { results := [.lit (.bool true)], args := [d1, d2, d3, d4] }
  | _ => none }
def pilotFencedRow : OpenClaim := { program := "ytcmpkkapkdlfhaagreat", sum := "aec8d27cea3f4955684e4c103c649042db1a71af84e66921bb872a6425aedf11", func := "windlass/windlasslaw17.PilotFenced", spec := "pilotFenced", unfollowed := true, recurses := true, apart := false }
def PilotFencedSaid : Prop := pilotFencedRow.holds Tryz.pinned (OpenSpec.ofChange pilotFencedSpec)

/-- ITS FALSE NEIGHBOUR: 'it returns false'. Refute it at one input. -/
def pilotFencedWrong : ChangeSpec := { name := "pilotFenced", fn := fun _ => fun
  | [d1, d2, d3, d4] => { results := [.lit (.bool false)], args := [d1, d2, d3, d4] }
  | _ => none }
def PilotFencedWrongFalsely : Prop := pilotFencedRow.holds Tryz.pinned (OpenSpec.ofChange pilotFencedWrong)

/- THE SECOND FORM. 'bulk': how many values and letters a reading holds, each counted each time it is reached (what is shared counts as often as it is met; a slice's spare places count too). A statement '..UptoSaid' is the law's where the arguments, and the package variables that the reading takes, are together of bulk at most 1048576: NARROWER than '..Said'. Prove '..Said' where nothing that the law and all that it calls make is longer than what came in: it says more and counts as full. Else prove '..UptoSaid'. A law counts once. -/
mutual
def uptoBulk {H : Type} : DataW H → Nat
  | .lit (.string bytes) => bytes.length + 1
  | .lit _ => 1
  | .nil => 1
  | .ptr d => uptoBulk d + 1
  | .slice elems spare => uptoBulkAll elems + uptoBulkAll spare + 1
  | .agg parts => uptoBulkAll parts + 1
  | .iface _ d => uptoBulk d + 1
  | .map entries => uptoBulkEntries entries + 1
  | .held _ => 1
def uptoBulkAll {H : Type} : List (DataW H) → Nat
  | [] => 0
  | d :: r => uptoBulk d + uptoBulkAll r
def uptoBulkEntries {H : Type} : List (Lit × DataW H) → Nat
  | [] => 0
  | x :: r => uptoBulkEntry x + uptoBulkEntries r
def uptoBulkEntry {H : Type} : Lit × DataW H → Nat
  | (.string bytes, d) => bytes.length + uptoBulk d + 1
  | (_, d) => uptoBulk d + 1
 end
def uptoSmall : (H : Type) → List (DataW H) → Bool := fun _ ds => decide (uptoBulkAll ds ≤ 1048576)
def OpenSpec.upto (s : _root_.Go.ChangeSpec) : _root_.Go.OpenSpec := { _root_.Go.OpenSpec.ofChange s with cond := some uptoSmall }

/-- 'windlasslaw17.PilotEnds', WHERE WHAT IT READS IS OF BULK AT MOST 1048576: true; the input reads as it did. -/
def pilotEndsUptoRow : OpenClaim := { program := "ytcmpkkapkdlfhaagreat", sum := "aec8d27cea3f4955684e4c103c649042db1a71af84e66921bb872a6425aedf11", func := "windlass/windlasslaw17.PilotEnds", spec := "pilotEnds", unfollowed := true, recurses := true, apart := false, narrowed := true }
def PilotEndsUptoSaid : Prop := pilotEndsUptoRow.holds Tryz.pinned (OpenSpec.upto pilotEndsSpec)

/-- 'windlasslaw17.PilotTwo', WHERE WHAT IT READS IS OF BULK AT MOST 1048576: true; the input reads as it did. -/
def pilotTwoUptoRow : OpenClaim := { program := "ytcmpkkapkdlfhaagreat", sum := "aec8d27cea3f4955684e4c103c649042db1a71af84e66921bb872a6425aedf11", func := "windlass/windlasslaw17.PilotTwo", spec := "pilotTwo", unfollowed := true, recurses := true, apart := false, narrowed := true }
def PilotTwoUptoSaid : Prop := pilotTwoUptoRow.holds Tryz.pinned (OpenSpec.upto pilotTwoSpec)

/-- 'windlasslaw17.PilotFenced', WHERE WHAT IT READS IS OF BULK AT MOST 1048576: true; the input reads as it did. -/
def pilotFencedUptoRow : OpenClaim := { program := "ytcmpkkapkdlfhaagreat", sum := "aec8d27cea3f4955684e4c103c649042db1a71af84e66921bb872a6425aedf11", func := "windlass/windlasslaw17.PilotFenced", spec := "pilotFenced", unfollowed := true, recurses := true, apart := false, narrowed := true }
def PilotFencedUptoSaid : Prop := pilotFencedUptoRow.holds Tryz.pinned (OpenSpec.upto pilotFencedSpec)

end Rows
end Go.Proofs.YtcmpkkapkdlfhaaGreat
