/-
  No cell of these rows narrows 'for every input' (looked for: loops, veiled, ifaces, maps, wideKeys, modest, calm, conditions, laid).
  DERIVED. THE GIVEN ROWS OF THIS SEAT. 5 by the template 'for every input the law returns true; each argument reads behind the call as it read before'; 0 by the template 'total and deterministic' (their statements: YtillpjllbekedaaTotals.lean).
  GIVEN WITH THE SEED: the statements are not yours to turn. If you find one false, say at which input.
  Laid BY PROGRAM, IN A SANDBOX (cutbox-rows.mjs): the forced cells as the released guide's own fill.sh prints them over the translation ff33a750989362e6… (all of the seat's roots in one cut). By AI agents, Wed Nov 11 2026. No macro, syntax, notation, axiom, sorry.
-/
import Derived.Test.YtillpjllbekedaaChecked
import GoSem.Claim
import GoSem.ClaimJoined
import GoSem.ClaimMapViews
import Derived.JoinedTies
import Derived.KernelRfl
namespace Go.Proofs.Ytillpjllbekedaa
/- THE CELL 'sum', in the pinned program and in every row, IS THE sha256 OF THE DUMP (.gsa) THAT YtillpjllbekedaaProg.lean LOADS. Nothing in Lean hashes anything: it is a label: what it is worth is what the hold of that sum in a sandbox is worth. -/
noncomputable def Try.pinned : Pinned := { name := "ytillpjllbekedaa", sum := "ff33a750989362e628d91342fc34eea0fecd78b40473e4c3eba4dbaffc5acb44", checked := Try.checked }
namespace Rows
def none {H : Type} : Left H := { results := [], args := [] }

/-- 'windlasslaw07.PlatterArms': WHATEVER THE INPUT: true; the input reads as it did. -/
def platterArmsSpec : ChangeSpec := { name := "platterArms", fn := fun _ => fun
  | [d1, d2] => { results := [.lit (.bool true)], args := [d1, d2] }
  | _ => none }
def platterArmsRow : OpenClaim := { program := "ytillpjllbekedaa", sum := "ff33a750989362e628d91342fc34eea0fecd78b40473e4c3eba4dbaffc5acb44", func := "windlass/windlasslaw07.PlatterArms", spec := "platterArms", recurses := true, apart := false }
def PlatterArmsSaid : Prop := platterArmsRow.holds Try.pinned (OpenSpec.ofChange platterArmsSpec)

/-- ITS FALSE NEIGHBOUR: 'it returns false'. Refute it at one input. -/
def platterArmsWrong : ChangeSpec := { name := "platterArms", fn := fun _ => fun
  | [d1, d2] => { results := [.lit (.bool false)], args := [d1, d2] }
  | _ => none }
def PlatterArmsWrongFalsely : Prop := platterArmsRow.holds Try.pinned (OpenSpec.ofChange platterArmsWrong)

/-- 'windlasslaw07.PlatterApart': WHATEVER THE INPUT: true; the input reads as it did. -/
def platterApartSpec : ChangeSpec := { name := "platterApart", fn := fun _ => fun
  | [d1, d2, d3] => { results := [.lit (.bool true)], args := [d1, d2, d3] }
  | _ => none }
def platterApartRow : OpenClaim := { program := "ytillpjllbekedaa", sum := "ff33a750989362e628d91342fc34eea0fecd78b40473e4c3eba4dbaffc5acb44", func := "windlass/windlasslaw07.PlatterApart", spec := "platterApart", recurses := true, apart := false }
def PlatterApartSaid : Prop := platterApartRow.holds Try.pinned (OpenSpec.ofChange platterApartSpec)

/-- ITS FALSE NEIGHBOUR: 'it returns false'. Refute it at one input. -/
def platterApartWrong : ChangeSpec := { name := "platterApart", fn := fun _ => fun
  | [d1, d2, d3] => { results := [.lit (.bool false)], args := [d1, d2, d3] }
  | _ => none }
def PlatterApartWrongFalsely : Prop := platterApartRow.holds Try.pinned (OpenSpec.ofChange platterApartWrong)

/-- 'windlasslaw07.PlatterReads': WHATEVER THE INPUT: true; the input reads as it did. -/
def platterReadsSpec : ChangeSpec := { name := "platterReads", fn := fun _ => fun
  | [d] => { results := [.lit (.bool true)], args := [d] }
  | _ => none }
def platterReadsRow : OpenClaim := { program := "ytillpjllbekedaa", sum := "ff33a750989362e628d91342fc34eea0fecd78b40473e4c3eba4dbaffc5acb44", func := "windlass/windlasslaw07.PlatterReads", spec := "platterReads", recurses := true, apart := false }
def PlatterReadsSaid : Prop := platterReadsRow.holds Try.pinned (OpenSpec.ofChange platterReadsSpec)

/-- ITS FALSE NEIGHBOUR: 'it returns false'. Refute it at one input. -/
def platterReadsWrong : ChangeSpec := { name := "platterReads", fn := fun _ => fun
  | [d] => { results := [.lit (.bool false)], args := [d] }
  | _ => none }
def PlatterReadsWrongFalsely : Prop := platterReadsRow.holds Try.pinned (OpenSpec.ofChange platterReadsWrong)

/-- 'windlasslaw07.PlatterKeeps': WHATEVER THE INPUT: true; the input reads as it did. -/
def platterKeepsSpec : ChangeSpec := { name := "platterKeeps", fn := fun _ => fun
  | [d1, d2, d3] => { results := [.lit (.bool true)], args := [d1, d2, d3] }
  | _ => none }
def platterKeepsRow : OpenClaim := { program := "ytillpjllbekedaa", sum := "ff33a750989362e628d91342fc34eea0fecd78b40473e4c3eba4dbaffc5acb44", func := "windlass/windlasslaw07.PlatterKeeps", spec := "platterKeeps", recurses := true, apart := false }
def PlatterKeepsSaid : Prop := platterKeepsRow.holds Try.pinned (OpenSpec.ofChange platterKeepsSpec)

/-- ITS FALSE NEIGHBOUR: 'it returns false'. Refute it at one input. -/
def platterKeepsWrong : ChangeSpec := { name := "platterKeeps", fn := fun _ => fun
  | [d1, d2, d3] => { results := [.lit (.bool false)], args := [d1, d2, d3] }
  | _ => none }
def PlatterKeepsWrongFalsely : Prop := platterKeepsRow.holds Try.pinned (OpenSpec.ofChange platterKeepsWrong)

/-- 'windlasslaw07.PlatterLoses': WHATEVER THE INPUT: true; the input reads as it did. -/
def platterLosesSpec : ChangeSpec := { name := "platterLoses", fn := fun _ => fun
  | [d1, d2, d3] => { results := [.lit (.bool true)], args := [d1, d2, d3] }
  | _ => none }
def platterLosesRow : OpenClaim := { program := "ytillpjllbekedaa", sum := "ff33a750989362e628d91342fc34eea0fecd78b40473e4c3eba4dbaffc5acb44", func := "windlass/windlasslaw07.PlatterLoses", spec := "platterLoses", recurses := true, apart := false }
def PlatterLosesSaid : Prop := platterLosesRow.holds Try.pinned (OpenSpec.ofChange platterLosesSpec)

/-- ITS FALSE NEIGHBOUR: 'it returns false'. Refute it at one input. -/
def platterLosesWrong : ChangeSpec := { name := "platterLoses", fn := fun _ => fun
  | [d1, d2, d3] => { results := [.lit (.bool false)], args := [d1, d2, d3] }
  | _ => none }
def PlatterLosesWrongFalsely : Prop := platterLosesRow.holds Try.pinned (OpenSpec.ofChange platterLosesWrong)

/- THE SECOND FORM. 'bulk': how many values and letters a reading holds, each counted each time it is reached (what is shared counts as often as it is met; a slice's spare places count too). A statement '..UptoSaid' is the law's where the arguments, and the package variables that the reading takes, are together of bulk at most 1048576: NARROWER than '..Said'. Prove '..Said' where nothing that the law and all that it calls make is longer than what came in: it says more and counts as full. Else prove '..UptoSaid'. A law counts once. -/
mutual
def uptoBulk {H : Type} : DataW H → Nat
  | .lit (.string bytes) => bytes.length + 1
  | .lit _ => 1
  | .nil => 1
  | .ptr d => uptoBulk d + 1
  | .slice elems spare => uptoBulkAll elems + uptoBulkAll spare + 1
  | .agg parts => uptoBulkAll parts + 1
  | .iface _ d => uptoBulk d + 1
  | .map entries => uptoBulkEntries entries + 1
  | .held _ => 1
def uptoBulkAll {H : Type} : List (DataW H) → Nat
  | [] => 0
  | d :: r => uptoBulk d + uptoBulkAll r
def uptoBulkEntries {H : Type} : List (Lit × DataW H) → Nat
  | [] => 0
  | x :: r => uptoBulkEntry x + uptoBulkEntries r
def uptoBulkEntry {H : Type} : Lit × DataW H → Nat
  | (.string bytes, d) => bytes.length + uptoBulk d + 1
  | (_, d) => uptoBulk d + 1
 end
def uptoSmall : (H : Type) → List (DataW H) → Bool := fun _ ds => decide (uptoBulkAll ds ≤ 1048576)
def OpenSpec.upto (s : _root_.Go.ChangeSpec) : _root_.Go.OpenSpec := { _root_.Go.OpenSpec.ofChange s with cond := some uptoSmall }

/-- 'windlasslaw07.PlatterArms', WHERE WHAT IT READS IS OF BULK AT MOST 1048576: true; the input reads as it did. -/
def platterArmsUptoRow : OpenClaim := { program := "ytillpjllbekedaa", sum := "ff33a750989362e628d91342fc34eea0fecd78b40473e4c3eba4dbaffc5acb44", func := "windlass/windlasslaw07.PlatterArms", spec := "platterArms", recurses := true, apart := false, narrowed := true }
def PlatterArmsUptoSaid : Prop := platterArmsUptoRow.holds Try.pinned (OpenSpec.upto platterArmsSpec)

/-- 'windlasslaw07.PlatterApart', WHERE WHAT IT READS IS OF BULK AT MOST 1048576: true; the input reads as it did. -/
def platterApartUptoRow : OpenClaim := { program := "ytillpjllbekedaa", sum := "ff33a750989362e628d91342fc34eea0fecd78b40473e4c3eba4dbaffc5acb44", func := "windlass/windlasslaw07.PlatterApart", spec := "platterApart", recurses := true, apart := false, narrowed := true }
def PlatterApartUptoSaid : Prop := platterApartUptoRow.holds Try.pinned (OpenSpec.upto platterApartSpec)

/-- 'windlasslaw07.PlatterReads', WHERE WHAT IT READS IS OF BULK AT MOST 1048576: true; the input reads as it did. -/
def platterReadsUptoRow : OpenClaim := { program := "ytillpjllbekedaa", sum := "ff33a750989362e628d91342fc34eea0fecd78b40473e4c3eba4dbaffc5acb44", func := "windlass/windlasslaw07.PlatterReads", spec := "platterReads", recurses := true, apart := false, narrowed := true }
def PlatterReadsUptoSaid : Prop := platterReadsUptoRow.holds Try.pinned (OpenSpec.upto platterReadsSpec)

/-- 'windlasslaw07.PlatterKeeps', WHERE WHAT IT READS IS OF BULK AT MOST 1048576: true; the input reads as it did. -/
def platterKeepsUptoRow : OpenClaim := { program := "ytillpjllbekedaa", sum := "ff33a750989362e628d91342fc34eea0fecd78b40473e4c3eba4dbaffc5acb44", func := "windlass/windlasslaw07.PlatterKeeps", spec := "platterKeeps", recurses := true, apart := false, narrowed := true }
def PlatterKeepsUptoSaid : Prop := platterKeepsUptoRow.holds Try.pinned (OpenSpec.upto platterKeepsSpec)

/-- 'windlasslaw07.PlatterLoses', WHERE WHAT IT READS IS OF BULK AT MOST 1048576: true; the input reads as it did. -/
def platterLosesUptoRow : OpenClaim := { program := "ytillpjllbekedaa", sum := "ff33a750989362e628d91342fc34eea0fecd78b40473e4c3eba4dbaffc5acb44", func := "windlass/windlasslaw07.PlatterLoses", spec := "platterLoses", recurses := true, apart := false, narrowed := true }
def PlatterLosesUptoSaid : Prop := platterLosesUptoRow.holds Try.pinned (OpenSpec.upto platterLosesSpec)

end Rows
end Go.Proofs.Ytillpjllbekedaa
