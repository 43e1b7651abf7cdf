/-
  No cell of these rows narrows 'for every input' (looked for: loops, veiled, ifaces, maps, wideKeys, modest, calm, conditions, laid).
  DERIVED. THE GIVEN ROWS OF THIS SEAT. 4 by the template 'for every input the law returns true; each argument reads behind the call as it read before'; 0 by the template 'total and deterministic' (their statements: YtfiheghjhgnblaaTotals.lean).
  GIVEN WITH THE SEED: the statements are not yours to turn. If you find one false, say at which input.
  Laid BY PROGRAM, IN A SANDBOX (cutbox-rows.mjs): the forced cells as the released guide's own fill.sh prints them over the translation e39696a1bf01f53e… (all of the seat's roots in one cut). By AI agents, Wed Nov 11 2026. No macro, syntax, notation, axiom, sorry.
-/
import Derived.Test.YtfiheghjhgnblaaChecked
import GoSem.Claim
import GoSem.ClaimJoined
import GoSem.ClaimMapViews
import Derived.JoinedTies
import Derived.KernelRfl
namespace Go.Proofs.Ytfiheghjhgnblaa
/- THE CELL 'sum', in the pinned program and in every row, IS THE sha256 OF THE DUMP (.gsa) THAT YtfiheghjhgnblaaProg.lean LOADS. Nothing in Lean hashes anything: it is a label: what it is worth is what the hold of that sum in a sandbox is worth. -/
noncomputable def Try.pinned : Pinned := { name := "ytfiheghjhgnblaa", sum := "e39696a1bf01f53e34c0f8f71978dac522a41f93af3fe9a30e55f265f0096648", checked := Try.checked }
namespace Rows
def none {H : Type} : Left H := { results := [], args := [] }

/-- 'windlasslaw10.NodeTwice': WHATEVER THE INPUT: true; the input reads as it did. -/
def nodeTwiceSpec : ChangeSpec := { name := "nodeTwice", fn := fun _ => fun
  | [d] => { results := [.lit (.bool true)], args := [d] }
  | _ => none }
def nodeTwiceRow : OpenClaim := { program := "ytfiheghjhgnblaa", sum := "e39696a1bf01f53e34c0f8f71978dac522a41f93af3fe9a30e55f265f0096648", func := "windlass/windlasslaw10.NodeTwice", spec := "nodeTwice", inPlace := ["internal/abi.NoEscape", "internal/bytealg.MakeNoZero"], unfollowed := true, recurses := true, apart := false }
def NodeTwiceSaid : Prop := nodeTwiceRow.holds Try.pinned (OpenSpec.ofChange nodeTwiceSpec)

/-- ITS FALSE NEIGHBOUR: 'it returns false'. Refute it at one input. -/
def nodeTwiceWrong : ChangeSpec := { name := "nodeTwice", fn := fun _ => fun
  | [d] => { results := [.lit (.bool false)], args := [d] }
  | _ => none }
def NodeTwiceWrongFalsely : Prop := nodeTwiceRow.holds Try.pinned (OpenSpec.ofChange nodeTwiceWrong)

/-- 'windlasslaw10.NodeApart': WHATEVER THE INPUT: true; the input reads as it did. -/
def nodeApartSpec : ChangeSpec := { name := "nodeApart", fn := fun _ => fun
  | [d] => { results := [.lit (.bool true)], args := [d] }
  | _ => none }
def nodeApartRow : OpenClaim := { program := "ytfiheghjhgnblaa", sum := "e39696a1bf01f53e34c0f8f71978dac522a41f93af3fe9a30e55f265f0096648", func := "windlass/windlasslaw10.NodeApart", spec := "nodeApart", inPlace := ["internal/abi.NoEscape", "internal/bytealg.MakeNoZero"], unfollowed := true, recurses := true, apart := false }
def NodeApartSaid : Prop := nodeApartRow.holds Try.pinned (OpenSpec.ofChange nodeApartSpec)

/-- ITS FALSE NEIGHBOUR: 'it returns false'. Refute it at one input. -/
def nodeApartWrong : ChangeSpec := { name := "nodeApart", fn := fun _ => fun
  | [d] => { results := [.lit (.bool false)], args := [d] }
  | _ => none }
def NodeApartWrongFalsely : Prop := nodeApartRow.holds Try.pinned (OpenSpec.ofChange nodeApartWrong)

/-- 'windlasslaw10.NodeBlank': WHATEVER THE INPUT: true; the input reads as it did. -/
def nodeBlankSpec : ChangeSpec := { name := "nodeBlank", fn := fun _ => fun
  | [d1, d2, d3] => { results := [.lit (.bool true)], args := [d1, d2, d3] }
  | _ => none }
def nodeBlankRow : OpenClaim := { program := "ytfiheghjhgnblaa", sum := "e39696a1bf01f53e34c0f8f71978dac522a41f93af3fe9a30e55f265f0096648", func := "windlass/windlasslaw10.NodeBlank", spec := "nodeBlank", inPlace := ["internal/abi.NoEscape", "internal/bytealg.MakeNoZero"], unfollowed := true, recurses := true, apart := false }
def NodeBlankSaid : Prop := nodeBlankRow.holds Try.pinned (OpenSpec.ofChange nodeBlankSpec)

/-- ITS FALSE NEIGHBOUR: 'it returns false'. Refute it at one input. -/
def nodeBlankWrong : ChangeSpec := { name := "nodeBlank", fn := fun _ => fun
  | [d1, d2, d3] => { results := [.lit (.bool false)], args := [d1, d2, d3] }
  | _ => none }
def NodeBlankWrongFalsely : Prop := nodeBlankRow.holds Try.pinned (OpenSpec.ofChange nodeBlankWrong)

/-- 'windlasslaw10.NodeLasts': WHATEVER THE INPUT: true; the input reads as it did. -/
def nodeLastsSpec : ChangeSpec := { name := "nodeLasts", fn := fun _ => fun
  | [d] => { results := [.lit (.bool true)], args := [d] }
  | _ => none }
def nodeLastsRow : OpenClaim := { program := "ytfiheghjhgnblaa", sum := "e39696a1bf01f53e34c0f8f71978dac522a41f93af3fe9a30e55f265f0096648", func := "windlass/windlasslaw10.NodeLasts", spec := "nodeLasts", inPlace := ["internal/abi.NoEscape", "internal/bytealg.MakeNoZero"], unfollowed := true, recurses := true, apart := false }
def NodeLastsSaid : Prop := nodeLastsRow.holds Try.pinned (OpenSpec.ofChange nodeLastsSpec)

/-- ITS FALSE NEIGHBOUR: 'it returns false'. Refute it at one input. -/
def nodeLastsWrong : ChangeSpec := { name := "nodeLasts", fn := fun _ => fun
  | [d] => { results := [.lit (.bool false)], args := [d] }
  | _ => none }
def NodeLastsWrongFalsely : Prop := nodeLastsRow.holds Try.pinned (OpenSpec.ofChange nodeLastsWrong)

/- THE SECOND FORM. 'bulk': how many values and letters a reading holds, each counted each time it is reached (what is shared counts as often as it is met; a slice's spare places count too). A statement '..UptoSaid' is the law's where the arguments, and the package variables that the reading takes, are together of bulk at most 1048576: NARROWER than '..Said'. Prove '..Said' where nothing that the law and all that it calls make is longer than what came in: it says more and counts as full. Else prove '..UptoSaid'. A law counts once. -/
mutual
def uptoBulk {H : Type} : DataW H → Nat
  | .lit (.string bytes) => bytes.length + 1
  | .lit _ => 1
  | .nil => 1
  | .ptr d => uptoBulk d + 1
  | .slice elems spare => uptoBulkAll elems + uptoBulkAll spare + 1
  | .agg parts => uptoBulkAll parts + 1
  | .iface _ d => uptoBulk d + 1
  | .map entries => uptoBulkEntries entries + 1
  | .held _ => 1
def uptoBulkAll {H : Type} : List (DataW H) → Nat
  | [] => 0
  | d :: r => uptoBulk d + uptoBulkAll r
def uptoBulkEntries {H : Type} : List (Lit × DataW H) → Nat
  | [] => 0
  | x :: r => uptoBulkEntry x + uptoBulkEntries r
def uptoBulkEntry {H : Type} : Lit × DataW H → Nat
  | (.string bytes, d) => bytes.length + uptoBulk d + 1
  | (_, d) => uptoBulk d + 1
 end
def uptoSmall : (H : Type) → List (DataW H) → Bool := fun _ ds => decide (uptoBulkAll ds ≤ 1048576)
def OpenSpec.upto (s : _root_.Go.ChangeSpec) : _root_.Go.OpenSpec := { _root_.Go.OpenSpec.ofChange s with cond := some uptoSmall }

/-- 'windlasslaw10.NodeTwice', WHERE WHAT IT READS IS OF BULK AT MOST 1048576: true; the input reads as it did. -/
def nodeTwiceUptoRow : OpenClaim := { program := "ytfiheghjhgnblaa", sum := "e39696a1bf01f53e34c0f8f71978dac522a41f93af3fe9a30e55f265f0096648", func := "windlass/windlasslaw10.NodeTwice", spec := "nodeTwice", inPlace := ["internal/abi.NoEscape", "internal/bytealg.MakeNoZero"], unfollowed := true, recurses := true, apart := false, narrowed := true }
def NodeTwiceUptoSaid : Prop := nodeTwiceUptoRow.holds Try.pinned (OpenSpec.upto nodeTwiceSpec)

/-- 'windlasslaw10.NodeApart', WHERE WHAT IT READS IS OF BULK AT MOST 1048576: true; the input reads as it did. -/
def nodeApartUptoRow : OpenClaim := { program := "ytfiheghjhgnblaa", sum := "e39696a1bf01f53e34c0f8f71978dac522a41f93af3fe9a30e55f265f0096648", func := "windlass/windlasslaw10.NodeApart", spec := "nodeApart", inPlace := ["internal/abi.NoEscape", "internal/bytealg.MakeNoZero"], unfollowed := true, recurses := true, apart := false, narrowed := true }
def NodeApartUptoSaid : Prop := nodeApartUptoRow.holds Try.pinned (OpenSpec.upto nodeApartSpec)

/-- 'windlasslaw10.NodeBlank', WHERE WHAT IT READS IS OF BULK AT MOST 1048576: true; the input reads as it did. -/
def nodeBlankUptoRow : OpenClaim := { program := "ytfiheghjhgnblaa", sum := "e39696a1bf01f53e34c0f8f71978dac522a41f93af3fe9a30e55f265f0096648", func := "windlass/windlasslaw10.NodeBlank", spec := "nodeBlank", inPlace := ["internal/abi.NoEscape", "internal/bytealg.MakeNoZero"], unfollowed := true, recurses := true, apart := false, narrowed := true }
def NodeBlankUptoSaid : Prop := nodeBlankUptoRow.holds Try.pinned (OpenSpec.upto nodeBlankSpec)

/-- 'windlasslaw10.NodeLasts', WHERE WHAT IT READS IS OF BULK AT MOST 1048576: true; the input reads as it did. -/
def nodeLastsUptoRow : OpenClaim := { program := "ytfiheghjhgnblaa", sum := "e39696a1bf01f53e34c0f8f71978dac522a41f93af3fe9a30e55f265f0096648", func := "windlass/windlasslaw10.NodeLasts", spec := "nodeLasts", inPlace := ["internal/abi.NoEscape", "internal/bytealg.MakeNoZero"], unfollowed := true, recurses := true, apart := false, narrowed := true }
def NodeLastsUptoSaid : Prop := nodeLastsUptoRow.holds Try.pinned (OpenSpec.upto nodeLastsSpec)

end Rows
end Go.Proofs.Ytfiheghjhgnblaa
