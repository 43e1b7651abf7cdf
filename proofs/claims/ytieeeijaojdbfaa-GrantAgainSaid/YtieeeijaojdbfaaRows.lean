/-
  No cell of these rows narrows 'for every input' (looked for: loops, veiled, ifaces, maps, wideKeys, modest, calm, conditions, laid).
  DERIVED. THE GIVEN ROWS OF THIS SEAT. 5 by the template 'for every input the law returns true; each argument reads behind the call as it read before'; 0 by the template 'total and deterministic' (their statements: YtieeeijaojdbfaaTotals.lean).
  GIVEN WITH THE SEED: the statements are not yours to turn. If you find one false, say at which input.
  Laid BY PROGRAM, IN A SANDBOX (cutbox-rows.mjs): the forced cells as the released guide's own fill.sh prints them over the translation 778bf1484013fb1c… (all of the seat's roots in one cut). By AI agents, Wed Nov 11 2026. No macro, syntax, notation, axiom, sorry.
-/
import Derived.Test.YtieeeijaojdbfaaChecked
import GoSem.Claim
import GoSem.ClaimJoined
import GoSem.ClaimMapViews
import Derived.JoinedTies
import Derived.KernelRfl
namespace Go.Proofs.Ytieeeijaojdbfaa
/- THE CELL 'sum', in the pinned program and in every row, IS THE sha256 OF THE DUMP (.gsa) THAT YtieeeijaojdbfaaProg.lean LOADS. Nothing in Lean hashes anything: it is a label: what it is worth is what the hold of that sum in a sandbox is worth. -/
noncomputable def Try.pinned : Pinned := { name := "ytieeeijaojdbfaa", sum := "778bf1484013fb1c4c4bf80004c05c8510be48ad00ebedac376d63c4a2069528", checked := Try.checked }
namespace Rows
def none {H : Type} : Left H := { results := [], args := [] }

/-- 'windlasslaw11.GrantHeld': WHATEVER THE INPUT: true; the input reads as it did. -/
def grantHeldSpec : ChangeSpec := { name := "grantHeld", fn := fun _ => fun
  | [d1, d2, d3] => { results := [.lit (.bool true)], args := [d1, d2, d3] }
  | _ => none }
def grantHeldRow : OpenClaim := { program := "ytieeeijaojdbfaa", sum := "778bf1484013fb1c4c4bf80004c05c8510be48ad00ebedac376d63c4a2069528", func := "windlass/windlasslaw11.GrantHeld", spec := "grantHeld", apart := false }
def GrantHeldSaid : Prop := grantHeldRow.holds Try.pinned (OpenSpec.ofChange grantHeldSpec)

/-- ITS FALSE NEIGHBOUR: 'it returns false'. Refute it at one input. -/
def grantHeldWrong : ChangeSpec := { name := "grantHeld", fn := fun _ => fun
  | [d1, d2, d3] => { results := [.lit (.bool false)], args := [d1, d2, d3] }
  | _ => none }
def GrantHeldWrongFalsely : Prop := grantHeldRow.holds Try.pinned (OpenSpec.ofChange grantHeldWrong)

/-- 'windlasslaw11.GrantOnce': WHATEVER THE INPUT: true; the input reads as it did. -/
def grantOnceSpec : ChangeSpec := { name := "grantOnce", fn := fun _ => fun
  | [d] => { results := [.lit (.bool true)], args := [d] }
  | _ => none }
def grantOnceRow : OpenClaim := { program := "ytieeeijaojdbfaa", sum := "778bf1484013fb1c4c4bf80004c05c8510be48ad00ebedac376d63c4a2069528", func := "windlass/windlasslaw11.GrantOnce", spec := "grantOnce", apart := false }
def GrantOnceSaid : Prop := grantOnceRow.holds Try.pinned (OpenSpec.ofChange grantOnceSpec)

/-- ITS FALSE NEIGHBOUR: 'it returns false'. Refute it at one input. -/
def grantOnceWrong : ChangeSpec := { name := "grantOnce", fn := fun _ => fun
  | [d] => { results := [.lit (.bool false)], args := [d] }
  | _ => none }
def GrantOnceWrongFalsely : Prop := grantOnceRow.holds Try.pinned (OpenSpec.ofChange grantOnceWrong)

/-- 'windlasslaw11.GrantAgain': WHATEVER THE INPUT: true; the input reads as it did. -/
def grantAgainSpec : ChangeSpec := { name := "grantAgain", fn := fun _ => fun
  | [d1, d2] => { results := [.lit (.bool true)], args := [d1, d2] }
  | _ => none }
def grantAgainRow : OpenClaim := { program := "ytieeeijaojdbfaa", sum := "778bf1484013fb1c4c4bf80004c05c8510be48ad00ebedac376d63c4a2069528", func := "windlass/windlasslaw11.GrantAgain", spec := "grantAgain", apart := false }
def GrantAgainSaid : Prop := grantAgainRow.holds Try.pinned (OpenSpec.ofChange grantAgainSpec)

/-- ITS FALSE NEIGHBOUR: 'it returns false'. Refute it at one input. -/
def grantAgainWrong : ChangeSpec := { name := "grantAgain", fn := fun _ => fun
  | [d1, d2] => { results := [.lit (.bool false)], args := [d1, d2] }
  | _ => none }
def GrantAgainWrongFalsely : Prop := grantAgainRow.holds Try.pinned (OpenSpec.ofChange grantAgainWrong)

/-- 'windlasslaw11.GrantApart': WHATEVER THE INPUT: true; the input reads as it did. -/
def grantApartSpec : ChangeSpec := { name := "grantApart", fn := fun _ => fun
  | [d] => { results := [.lit (.bool true)], args := [d] }
  | _ => none }
def grantApartRow : OpenClaim := { program := "ytieeeijaojdbfaa", sum := "778bf1484013fb1c4c4bf80004c05c8510be48ad00ebedac376d63c4a2069528", func := "windlass/windlasslaw11.GrantApart", spec := "grantApart", apart := false }
def GrantApartSaid : Prop := grantApartRow.holds Try.pinned (OpenSpec.ofChange grantApartSpec)

/-- ITS FALSE NEIGHBOUR: 'it returns false'. Refute it at one input. -/
def grantApartWrong : ChangeSpec := { name := "grantApart", fn := fun _ => fun
  | [d] => { results := [.lit (.bool false)], args := [d] }
  | _ => none }
def GrantApartWrongFalsely : Prop := grantApartRow.holds Try.pinned (OpenSpec.ofChange grantApartWrong)

/-- 'windlasslaw11.GrantOuts': WHATEVER THE INPUT: true; the input reads as it did. -/
def grantOutsSpec : ChangeSpec := { name := "grantOuts", fn := fun _ => fun
  | [d1, d2, d3] => { results := [.lit (.bool true)], args := [d1, d2, d3] }
  | _ => none }
def grantOutsRow : OpenClaim := { program := "ytieeeijaojdbfaa", sum := "778bf1484013fb1c4c4bf80004c05c8510be48ad00ebedac376d63c4a2069528", func := "windlass/windlasslaw11.GrantOuts", spec := "grantOuts", apart := false }
def GrantOutsSaid : Prop := grantOutsRow.holds Try.pinned (OpenSpec.ofChange grantOutsSpec)

/-- ITS FALSE NEIGHBOUR: 'it returns false'. Refute it at one input. -/
def grantOutsWrong : ChangeSpec := { name := "grantOuts", fn := fun _ => fun
  | [d1, d2, d3] => { results := [.lit (.bool false)], args := [d1, d2, d3] }
  | _ => none }
def GrantOutsWrongFalsely : Prop := grantOutsRow.holds Try.pinned (OpenSpec.ofChange grantOutsWrong)

/- THE SECOND FORM. 'bulk': how many values and letters a reading holds, each counted each time it is reached (what is shared counts as often as it is met; a slice's spare places count too). A statement '..UptoSaid' is the law's where the arguments, and the package variables that the reading takes, are together of bulk at most 1048576: NARROWER than '..Said'. Prove '..Said' where nothing that the law and all that it calls make is longer than what came in: it says more and counts as full. Else prove '..UptoSaid'. A law counts once. -/
mutual
def uptoBulk {H : Type} : DataW H → Nat
  | .lit (.string bytes) => bytes.length + 1
  | .lit _ => 1
  | .nil => 1
  | .ptr d => uptoBulk d + 1
  | .slice elems spare => uptoBulkAll elems + uptoBulkAll spare + 1
  | .agg parts => uptoBulkAll parts + 1
  | .iface _ d => uptoBulk d + 1
  | .map entries => uptoBulkEntries entries + 1
  | .held _ => 1
def uptoBulkAll {H : Type} : List (DataW H) → Nat
  | [] => 0
  | d :: r => uptoBulk d + uptoBulkAll r
def uptoBulkEntries {H : Type} : List (Lit × DataW H) → Nat
  | [] => 0
  | x :: r => uptoBulkEntry x + uptoBulkEntries r
def uptoBulkEntry {H : Type} : Lit × DataW H → Nat
  | (.string bytes, d) => bytes.length + uptoBulk d + 1
  | (_, d) => uptoBulk d + 1
 end
def uptoSmall : (H : Type) → List (DataW H) → Bool := fun _ ds => decide (uptoBulkAll ds ≤ 1048576)
def OpenSpec.upto (s : _root_.Go.ChangeSpec) : _root_.Go.OpenSpec := { _root_.Go.OpenSpec.ofChange s with cond := some uptoSmall }

/-- 'windlasslaw11.GrantHeld', WHERE WHAT IT READS IS OF BULK AT MOST 1048576: true; the input reads as it did. -/
def grantHeldUptoRow : OpenClaim := { program := "ytieeeijaojdbfaa", sum := "778bf1484013fb1c4c4bf80004c05c8510be48ad00ebedac376d63c4a2069528", func := "windlass/windlasslaw11.GrantHeld", spec := "grantHeld", apart := false, narrowed := true }
def GrantHeldUptoSaid : Prop := grantHeldUptoRow.holds Try.pinned (OpenSpec.upto grantHeldSpec)

/-- 'windlasslaw11.GrantOnce', WHERE WHAT IT READS IS OF BULK AT MOST 1048576: true; the input reads as it did. -/
def grantOnceUptoRow : OpenClaim := { program := "ytieeeijaojdbfaa", sum := "778bf1484013fb1c4c4bf80004c05c8510be48ad00ebedac376d63c4a2069528", func := "windlass/windlasslaw11.GrantOnce", spec := "grantOnce", apart := false, narrowed := true }
def GrantOnceUptoSaid : Prop := grantOnceUptoRow.holds Try.pinned (OpenSpec.upto grantOnceSpec)

/-- 'windlasslaw11.GrantAgain', WHERE WHAT IT READS IS OF BULK AT MOST 1048576: true; the input reads as it did. -/
def grantAgainUptoRow : OpenClaim := { program := "ytieeeijaojdbfaa", sum := "778bf1484013fb1c4c4bf80004c05c8510be48ad00ebedac376d63c4a2069528", func := "windlass/windlasslaw11.GrantAgain", spec := "grantAgain", apart := false, narrowed := true }
def GrantAgainUptoSaid : Prop := grantAgainUptoRow.holds Try.pinned (OpenSpec.upto grantAgainSpec)

/-- 'windlasslaw11.GrantApart', WHERE WHAT IT READS IS OF BULK AT MOST 1048576: true; the input reads as it did. -/
def grantApartUptoRow : OpenClaim := { program := "ytieeeijaojdbfaa", sum := "778bf1484013fb1c4c4bf80004c05c8510be48ad00ebedac376d63c4a2069528", func := "windlass/windlasslaw11.GrantApart", spec := "grantApart", apart := false, narrowed := true }
def GrantApartUptoSaid : Prop := grantApartUptoRow.holds Try.pinned (OpenSpec.upto grantApartSpec)

/-- 'windlasslaw11.GrantOuts', WHERE WHAT IT READS IS OF BULK AT MOST 1048576: true; the input reads as it did. -/
def grantOutsUptoRow : OpenClaim := { program := "ytieeeijaojdbfaa", sum := "778bf1484013fb1c4c4bf80004c05c8510be48ad00ebedac376d63c4a2069528", func := "windlass/windlasslaw11.GrantOuts", spec := "grantOuts", apart := false, narrowed := true }
def GrantOutsUptoSaid : Prop := grantOutsUptoRow.holds Try.pinned (OpenSpec.upto grantOutsSpec)

end Rows
end Go.Proofs.Ytieeeijaojdbfaa
