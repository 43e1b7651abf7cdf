/-
  No cell of these rows narrows 'for every input' (looked for: loops, veiled, ifaces, maps, wideKeys, modest, calm, conditions, laid).
  DERIVED. THE GIVEN ROWS OF THIS SEAT. 3 by the template 'for every input the law returns true; each argument reads behind the call as it read before'; 0 by the template 'total and deterministic' (their statements: YtmeddeaphmpjcaaTotals.lean).
  GIVEN WITH THE SEED: the statements are not yours to turn. If you find one false, say at which input.
  Laid BY PROGRAM, IN A SANDBOX (cutbox-rows.mjs): the forced cells as the released guide's own fill.sh prints them over the translation 83960a99cfdb7a5d… (all of the seat's roots in one cut). By AI agents, Wed Nov 11 2026. No macro, syntax, notation, axiom, sorry.
-/
import Derived.Test.YtmeddeaphmpjcaaChecked
import GoSem.Claim
import GoSem.ClaimJoined
import GoSem.ClaimMapViews
import Derived.JoinedTies
import Derived.KernelRfl
namespace Go.Proofs.Ytmeddeaphmpjcaa
/- THE CELL 'sum', in the pinned program and in every row, IS THE sha256 OF THE DUMP (.gsa) THAT YtmeddeaphmpjcaaProg.lean LOADS. Nothing in Lean hashes anything: it is a label: what it is worth is what the hold of that sum in a sandbox is worth. -/
noncomputable def Try.pinned : Pinned := { name := "ytmeddeaphmpjcaa", sum := "83960a99cfdb7a5d07d77b4c554269790fe8136f893618332c4908f1527a26e4", checked := Try.checked }
namespace Rows
def none {H : Type} : Left H := { results := [], args := [] }

/-- 'windlasslaw14.CallAgain': WHATEVER THE INPUT: true; the input reads as it did. -/
def callAgainSpec : ChangeSpec := { name := "callAgain", fn := fun _ => fun
  | [d1, d2, d3, d4] => { results := [.lit (.bool true)], args := [d1, d2, d3, d4] }
  | _ => none }
def callAgainRow : OpenClaim := { program := "ytmeddeaphmpjcaa", sum := "83960a99cfdb7a5d07d77b4c554269790fe8136f893618332c4908f1527a26e4", func := "windlass/windlasslaw14.CallAgain", spec := "callAgain", unfollowed := true, recurses := true, apart := false }
def CallAgainSaid : Prop := callAgainRow.holds Try.pinned (OpenSpec.ofChange callAgainSpec)

/-- ITS FALSE NEIGHBOUR: 'it returns false'. Refute it at one input. -/
def callAgainWrong : ChangeSpec := { name := "callAgain", fn := fun _ => fun
  | [d1, d2, d3, d4] => { results := [.lit (.bool false)], args := [d1, d2, d3, d4] }
  | _ => none }
def CallAgainWrongFalsely : Prop := callAgainRow.holds Try.pinned (OpenSpec.ofChange callAgainWrong)

/-- 'windlasslaw14.CallOnce': WHATEVER THE INPUT: true; the input reads as it did. -/
def callOnceSpec : ChangeSpec := { name := "callOnce", fn := fun _ => fun
  | [d] => { results := [.lit (.bool true)], args := [d] }
  | _ => none }
def callOnceRow : OpenClaim := { program := "ytmeddeaphmpjcaa", sum := "83960a99cfdb7a5d07d77b4c554269790fe8136f893618332c4908f1527a26e4", func := "windlass/windlasslaw14.CallOnce", spec := "callOnce", unfollowed := true, recurses := true, apart := false }
def CallOnceSaid : Prop := callOnceRow.holds Try.pinned (OpenSpec.ofChange callOnceSpec)

/-- ITS FALSE NEIGHBOUR: 'it returns false'. Refute it at one input. -/
def callOnceWrong : ChangeSpec := { name := "callOnce", fn := fun _ => fun
  | [d] => { results := [.lit (.bool false)], args := [d] }
  | _ => none }
def CallOnceWrongFalsely : Prop := callOnceRow.holds Try.pinned (OpenSpec.ofChange callOnceWrong)

/-- 'windlasslaw14.CallDrops': WHATEVER THE INPUT: true; the input reads as it did. -/
def callDropsSpec : ChangeSpec := { name := "callDrops", fn := fun _ => fun
  | [d1, d2] => { results := [.lit (.bool true)], args := [d1, d2] }
  | _ => none }
def callDropsRow : OpenClaim := { program := "ytmeddeaphmpjcaa", sum := "83960a99cfdb7a5d07d77b4c554269790fe8136f893618332c4908f1527a26e4", func := "windlass/windlasslaw14.CallDrops", spec := "callDrops", unfollowed := true, recurses := true, apart := false }
def CallDropsSaid : Prop := callDropsRow.holds Try.pinned (OpenSpec.ofChange callDropsSpec)

/-- ITS FALSE NEIGHBOUR: 'it returns false'. Refute it at one input. -/
def callDropsWrong : ChangeSpec := { name := "callDrops", fn := fun _ => fun
  | [d1, d2] => { results := [.lit (.bool false)], args := [d1, d2] }
  | _ => none }
def CallDropsWrongFalsely : Prop := callDropsRow.holds Try.pinned (OpenSpec.ofChange callDropsWrong)

/- THE SECOND FORM. 'bulk': how many values and letters a reading holds, each counted each time it is reached (what is shared counts as often as it is met; a slice's spare places count too). A statement '..UptoSaid' is the law's where the arguments, and the package variables that the reading takes, are together of bulk at most 1048576: NARROWER than '..Said'. Prove '..Said' where nothing that the law and all that it calls make is longer than what came in: it says more and counts as full. Else prove '..UptoSaid'. A law counts once. -/
mutual
def uptoBulk {H : Type} : DataW H → Nat
  | .lit (.string bytes) => bytes.length + 1
  | .lit _ => 1
  | .nil => 1
  | .ptr d => uptoBulk d + 1
  | .slice elems spare => uptoBulkAll elems + uptoBulkAll spare + 1
  | .agg parts => uptoBulkAll parts + 1
  | .iface _ d => uptoBulk d + 1
  | .map entries => uptoBulkEntries entries + 1
  | .held _ => 1
def uptoBulkAll {H : Type} : List (DataW H) → Nat
  | [] => 0
  | d :: r => uptoBulk d + uptoBulkAll r
def uptoBulkEntries {H : Type} : List (Lit × DataW H) → Nat
  | [] => 0
  | x :: r => uptoBulkEntry x + uptoBulkEntries r
def uptoBulkEntry {H : Type} : Lit × DataW H → Nat
  | (.string bytes, d) => bytes.length + uptoBulk d + 1
  | (_, d) => uptoBulk d + 1
 end
def uptoSmall : (H : Type) → List (DataW H) → Bool := fun _ ds => decide (uptoBulkAll ds ≤ 1048576)
def OpenSpec.upto (s : _root_.Go.ChangeSpec) : _root_.Go.OpenSpec := { _root_.Go.OpenSpec.ofChange s with cond := some uptoSmall }

/-- 'windlasslaw14.CallAgain', WHERE WHAT IT READS IS OF BULK AT MOST 1048576: true; the input reads as it did. -/
def callAgainUptoRow : OpenClaim := { program := "ytmeddeaphmpjcaa", sum := "83960a99cfdb7a5d07d77b4c554269790fe8136f893618332c4908f1527a26e4", func := "windlass/windlasslaw14.CallAgain", spec := "callAgain", unfollowed := true, recurses := true, apart := false, narrowed := true }
def CallAgainUptoSaid : Prop := callAgainUptoRow.holds Try.pinned (OpenSpec.upto callAgainSpec)

/-- 'windlasslaw14.CallOnce', WHERE WHAT IT READS IS OF BULK AT MOST 1048576: true; the input reads as it did. -/
def callOnceUptoRow : OpenClaim := { program := "ytmeddeaphmpjcaa", sum := "83960a99cfdb7a5d07d77b4c554269790fe8136f893618332c4908f1527a26e4", func := "windlass/windlasslaw14.CallOnce", spec := "callOnce", unfollowed := true, recurses := true, apart := false, narrowed := true }
def CallOnceUptoSaid : Prop := callOnceUptoRow.holds Try.pinned (OpenSpec.upto callOnceSpec)

/-- 'windlasslaw14.CallDrops', WHERE WHAT IT READS IS OF BULK AT MOST 1048576: true; the input reads as it did. -/
def callDropsUptoRow : OpenClaim := { program := "ytmeddeaphmpjcaa", sum := "83960a99cfdb7a5d07d77b4c554269790fe8136f893618332c4908f1527a26e4", func := "windlass/windlasslaw14.CallDrops", spec := "callDrops", unfollowed := true, recurses := true, apart := false, narrowed := true }
def CallDropsUptoSaid : Prop := callDropsUptoRow.holds Try.pinned (OpenSpec.upto callDropsSpec)

end Rows
end Go.Proofs.Ytmeddeaphmpjcaa
