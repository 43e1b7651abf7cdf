/-
  No cell of these rows narrows 'for every input' (looked for: loops, veiled, ifaces, maps, wideKeys, modest, calm, conditions, laid).
  DERIVED. THE GIVEN ROWS OF THIS SEAT. 5 by the template 'for every input the law returns true; each argument reads behind the call as it read before'; 0 by the template 'total and deterministic' (their statements: YthndmmondlpghaaTotals.lean).
  GIVEN WITH THE SEED: the statements are not yours to turn. If you find one false, say at which input.
  Laid BY PROGRAM, IN A SANDBOX (cutbox-rows.mjs): the forced cells as the released guide's own fill.sh prints them over the translation ae8002b7ae97e512… (all of the seat's roots in one cut). By AI agents, Wed Nov 11 2026. No macro, syntax, notation, axiom, sorry.
-/
import Derived.Test.YthndmmondlpghaaChecked
import GoSem.Claim
import GoSem.ClaimJoined
import GoSem.ClaimMapViews
import Derived.JoinedTies
import Derived.KernelRfl
namespace Go.Proofs.Ythndmmondlpghaa
/- THE CELL 'sum', in the pinned program and in every row, IS THE sha256 OF THE DUMP (.gsa) THAT YthndmmondlpghaaProg.lean LOADS. Nothing in Lean hashes anything: it is a label: what it is worth is what the hold of that sum in a sandbox is worth. -/
noncomputable def Try.pinned : Pinned := { name := "ythndmmondlpghaa", sum := "ae8002b7ae97e512956aefb274bbed2521f3f95af2566e9708ef7baeecaadf6d", checked := Try.checked }
namespace Rows
def none {H : Type} : Left H := { results := [], args := [] }

/-- 'windlasslaw13.NetOrder': WHATEVER THE INPUT: true; the input reads as it did. -/
def netOrderSpec : ChangeSpec := { name := "netOrder", fn := fun _ => fun
  | [d1, d2] => { results := [.lit (.bool true)], args := [d1, d2] }
  | _ => none }
def netOrderRow : OpenClaim := { program := "ythndmmondlpghaa", sum := "ae8002b7ae97e512956aefb274bbed2521f3f95af2566e9708ef7baeecaadf6d", func := "windlass/windlasslaw13.NetOrder", spec := "netOrder", unfollowed := true, recurses := true, apart := false }
def NetOrderSaid : Prop := netOrderRow.holds Try.pinned (OpenSpec.ofChange netOrderSpec)

/-- ITS FALSE NEIGHBOUR: 'it returns false'. Refute it at one input. -/
def netOrderWrong : ChangeSpec := { name := "netOrder", fn := fun _ => fun
  | [d1, d2] => { results := [.lit (.bool false)], args := [d1, d2] }
  | _ => none }
def NetOrderWrongFalsely : Prop := netOrderRow.holds Try.pinned (OpenSpec.ofChange netOrderWrong)

/-- 'windlasslaw13.NetApart': WHATEVER THE INPUT: true; the input reads as it did. -/
def netApartSpec : ChangeSpec := { name := "netApart", fn := fun _ => fun
  | [d1, d2] => { results := [.lit (.bool true)], args := [d1, d2] }
  | _ => none }
def netApartRow : OpenClaim := { program := "ythndmmondlpghaa", sum := "ae8002b7ae97e512956aefb274bbed2521f3f95af2566e9708ef7baeecaadf6d", func := "windlass/windlasslaw13.NetApart", spec := "netApart", unfollowed := true, recurses := true, apart := false }
def NetApartSaid : Prop := netApartRow.holds Try.pinned (OpenSpec.ofChange netApartSpec)

/-- ITS FALSE NEIGHBOUR: 'it returns false'. Refute it at one input. -/
def netApartWrong : ChangeSpec := { name := "netApart", fn := fun _ => fun
  | [d1, d2] => { results := [.lit (.bool false)], args := [d1, d2] }
  | _ => none }
def NetApartWrongFalsely : Prop := netApartRow.holds Try.pinned (OpenSpec.ofChange netApartWrong)

/-- 'windlasslaw13.NetPlays': WHATEVER THE INPUT: true; the input reads as it did. -/
def netPlaysSpec : ChangeSpec := { name := "netPlays", fn := fun _ => fun
  | [d] => { results := [.lit (.bool true)], args := [d] }
  | _ => none }
def netPlaysRow : OpenClaim := { program := "ythndmmondlpghaa", sum := "ae8002b7ae97e512956aefb274bbed2521f3f95af2566e9708ef7baeecaadf6d", func := "windlass/windlasslaw13.NetPlays", spec := "netPlays", unfollowed := true, recurses := true, apart := false }
def NetPlaysSaid : Prop := netPlaysRow.holds Try.pinned (OpenSpec.ofChange netPlaysSpec)

/-- ITS FALSE NEIGHBOUR: 'it returns false'. Refute it at one input. -/
def netPlaysWrong : ChangeSpec := { name := "netPlays", fn := fun _ => fun
  | [d] => { results := [.lit (.bool false)], args := [d] }
  | _ => none }
def NetPlaysWrongFalsely : Prop := netPlaysRow.holds Try.pinned (OpenSpec.ofChange netPlaysWrong)

/-- 'windlasslaw13.NetSent': WHATEVER THE INPUT: true; the input reads as it did. -/
def netSentSpec : ChangeSpec := { name := "netSent", fn := fun _ => fun
  | [d] => { results := [.lit (.bool true)], args := [d] }
  | _ => none }
def netSentRow : OpenClaim := { program := "ythndmmondlpghaa", sum := "ae8002b7ae97e512956aefb274bbed2521f3f95af2566e9708ef7baeecaadf6d", func := "windlass/windlasslaw13.NetSent", spec := "netSent", unfollowed := true, recurses := true, apart := false }
def NetSentSaid : Prop := netSentRow.holds Try.pinned (OpenSpec.ofChange netSentSpec)

/-- ITS FALSE NEIGHBOUR: 'it returns false'. Refute it at one input. -/
def netSentWrong : ChangeSpec := { name := "netSent", fn := fun _ => fun
  | [d] => { results := [.lit (.bool false)], args := [d] }
  | _ => none }
def NetSentWrongFalsely : Prop := netSentRow.holds Try.pinned (OpenSpec.ofChange netSentWrong)

/-- 'windlasslaw13.NetSorts': WHATEVER THE INPUT: true; the input reads as it did. -/
def netSortsSpec : ChangeSpec := { name := "netSorts", fn := fun _ => fun
  | [d] => { results := [.lit (.bool true)], args := [d] }
  | _ => none }
def netSortsRow : OpenClaim := { program := "ythndmmondlpghaa", sum := "ae8002b7ae97e512956aefb274bbed2521f3f95af2566e9708ef7baeecaadf6d", func := "windlass/windlasslaw13.NetSorts", spec := "netSorts", unfollowed := true, recurses := true, apart := false }
def NetSortsSaid : Prop := netSortsRow.holds Try.pinned (OpenSpec.ofChange netSortsSpec)

/-- ITS FALSE NEIGHBOUR: 'it returns false'. Refute it at one input. -/
def netSortsWrong : ChangeSpec := { name := "netSorts", fn := fun _ => fun
  | [d] => { results := [.lit (.bool false)], args := [d] }
  | _ => none }
def NetSortsWrongFalsely : Prop := netSortsRow.holds Try.pinned (OpenSpec.ofChange netSortsWrong)

/- THE SECOND FORM. 'bulk': how many values and letters a reading holds, each counted each time it is reached (what is shared counts as often as it is met; a slice's spare places count too). A statement '..UptoSaid' is the law's where the arguments, and the package variables that the reading takes, are together of bulk at most 1048576: NARROWER than '..Said'. Prove '..Said' where nothing that the law and all that it calls make is longer than what came in: it says more and counts as full. Else prove '..UptoSaid'. A law counts once. -/
mutual
def uptoBulk {H : Type} : DataW H → Nat
  | .lit (.string bytes) => bytes.length + 1
  | .lit _ => 1
  | .nil => 1
  | .ptr d => uptoBulk d + 1
  | .slice elems spare => uptoBulkAll elems + uptoBulkAll spare + 1
  | .agg parts => uptoBulkAll parts + 1
  | .iface _ d => uptoBulk d + 1
  | .map entries => uptoBulkEntries entries + 1
  | .held _ => 1
def uptoBulkAll {H : Type} : List (DataW H) → Nat
  | [] => 0
  | d :: r => uptoBulk d + uptoBulkAll r
def uptoBulkEntries {H : Type} : List (Lit × DataW H) → Nat
  | [] => 0
  | x :: r => uptoBulkEntry x + uptoBulkEntries r
def uptoBulkEntry {H : Type} : Lit × DataW H → Nat
  | (.string bytes, d) => bytes.length + uptoBulk d + 1
  | (_, d) => uptoBulk d + 1
 end
def uptoSmall : (H : Type) → List (DataW H) → Bool := fun _ ds => decide (uptoBulkAll ds ≤ 1048576)
def OpenSpec.upto (s : _root_.Go.ChangeSpec) : _root_.Go.OpenSpec := { _root_.Go.OpenSpec.ofChange s with cond := some uptoSmall }

/-- 'windlasslaw13.NetOrder', WHERE WHAT IT READS IS OF BULK AT MOST 1048576: true; the input reads as it did. -/
def netOrderUptoRow : OpenClaim := { program := "ythndmmondlpghaa", sum := "ae8002b7ae97e512956aefb274bbed2521f3f95af2566e9708ef7baeecaadf6d", func := "windlass/windlasslaw13.NetOrder", spec := "netOrder", unfollowed := true, recurses := true, apart := false, narrowed := true }
def NetOrderUptoSaid : Prop := netOrderUptoRow.holds Try.pinned (OpenSpec.upto netOrderSpec)

/-- 'windlasslaw13.NetApart', WHERE WHAT IT READS IS OF BULK AT MOST 1048576: true; the input reads as it did. -/
def netApartUptoRow : OpenClaim := { program := "ythndmmondlpghaa", sum := "ae8002b7ae97e512956aefb274bbed2521f3f95af2566e9708ef7baeecaadf6d", func := "windlass/windlasslaw13.NetApart", spec := "netApart", unfollowed := true, recurses := true, apart := false, narrowed := true }
def NetApartUptoSaid : Prop := netApartUptoRow.holds Try.pinned (OpenSpec.upto netApartSpec)

/-- 'windlasslaw13.NetPlays', WHERE WHAT IT READS IS OF BULK AT MOST 1048576: true; the input reads as it did. -/
def netPlaysUptoRow : OpenClaim := { program := "ythndmmondlpghaa", sum := "ae8002b7ae97e512956aefb274bbed2521f3f95af2566e9708ef7baeecaadf6d", func := "windlass/windlasslaw13.NetPlays", spec := "netPlays", unfollowed := true, recurses := true, apart := false, narrowed := true }
def NetPlaysUptoSaid : Prop := netPlaysUptoRow.holds Try.pinned (OpenSpec.upto netPlaysSpec)

/-- 'windlasslaw13.NetSent', WHERE WHAT IT READS IS OF BULK AT MOST 1048576: true; the input reads as it did. -/
def netSentUptoRow : OpenClaim := { program := "ythndmmondlpghaa", sum := "ae8002b7ae97e512956aefb274bbed2521f3f95af2566e9708ef7baeecaadf6d", func := "windlass/windlasslaw13.NetSent", spec := "netSent", unfollowed := true, recurses := true, apart := false, narrowed := true }
def NetSentUptoSaid : Prop := netSentUptoRow.holds Try.pinned (OpenSpec.upto netSentSpec)

/-- 'windlasslaw13.NetSorts', WHERE WHAT IT READS IS OF BULK AT MOST 1048576: true; the input reads as it did. -/
def netSortsUptoRow : OpenClaim := { program := "ythndmmondlpghaa", sum := "ae8002b7ae97e512956aefb274bbed2521f3f95af2566e9708ef7baeecaadf6d", func := "windlass/windlasslaw13.NetSorts", spec := "netSorts", unfollowed := true, recurses := true, apart := false, narrowed := true }
def NetSortsUptoSaid : Prop := netSortsUptoRow.holds Try.pinned (OpenSpec.upto netSortsSpec)

end Rows
end Go.Proofs.Ythndmmondlpghaa
