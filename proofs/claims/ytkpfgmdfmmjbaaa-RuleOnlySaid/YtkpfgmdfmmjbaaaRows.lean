/-
  No cell of these rows narrows 'for every input' (looked for: loops, veiled, ifaces, maps, wideKeys, modest, calm, conditions, laid).
  DERIVED. THE GIVEN ROWS OF THIS SEAT. 6 by the template 'for every input the law returns true; each argument reads behind the call as it read before'; 0 by the template 'total and deterministic' (their statements: YtkpfgmdfmmjbaaaTotals.lean).
  GIVEN WITH THE SEED: the statements are not yours to turn. If you find one false, say at which input.
  Laid BY PROGRAM, IN A SANDBOX (cutbox-rows.mjs): the forced cells as the released guide's own fill.sh prints them over the translation ff58f5da2c3065c2… (all of the seat's roots in one cut). By AI agents, Wed Nov 11 2026. No macro, syntax, notation, axiom, sorry.
-/
import Derived.Test.YtkpfgmdfmmjbaaaChecked
import GoSem.Claim
import GoSem.ClaimJoined
import GoSem.ClaimMapViews
import Derived.JoinedTies
import Derived.KernelRfl
namespace Go.Proofs.Ytkpfgmdfmmjbaaa
/- THE CELL 'sum', in the pinned program and in every row, IS THE sha256 OF THE DUMP (.gsa) THAT YtkpfgmdfmmjbaaaProg.lean LOADS. Nothing in Lean hashes anything: it is a label: what it is worth is what the hold of that sum in a sandbox is worth. -/
noncomputable def Try.pinned : Pinned := { name := "ytkpfgmdfmmjbaaa", sum := "ff58f5da2c3065c200d907e42ebf9ca5c3bbc3f6d19ec14a3c2e2da5e0d472e2", checked := Try.checked }
namespace Rows
def none {H : Type} : Left H := { results := [], args := [] }

/-- 'windlasslaw09.RuleStays': WHATEVER THE INPUT: true; the input reads as it did. -/
def ruleStaysSpec : ChangeSpec := { name := "ruleStays", fn := fun _ => fun
  | [d1, d2] => { results := [.lit (.bool true)], args := [d1, d2] }
  | _ => none }
def ruleStaysRow : OpenClaim := { program := "ytkpfgmdfmmjbaaa", sum := "ff58f5da2c3065c200d907e42ebf9ca5c3bbc3f6d19ec14a3c2e2da5e0d472e2", func := "windlass/windlasslaw09.RuleStays", spec := "ruleStays", unfollowed := true, recurses := true, apart := false }
def RuleStaysSaid : Prop := ruleStaysRow.holds Try.pinned (OpenSpec.ofChange ruleStaysSpec)

/-- ITS FALSE NEIGHBOUR: 'it returns false'. Refute it at one input. -/
def ruleStaysWrong : ChangeSpec := { name := "ruleStays", fn := fun _ => fun
  | [d1, d2] => { results := [.lit (.bool false)], args := [d1, d2] }
  | _ => none }
def RuleStaysWrongFalsely : Prop := ruleStaysRow.holds Try.pinned (OpenSpec.ofChange ruleStaysWrong)

/-- 'windlasslaw09.RuleTwice': WHATEVER THE INPUT: true; the input reads as it did. -/
def ruleTwiceSpec : ChangeSpec := { name := "ruleTwice", fn := fun _ => fun
  | [d1, d2] => { results := [.lit (.bool true)], args := [d1, d2] }
  | _ => none }
def ruleTwiceRow : OpenClaim := { program := "ytkpfgmdfmmjbaaa", sum := "ff58f5da2c3065c200d907e42ebf9ca5c3bbc3f6d19ec14a3c2e2da5e0d472e2", func := "windlass/windlasslaw09.RuleTwice", spec := "ruleTwice", unfollowed := true, recurses := true, apart := false }
def RuleTwiceSaid : Prop := ruleTwiceRow.holds Try.pinned (OpenSpec.ofChange ruleTwiceSpec)

/-- ITS FALSE NEIGHBOUR: 'it returns false'. Refute it at one input. -/
def ruleTwiceWrong : ChangeSpec := { name := "ruleTwice", fn := fun _ => fun
  | [d1, d2] => { results := [.lit (.bool false)], args := [d1, d2] }
  | _ => none }
def RuleTwiceWrongFalsely : Prop := ruleTwiceRow.holds Try.pinned (OpenSpec.ofChange ruleTwiceWrong)

/-- 'windlasslaw09.RuleRises': WHATEVER THE INPUT: true; the input reads as it did. -/
def ruleRisesSpec : ChangeSpec := { name := "ruleRises", fn := fun _ => fun
  | [d1, d2] => { results := [.lit (.bool true)], args := [d1, d2] }
  | _ => none }
def ruleRisesRow : OpenClaim := { program := "ytkpfgmdfmmjbaaa", sum := "ff58f5da2c3065c200d907e42ebf9ca5c3bbc3f6d19ec14a3c2e2da5e0d472e2", func := "windlass/windlasslaw09.RuleRises", spec := "ruleRises", unfollowed := true, recurses := true, apart := false }
def RuleRisesSaid : Prop := ruleRisesRow.holds Try.pinned (OpenSpec.ofChange ruleRisesSpec)

/-- ITS FALSE NEIGHBOUR: 'it returns false'. Refute it at one input. -/
def ruleRisesWrong : ChangeSpec := { name := "ruleRises", fn := fun _ => fun
  | [d1, d2] => { results := [.lit (.bool false)], args := [d1, d2] }
  | _ => none }
def RuleRisesWrongFalsely : Prop := ruleRisesRow.holds Try.pinned (OpenSpec.ofChange ruleRisesWrong)

/-- 'windlasslaw09.RuleOnly': WHATEVER THE INPUT: true; the input reads as it did. -/
def ruleOnlySpec : ChangeSpec := { name := "ruleOnly", fn := fun _ => fun
  | [d1, d2] => { results := [.lit (.bool true)], args := [d1, d2] }
  | _ => none }
def ruleOnlyRow : OpenClaim := { program := "ytkpfgmdfmmjbaaa", sum := "ff58f5da2c3065c200d907e42ebf9ca5c3bbc3f6d19ec14a3c2e2da5e0d472e2", func := "windlass/windlasslaw09.RuleOnly", spec := "ruleOnly", unfollowed := true, recurses := true, apart := false }
def RuleOnlySaid : Prop := ruleOnlyRow.holds Try.pinned (OpenSpec.ofChange ruleOnlySpec)

/-- ITS FALSE NEIGHBOUR: 'it returns false'. Refute it at one input. -/
def ruleOnlyWrong : ChangeSpec := { name := "ruleOnly", fn := fun _ => fun
  | [d1, d2] => { results := [.lit (.bool false)], args := [d1, d2] }
  | _ => none }
def RuleOnlyWrongFalsely : Prop := ruleOnlyRow.holds Try.pinned (OpenSpec.ofChange ruleOnlyWrong)

/-- 'windlasslaw09.RuleBlank': WHATEVER THE INPUT: true; the input reads as it did. -/
def ruleBlankSpec : ChangeSpec := { name := "ruleBlank", fn := fun _ => fun
  | [d1, d2] => { results := [.lit (.bool true)], args := [d1, d2] }
  | _ => none }
def ruleBlankRow : OpenClaim := { program := "ytkpfgmdfmmjbaaa", sum := "ff58f5da2c3065c200d907e42ebf9ca5c3bbc3f6d19ec14a3c2e2da5e0d472e2", func := "windlass/windlasslaw09.RuleBlank", spec := "ruleBlank", unfollowed := true, recurses := true, apart := false }
def RuleBlankSaid : Prop := ruleBlankRow.holds Try.pinned (OpenSpec.ofChange ruleBlankSpec)

/-- ITS FALSE NEIGHBOUR: 'it returns false'. Refute it at one input. -/
def ruleBlankWrong : ChangeSpec := { name := "ruleBlank", fn := fun _ => fun
  | [d1, d2] => { results := [.lit (.bool false)], args := [d1, d2] }
  | _ => none }
def RuleBlankWrongFalsely : Prop := ruleBlankRow.holds Try.pinned (OpenSpec.ofChange ruleBlankWrong)

/-- 'windlasslaw09.RuleOrder': WHATEVER THE INPUT: true; the input reads as it did. -/
def ruleOrderSpec : ChangeSpec := { name := "ruleOrder", fn := fun _ => fun
  | [d1, d2, d3] => { results := [.lit (.bool true)], args := [d1, d2, d3] }
  | _ => none }
def ruleOrderRow : OpenClaim := { program := "ytkpfgmdfmmjbaaa", sum := "ff58f5da2c3065c200d907e42ebf9ca5c3bbc3f6d19ec14a3c2e2da5e0d472e2", func := "windlass/windlasslaw09.RuleOrder", spec := "ruleOrder", unfollowed := true, recurses := true, apart := false }
def RuleOrderSaid : Prop := ruleOrderRow.holds Try.pinned (OpenSpec.ofChange ruleOrderSpec)

/-- ITS FALSE NEIGHBOUR: 'it returns false'. Refute it at one input. -/
def ruleOrderWrong : ChangeSpec := { name := "ruleOrder", fn := fun _ => fun
  | [d1, d2, d3] => { results := [.lit (.bool false)], args := [d1, d2, d3] }
  | _ => none }
def RuleOrderWrongFalsely : Prop := ruleOrderRow.holds Try.pinned (OpenSpec.ofChange ruleOrderWrong)

/- THE SECOND FORM. 'bulk': how many values and letters a reading holds, each counted each time it is reached (what is shared counts as often as it is met; a slice's spare places count too). A statement '..UptoSaid' is the law's where the arguments, and the package variables that the reading takes, are together of bulk at most 1048576: NARROWER than '..Said'. Prove '..Said' where nothing that the law and all that it calls make is longer than what came in: it says more and counts as full. Else prove '..UptoSaid'. A law counts once. -/
mutual
def uptoBulk {H : Type} : DataW H → Nat
  | .lit (.string bytes) => bytes.length + 1
  | .lit _ => 1
  | .nil => 1
  | .ptr d => uptoBulk d + 1
  | .slice elems spare => uptoBulkAll elems + uptoBulkAll spare + 1
  | .agg parts => uptoBulkAll parts + 1
  | .iface _ d => uptoBulk d + 1
  | .map entries => uptoBulkEntries entries + 1
  | .held _ => 1
def uptoBulkAll {H : Type} : List (DataW H) → Nat
  | [] => 0
  | d :: r => uptoBulk d + uptoBulkAll r
def uptoBulkEntries {H : Type} : List (Lit × DataW H) → Nat
  | [] => 0
  | x :: r => uptoBulkEntry x + uptoBulkEntries r
def uptoBulkEntry {H : Type} : Lit × DataW H → Nat
  | (.string bytes, d) => bytes.length + uptoBulk d + 1
  | (_, d) => uptoBulk d + 1
 end
def uptoSmall : (H : Type) → List (DataW H) → Bool := fun _ ds => decide (uptoBulkAll ds ≤ 1048576)
def OpenSpec.upto (s : _root_.Go.ChangeSpec) : _root_.Go.OpenSpec := { _root_.Go.OpenSpec.ofChange s with cond := some uptoSmall }

/-- 'windlasslaw09.RuleStays', WHERE WHAT IT READS IS OF BULK AT MOST 1048576: true; the input reads as it did. -/
def ruleStaysUptoRow : OpenClaim := { program := "ytkpfgmdfmmjbaaa", sum := "ff58f5da2c3065c200d907e42ebf9ca5c3bbc3f6d19ec14a3c2e2da5e0d472e2", func := "windlass/windlasslaw09.RuleStays", spec := "ruleStays", unfollowed := true, recurses := true, apart := false, narrowed := true }
def RuleStaysUptoSaid : Prop := ruleStaysUptoRow.holds Try.pinned (OpenSpec.upto ruleStaysSpec)

/-- 'windlasslaw09.RuleTwice', WHERE WHAT IT READS IS OF BULK AT MOST 1048576: true; the input reads as it did. -/
def ruleTwiceUptoRow : OpenClaim := { program := "ytkpfgmdfmmjbaaa", sum := "ff58f5da2c3065c200d907e42ebf9ca5c3bbc3f6d19ec14a3c2e2da5e0d472e2", func := "windlass/windlasslaw09.RuleTwice", spec := "ruleTwice", unfollowed := true, recurses := true, apart := false, narrowed := true }
def RuleTwiceUptoSaid : Prop := ruleTwiceUptoRow.holds Try.pinned (OpenSpec.upto ruleTwiceSpec)

/-- 'windlasslaw09.RuleRises', WHERE WHAT IT READS IS OF BULK AT MOST 1048576: true; the input reads as it did. -/
def ruleRisesUptoRow : OpenClaim := { program := "ytkpfgmdfmmjbaaa", sum := "ff58f5da2c3065c200d907e42ebf9ca5c3bbc3f6d19ec14a3c2e2da5e0d472e2", func := "windlass/windlasslaw09.RuleRises", spec := "ruleRises", unfollowed := true, recurses := true, apart := false, narrowed := true }
def RuleRisesUptoSaid : Prop := ruleRisesUptoRow.holds Try.pinned (OpenSpec.upto ruleRisesSpec)

/-- 'windlasslaw09.RuleOnly', WHERE WHAT IT READS IS OF BULK AT MOST 1048576: true; the input reads as it did. -/
def ruleOnlyUptoRow : OpenClaim := { program := "ytkpfgmdfmmjbaaa", sum := "ff58f5da2c3065c200d907e42ebf9ca5c3bbc3f6d19ec14a3c2e2da5e0d472e2", func := "windlass/windlasslaw09.RuleOnly", spec := "ruleOnly", unfollowed := true, recurses := true, apart := false, narrowed := true }
def RuleOnlyUptoSaid : Prop := ruleOnlyUptoRow.holds Try.pinned (OpenSpec.upto ruleOnlySpec)

/-- 'windlasslaw09.RuleBlank', WHERE WHAT IT READS IS OF BULK AT MOST 1048576: true; the input reads as it did. -/
def ruleBlankUptoRow : OpenClaim := { program := "ytkpfgmdfmmjbaaa", sum := "ff58f5da2c3065c200d907e42ebf9ca5c3bbc3f6d19ec14a3c2e2da5e0d472e2", func := "windlass/windlasslaw09.RuleBlank", spec := "ruleBlank", unfollowed := true, recurses := true, apart := false, narrowed := true }
def RuleBlankUptoSaid : Prop := ruleBlankUptoRow.holds Try.pinned (OpenSpec.upto ruleBlankSpec)

/-- 'windlasslaw09.RuleOrder', WHERE WHAT IT READS IS OF BULK AT MOST 1048576: true; the input reads as it did. -/
def ruleOrderUptoRow : OpenClaim := { program := "ytkpfgmdfmmjbaaa", sum := "ff58f5da2c3065c200d907e42ebf9ca5c3bbc3f6d19ec14a3c2e2da5e0d472e2", func := "windlass/windlasslaw09.RuleOrder", spec := "ruleOrder", unfollowed := true, recurses := true, apart := false, narrowed := true }
def RuleOrderUptoSaid : Prop := ruleOrderUptoRow.holds Try.pinned (OpenSpec.upto ruleOrderSpec)

end Rows
end Go.Proofs.Ytkpfgmdfmmjbaaa
