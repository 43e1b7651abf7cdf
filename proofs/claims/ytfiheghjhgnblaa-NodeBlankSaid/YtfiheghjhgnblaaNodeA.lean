/- Layer 10's acts, as they come in; what an ask does a second time. Plain lemmas; no program. -/
import Derived.Test.YtfiheghjhgnblaaRuleF
import Derived.Test.YtfiheghjhgnblaaRuleT
import Derived.Test.YtfiheghjhgnblaaLawM
namespace Go.Proofs.Ytfiheghjhgnblaa
open Go.RowKit

structure Act10 where
  (what stripe n : Int)
  (ask : Raw9)
  (text : ByteArray)
  (ka : Option Addr)
  (kn kc : Nat)
structure Act10Ok (x : Act10) : Prop where
  what : I64 x.what
  stripe : I64 x.stripe
  n : I64 x.n
  ask : Raw9Ok x.ask
def Act10.cells (x : Act10) : List Value := [.int .i64 x.what, .int .i64 x.stripe, .int .i64 x.n, .int .i64 x.ask.kind, .int .i64 x.ask.stripe, .int .i64 x.ask.epoch, .int .i64 x.ask.seq, .int .i64 x.ask.mask, .int .i64 x.ask.node, .int .i64 x.ask.oe, .int .i64 x.ask.os, .string x.ask.block, .string x.text, .slice x.ka x.kn x.kc]
def Acts10At (w : World) (A : Option Addr) (n : Nat) (f : Nat → Act10) : Prop :=
  ∀ k, k < n → Act10Ok (f k) ∧ ∃ b o, A = some ⟨b, o, none⟩ ∧ b < w.heap.size ∧ ∀ j, j < 14 → w.cell? ⟨b, o + k * 14 + j, none⟩ = (f k).cells[j]?
/-- the ask of another stripe -/
def qs (q : AskM) (k : Int) : AskM := ⟨q.kind, k, q.epoch, q.seq, q.mask, q.node, q.oe, q.os, q.block⟩
theorem qs_ok {q : AskM} (h : AskOk q) {k : Int} (hk : 0 ≤ k ∧ k ≤ 7) : AskOk (qs q k) := ⟨h.kind, hk, h.epoch, h.epoch8, h.seq, h.seq0, h.mask4, h.mask6, h.mask0, h.block, h.block0, h.old, h.old0, h.node, h.node0⟩
theorem not6 {r : RecM} {q : AskM} {x : RecM} {s : SayR} (hk : 1 ≤ q.kind) (h7 : ¬ 7 < q.kind) (h : applyM r q = (x, s)) : s.st ≠ 6 := by
  have hd := does r q hk
  rw [h] at hd
  generalize hp : (x, s) = p at hd
  cases hd with
  | bad k => exact absurd k h7
  | _ =>
    cases hp
    intro e
    cases e
/-- the same epoch is told a second time -/
theorem ep_twice {r : RecM} {q : AskM} {x : RecM} {s t : SayR} (hk : 1 ≤ q.kind) (h : applyM r q = (x, s)) (h2 : applyM x q = (x, t)) : s.ep = t.ep := by
  by_cases h7 : 7 < q.kind
  · have e : ∀ y : RecM, applyM y q = (y, ⟨6, 0, 0, blankR 0⟩) := fun y => by
      unfold applyM
      rw [decide_eq_true (show q.kind > 7 from h7), cond_true]
    rw [e] at h h2
    rw [← (Prod.mk.inj h).2, ← (Prod.mk.inj h2).2]
  · rw [(stays hk h).2.2 (not6 hk h7 h), (stays hk h2).2.2 (not6 hk h7 h2)]
end Go.Proofs.Ytfiheghjhgnblaa
