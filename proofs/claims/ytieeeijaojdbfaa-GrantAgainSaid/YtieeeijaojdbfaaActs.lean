/- Acts of a script: how a slice of them reads. -/
import Derived.Test.YtieeeijaojdbfaaGrantG
namespace Go.Proofs.Ytieeeijaojdbfaa
open Go.RowKit

structure ActM where
  (fr ag at_ : Int)
  x : AskM
def ActM.cells (a : ActM) : List Value := [.int .i64 a.fr, .int .i64 a.ag, .int .i64 a.at_, .int .i64 a.x.kind, .int .i64 a.x.stripe, .int .i64 a.x.epoch, .int .i64 a.x.seq, .int .i64 a.x.mask, .int .i64 a.x.node, .int .i64 a.x.oe, .int .i64 a.x.os, .string a.x.block]
structure ActOk (a : ActM) : Prop where
  fr : -9223372036854775808 ≤ a.fr ∧ a.fr ≤ 9223372036854775807
  at_ : -9223372036854775808 ≤ a.at_ ∧ a.at_ ≤ 9223372036854775807
  x : RawOk a.x
/-- a slice of acts reads so -/
def ActsAt (w : World) (A : Option Addr) (n : Nat) (acts : Nat → ActM) : Prop :=
  ∀ k, k < n → ActOk (acts k) ∧ ∃ b o, A = some ⟨b, o, none⟩ ∧ b < w.heap.size ∧ ∀ j, j < 12 → w.cell? ⟨b, o + k * 12 + j, none⟩ = (acts k).cells[j]?
theorem lease_is (kb lb : Nat) (k : KeepM) (s : Int) (r : LeaseM × Bool) (h : leaseOf k s = r) (w : World) (hK : KeepAt w kb lb k) (ho : KeepOk k) :
    Calls Try.prog 12 #[.pointer (some ⟨kb, 0, none⟩), .int .i64 s] w (LeasePost r w) := h ▸ lease_of kb lb k s w hK ho
/-- what Ask makes: kind, stripe, epoch, node -/
structure AskIs (s : Nat) (q : AskM) : Prop where
  kind : q.kind = 8 ∨ q.kind = 9 ∨ q.kind = 10
  stripe : q.stripe = s
  rest : q = ⟨q.kind, q.stripe, q.epoch, 0, 0, q.node, 0, 0, ⟨#[]⟩⟩
theorem askF_is (x : AskM) (ep : Int) (s : Nat) (hs : pickZ x.stripe 3 = s) : AskIs s (askF x ep) := by
  unfold askF
  rw [hs]
  split
  · exact ⟨.inl rfl, rfl, rfl⟩
  · split
    · exact ⟨.inr (.inl rfl), rfl, rfl⟩
    · exact ⟨.inr (.inr rfl), rfl, rfl⟩
end Go.Proofs.Ytieeeijaojdbfaa
