/- Layer 14: what a party has asked: the plain model, and where it lies. No program. -/
import Derived.Test.YtmeddeaphmpjcaaRuleM
import Derived.Test.YtmeddeaphmpjcaaOwnR
namespace Go.Proofs.Ytmeddeaphmpjcaa
open Go.RowKit
/-- a call that is open -/
structure OneM where
  (to id : Int)
  q : AskM
  (asked sent : Int)
def OneM.cells (o : OneM) : List Value := [.int .i64 o.to, .int .i64 o.id, .int .i64 o.q.kind, .int .i64 o.q.stripe, .int .i64 o.q.epoch, .int .i64 o.q.seq, .int .i64 o.q.mask, .int .i64 o.q.node, .int .i64 o.q.oe, .int .i64 o.q.os, .string o.q.block, .int .i64 o.asked, .int .i64 o.sent]
def onesV (l : List OneM) : List Value := (l.map OneM.cells).flatten
theorem onesV_len (l : List OneM) : (onesV l).length = l.length * 13 := by
  induction l with
  | nil => rfl
  | cons o l ih =>
    show (o.cells ++ onesV l).length = _
    rw [List.length_append, ih, List.length_cons]
    show 13 + _ = _
    omega
theorem onesV_snoc (l : List OneM) (o : OneM) : onesV l ++ o.cells = onesV (l ++ [o]) := by simp [onesV]
theorem onesV_get {l : List OneM} {i j : Nat} {o : OneM} (h : l[i]? = some o) (hj : j < 13) : (onesV l)[i * 13 + j]? = o.cells[j]? := by
  induction l generalizing i with
  | nil => simp at h
  | cons x l ih =>
    show (x.cells ++ onesV l)[i * 13 + j]? = _
    cases i with
    | zero =>
      simp only [List.getElem?_cons_zero, Option.some.injEq] at h
      subst h
      rw [List.getElem?_append_left (by show _ < 13; omega)]
      simp
    | succ i =>
      rw [List.getElem?_append_right (by show 13 ≤ _; omega)]
      have e : (i + 1) * 13 + j - x.cells.length = i * 13 + j := by show _ - 13 = _; omega
      rw [e]
      exact ih (by simpa using h)
/-- what a party has asked, and not been answered -/
structure CM where
  (frm last : Int)
  opn : List OneM
/-- a number, taken from 0 to 2^40 -/
def within14 (n : Int) : Int := minZ (maxZ n 0) 1099511627776
/-- where it lies: its open calls in a slice of its own -/
def CallAt (tC tO : TypeId) (w : World) (base cb : Nat) (c : CM) : Prop :=
  ∃ A cp, Blk w cb tC [.int .i64 c.frm, .int .i64 c.last, .slice A c.opn.length cp] ∧ OwnR w base tO 13 A c.opn.length cp (onesV c.opn)
def askB (c : CM) (to : Int) : Bool := decide (c.opn.length < 8) && decide (c.last < 1099511627776) && decide (0 ≤ to) && decide (to < 202)
def askC (c : CM) (now to : Int) (q : AskM) : CM := ⟨c.frm, c.last + 1, c.opn ++ [⟨to, c.last + 1, q, within14 now, within14 now⟩]⟩
/-- what the iterator 'meant' leans on: what it has captured; the calls from where it stands on are as they were -/
structure MeantI (w0 : World) (tCp tF tC : TypeId) (c1 c2 cb : Nat) (fv : Value) (X : World → Prop) (frm last : Int) (A : Option Addr) (cp : Nat) (opn : List OneM) (pre : List Nat) (W : World) : Prop where
  kp : Kept (fun _ => True) w0 W
  c1 : Blk W c1 tCp [.pointer (some ⟨cb, 0, none⟩)]
  c2 : Blk W c2 tF [fv]
  x : X W
  hd : pre = [] → Blk W cb tC [.int .i64 frm, .int .i64 last, .slice A opn.length cp]
  arr : ∀ (j : Nat) (o : OneM), opn[j]? = some o → (∀ i ∈ pre, i < j) → ∃ g, A = some ⟨g, 0, none⟩ ∧ g < W.heap.size ∧ ∀ (i : Nat) (v : Value), o.cells[i]? = some v → W.cell? ⟨g, 0 + j * 13 + i, none⟩ = some v
def meantL (ok : OneM → Bool) (opn : List OneM) (j : Nat) : List Nat := (List.range j).filter (fun i => match opn[i]? with | some o => ok o | none => false)
theorem meantL_lt {ok : OneM → Bool} {opn : List OneM} {j : Nat} : ∀ i ∈ meantL ok opn j, i < j := fun i hi => by
  simp only [meantL, List.mem_filter, List.mem_range] at hi
  exact hi.1
theorem meantL_succ {ok : OneM → Bool} {opn : List OneM} {j : Nat} {o : OneM} (h : opn[j]? = some o) : meantL ok opn (j + 1) = bif ok o then meantL ok opn j ++ [j] else meantL ok opn j := by
  unfold meantL
  rw [List.range_succ, List.filter_append]
  cases hk : ok o <;> simp [h, hk]
theorem meantL_len {ok : OneM → Bool} {opn : List OneM} {j : Nat} : (meantL ok opn j).length ≤ j := by
  unfold meantL
  exact Nat.le_trans (List.length_filter_le _ _) (by rw [List.length_range]; exact Nat.le_refl _)
/-- what has come, where the range was left -/
def MeantSp (ok : OneM → Bool) (opn : List OneM) (pre : List Nat) : Prop := ∃ j o, opn[j]? = some o ∧ ok o = true ∧ pre = meantL ok opn j ++ [j]
/-- what is told next -/
def MeantV (ok : OneM → Bool) (opn : List OneM) (pre : List Nat) (j : Nat) : Prop := ∃ o, opn[j]? = some o ∧ ok o = true ∧ pre = meantL ok opn j
end Go.Proofs.Ytmeddeaphmpjcaa
