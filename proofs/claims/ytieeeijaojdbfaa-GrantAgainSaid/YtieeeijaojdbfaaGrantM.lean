/- The keeper of leases in plain Lean: what each of its functions answers, and what becomes of a lease. No program. -/
import Derived.Test.YtieeeijaojdbfaaMem
namespace Go.Proofs.Ytieeeijaojdbfaa
open Go.RowKit

def zi (n : Int) : Value := .int .i64 n

structure LeaseM where
  (ep ho un ou : Int)
  deriving DecidableEq

structure AskM where
  (kind stripe epoch seq mask node oe os : Int)
  block : ByteArray

structure SayM where
  (st ep ou : Int)
  deriving DecidableEq

structure KeepM where
  ls : List LeaseM
  (i0 i1 : Int)
  (s0 s1 : SayM)

def LeaseM.cells (l : LeaseM) : List Value := [.int .i64 l.ep, .int .i64 l.ho, .int .i64 l.un, .int .i64 l.ou]
def leaseCells (ls : List LeaseM) : List Value := ls.flatMap LeaseM.cells
def SayM.cells (s : SayM) : List Value := [.int .i64 s.st, .int .i64 s.ep, .int .i64 s.ou, .bool false, .int .i64 0, .int .i64 0, .int .i64 0, .string ⟨#[]⟩, .bool false, .int .i64 0, .int .i64 0, .int .i64 0, .string ⟨#[]⟩]

theorem length_leaseCells (ls : List LeaseM) : (leaseCells ls).length = 4 * ls.length := by
  induction ls with
  | nil => rfl
  | cons l ls ih => simp [leaseCells, LeaseM.cells] at ih ⊢; omega

theorem leaseCells_get : ∀ (ls : List LeaseM) (i j : Nat) (l : LeaseM), ls[i]? = some l → j < 4 → (leaseCells ls)[i * 4 + j]? = l.cells[j]?
  | [], _, _, _, h, _ => by simp at h
  | x :: ls, 0, j, l, h, hj => by
    simp at h; subst h
    simp only [leaseCells, List.flatMap_cons, Nat.zero_mul, Nat.zero_add]
    rw [List.getElem?_append_left (by simp [LeaseM.cells]; omega)]
  | x :: ls, i + 1, j, l, h, hj => by
    have := leaseCells_get ls i j l (by simpa using h) hj
    simp only [leaseCells, List.flatMap_cons] at this ⊢
    rw [List.getElem?_append_right (by simp [LeaseM.cells]; omega)]
    rw [← this]; congr 1; simp [LeaseM.cells]; omega

theorem leaseCells_set : ∀ (ls : List LeaseM) (i j : Nat) (l l' : LeaseM) (v : Value), ls[i]? = some l → j < 4 → l.cells.set j v = l'.cells → (leaseCells ls).set (i * 4 + j) v = leaseCells (ls.set i l')
  | [], _, _, _, _, _, h, _, _ => by simp at h
  | x :: ls, 0, j, l, l', v, h, hj, e => by
    simp at h; subst h
    simp only [leaseCells, List.flatMap_cons, Nat.zero_mul, Nat.zero_add, List.set_cons_zero]
    rw [List.set_append_left _ _ (by simp [LeaseM.cells]; omega), e]
  | x :: ls, i + 1, j, l, l', v, h, hj, e => by
    have := leaseCells_set ls i j l l' v (by simpa using h) hj e
    simp only [leaseCells, List.flatMap_cons, List.set_cons_succ] at this ⊢
    rw [List.set_append_right _ _ (by simp [LeaseM.cells]; omega), ← this]
    congr 2; simp [LeaseM.cells]; omega

/- what the functions answer -/
def leaseF (l : LeaseM) (now fr : Int) : Int × LeaseM :=
  if l.ho ≠ 0 ∧ l.ho ≠ fr ∧ now < l.un then (7, l)
  else if l.ep = 16777215 then (6, l)
  else (1, { l with ep := l.ep + 1, ho := fr, un := now + 30 })
def outF (l : LeaseM) (now fr qe qn : Int) : Int × LeaseM :=
  if l.ho ≠ fr ∨ l.ep ≠ qe then (2, l)
  else if l.ou ≠ -1 ∧ l.ou ≠ qn then (4, l)
  else if l.ep = 16777215 then (6, l)
  else (1, { l with ou := qn, ep := l.ep + 1, un := now + 30 })
def inF (l : LeaseM) (fr qe : Int) : Int × LeaseM :=
  if l.ho ≠ fr ∨ l.ep ≠ qe then (2, l) else (1, { l with ou := -1 })
def rightAsk (q : AskM) : Bool :=
  decide (0 ≤ q.stripe ∧ q.stripe ≤ 7) &&
  (if q.kind = 8 then decide (q.epoch = 0) else decide (1 ≤ q.epoch ∧ q.epoch ≤ 16777215)) &&
  (if q.kind = 4 ∨ q.kind = 5 ∨ q.kind = 7 then decide (1 ≤ q.seq ∧ q.seq ≤ 16777215) else decide (q.seq = 0)) &&
  (if q.kind = 4 then decide (1 ≤ q.mask ∧ q.mask ≤ 63) else if q.kind = 6 then decide (0 ≤ q.mask ∧ q.mask ≤ 1) else decide (q.mask = 0)) &&
  (if q.kind = 9 then decide (0 ≤ q.node ∧ q.node ≤ 5) else decide (q.node = 0)) &&
  (if q.kind = 6 then decide (0 ≤ q.oe ∧ q.oe ≤ 16777215 ∧ 0 ≤ q.os ∧ q.os ≤ 16777215 ∧ q.oe < q.epoch) else decide (q.oe = 0 ∧ q.os = 0)) &&
  (if q.kind = 4 ∨ q.kind = 7 then decide (q.block.size = 16) else decide (q.block.toList = [])) &&
  decide (1 ≤ q.kind ∧ q.kind ≤ 10)
def badS : SayM := ⟨6, 0, -1⟩
def ansL (l : LeaseM) (now fr : Int) (q : AskM) : Int × LeaseM :=
  if q.kind = 8 then leaseF l now fr else if q.kind = 9 then outF l now fr q.epoch q.node else if q.kind = 10 then inF l fr q.epoch else (6, l)
/-- what is answered of a stripe that there is, and its lease then -/
def ans1 (l : LeaseM) (now fr : Int) (q : AskM) : SayM × LeaseM :=
  let r := ansL l now fr q
  if r.1 = 6 then (badS, r.2) else (⟨r.1, r.2.ep, r.2.ou⟩, r.2)
def ansF (ls : List LeaseM) (now fr : Int) (q : AskM) : SayM × List LeaseM :=
  if rightAsk q = true then
    match ls[q.stripe.toNat]? with
    | none => (badS, ls)
    | some l => ((ans1 l now fr q).1, ls.set q.stripe.toNat (ans1 l now fr q).2)
  else (badS, ls)
theorem length_ansF (ls : List LeaseM) (now fr : Int) (q : AskM) : (ansF ls now fr q).2.length = ls.length := by
  unfold ansF
  split
  · split <;> simp
  · rfl
def clampT (n : Int) : Int := min (max n 0) 1099511627776
def doF (k : KeepM) (now fr id : Int) (q : AskM) : KeepM × SayM × Bool :=
  if fr < 200 ∨ fr ≥ 202 ∨ id < 1 ∨ id > 1099511627776 then (k, ⟨0, 0, 0⟩, false)
  else if fr = 200 then
    if id < k.i0 then (k, ⟨0, 0, 0⟩, false)
    else if id > k.i0 then
      let r := ansF k.ls (clampT now) fr q
      ({ k with ls := r.2, i0 := id, s0 := r.1 }, r.1, true)
    else (k, k.s0, true)
  else
    if id < k.i1 then (k, ⟨0, 0, 0⟩, false)
    else if id > k.i1 then
      let r := ansF k.ls (clampT now) fr q
      ({ k with ls := r.2, i1 := id, s1 := r.1 }, r.1, true)
    else (k, k.s1, true)
end Go.Proofs.Ytieeeijaojdbfaa
