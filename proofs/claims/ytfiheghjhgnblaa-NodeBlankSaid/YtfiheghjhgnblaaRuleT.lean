/- Layer 9 in plain Lean: what the statements ask of one ask. No program. -/
import Derived.Test.YtfiheghjhgnblaaRuleL
namespace Go.Proofs.Ytfiheghjhgnblaa
open Go.RowKit

theorem op_used {r : RecM} (hr : RecOk r) (ho : r.op = true) : r.used = true := by
  cases hu : r.used with
  | true => rfl
  | false =>
    have := (hr.none hu).2.1
    rw [ho] at this
    cases this
theorem does_eq {r : RecM} {q : AskM} {p : RecM × SayR} (h : Does r q p) : applyM r q = p := by
  cases h with
  | bad k =>
    unfold applyM
    rw [decide_eq_true (show q.kind > 7 from k), cond_true]
  | behind k h =>
    rw [apply_le (by omega), turn_k1 k]
    unfold fenceM
    rw [decide_eq_true h, cond_true]
  | follow k h =>
    rw [apply_le (by omega), turn_k1 k]
    unfold fenceM
    rw [decide_eq_false (by omega), cond_false]
  | stale k k7 h => rw [apply_le (by omega), turn_stale k h]
  | putS k h u t =>
    rw [apply_le (by omega), turn_put k h]
    unfold putM
    rw [u, cond_true, tag_true t, cond_true]
  | putN k h u b =>
    rw [apply_le (by omega), turn_put k h]
    unfold putM
    rw [u, cond_true, tag_false (fun t => by rcases b with b | b <;> omega), cond_false, bef_true b, cond_true]
  | putO k h u t b =>
    rw [apply_le (by omega), turn_put k h]
    unfold putM
    rw [u, cond_true, tag_false t, cond_false, bef_false b, cond_false]
  | putB k h u =>
    rw [apply_le (by omega), turn_put k h]
    unfold putM
    rw [u, cond_false]
  | blank k k2 h u => rw [apply_le (by omega), turn_blank k (by omega) h u]
  | read k h u => rw [apply_le (by omega), turn_used (by omega) (by omega) h u, if_pos k]
  | prepS k h u t =>
    rw [apply_le (by omega), turn_used (by omega) (by omega) h u, if_neg (by omega), if_pos k]
    unfold prepareM
    rw [tag_true t, cond_true]
  | prepO k h u t b =>
    rw [apply_le (by omega), turn_used (by omega) (by omega) h u, if_neg (by omega), if_pos k]
    unfold prepareM
    rw [tag_false t, cond_false, bef_false b, cond_false]
  | prepI k h u b o i =>
    rw [apply_le (by omega), turn_used (by omega) (by omega) h u, if_neg (by omega), if_pos k]
    unfold prepareM
    rw [tag_false (fun t => by rcases b with b | b <;> omega), cond_false, bef_true b, cond_true, o, cond_true, tag_true i, cond_true]
  | prepB k h u b o i =>
    rw [apply_le (by omega), turn_used (by omega) (by omega) h u, if_neg (by omega), if_pos k]
    unfold prepareM
    rw [tag_false (fun t => by rcases b with b | b <;> omega), cond_false, bef_true b, cond_true, o, cond_true, tag_false i, cond_false]
  | prepN k h u b o =>
    rw [apply_le (by omega), turn_used (by omega) (by omega) h u, if_neg (by omega), if_pos k]
    unfold prepareM
    rw [tag_false (fun t => by rcases b with b | b <;> omega), cond_false, bef_true b, cond_true, o, cond_false]
  | comI k h u o i =>
    rw [apply_le (by omega), turn_used (by omega) (by omega) h u, if_neg (by omega), if_neg (by omega), if_pos k]
    unfold commitM
    rw [o, cond_true, tag_true i, cond_true]
  | comS k h u i t =>
    rw [apply_le (by omega), turn_used (by omega) (by omega) h u, if_neg (by omega), if_neg (by omega), if_pos k]
    unfold commitM
    cases o : r.op with
    | false => rw [cond_false, tag_true t, cond_true]
    | true => rw [cond_true, tag_false (fun j => i ⟨o, j⟩), cond_false, tag_true t, cond_true]
  | comO k h u i t =>
    rw [apply_le (by omega), turn_used (by omega) (by omega) h u, if_neg (by omega), if_neg (by omega), if_pos k]
    unfold commitM
    cases o : r.op with
    | false => rw [cond_false, tag_false t, cond_false]
    | true => rw [cond_true, tag_false (fun j => i ⟨o, j⟩), cond_false, tag_false t, cond_false]
  | setD k h u o i m =>
    rw [apply_le (by omega), turn_used (by omega) (by omega) h u, if_neg (by omega), if_neg (by omega), if_neg (by omega), if_pos k]
    unfold settleM
    rw [o, cond_true, tag_true i, cond_true, beq_iff_eq.2 m, cond_true]
  | setC k h u o i m =>
    rw [apply_le (by omega), turn_used (by omega) (by omega) h u, if_neg (by omega), if_neg (by omega), if_neg (by omega), if_pos k]
    unfold settleM
    rw [o, cond_true, tag_true i, cond_true, beq_eq_false_iff_ne.2 m, cond_false]
  | setN k h u i =>
    rw [apply_le (by omega), turn_used (by omega) (by omega) h u, if_neg (by omega), if_neg (by omega), if_neg (by omega), if_pos k]
    unfold settleM
    cases o : r.op with
    | false => rw [cond_false]
    | true => rw [cond_true, tag_false (fun j => i ⟨o, j⟩), cond_false]
  | check k h u => rw [apply_le (by omega), turn_used (by omega) (by omega) h u, if_neg (by omega), if_neg (by omega), if_neg (by omega), if_neg (by omega)]

/-- a second time -/
theorem twice {r : RecM} {q : AskM} {x : RecM} {s : SayR} (hk : 1 ≤ q.kind) (h : applyM r q = (x, s)) : ∃ t, applyM x q = (x, t) ∧ (s.st = 1 → t.st = 1) := by
  have hd := does r q hk
  have hsame : x = r → ∃ t, applyM x q = (x, t) ∧ (s.st = 1 → t.st = 1) := fun e => by
    subst e
    exact ⟨s, h, id⟩
  rw [h] at hd
  generalize hp : (x, s) = p at hd
  cases hd with
  | follow k h1 =>
    cases hp
    exact ⟨_, does_eq (.follow k (Int.le_refl _)), fun _ => rfl⟩
  | putN k h1 u b =>
    cases hp
    exact ⟨_, does_eq (.putS k h1 rfl ⟨rfl, rfl⟩), fun _ => rfl⟩
  | putB k h1 u =>
    cases hp
    exact ⟨_, does_eq (.putS k h1 rfl ⟨rfl, rfl⟩), fun _ => rfl⟩
  | prepN k h1 u b o =>
    cases hp
    exact ⟨_, does_eq (.prepI k h1 u b rfl ⟨rfl, rfl⟩), fun _ => rfl⟩
  | comI k h1 u o i =>
    cases hp
    exact ⟨_, does_eq (.comS k h1 u (fun j => by cases j.1) i), fun _ => rfl⟩
  | setD k h1 u o i m =>
    cases hp
    exact ⟨_, does_eq (.setN k h1 u (fun j => by cases j.1)), fun _ => rfl⟩
  | setC k h1 u o i m =>
    cases hp
    exact ⟨_, does_eq (.setN k h1 u (fun j => by cases j.1)), fun _ => rfl⟩
  | _ => exact hsame (Prod.mk.inj hp).1

/-- records stay right -/
theorem stays {r : RecM} {q : AskM} {x : RecM} {s : SayR} (hk : 1 ≤ q.kind) (h : applyM r q = (x, s)) : r.fence ≤ x.fence ∧ (q.epoch ≠ r.fence → q.kind ≠ 1 → x = r) ∧ (s.st ≠ 6 → s.ep = x.fence) := by
  have hd := does r q hk
  rw [h] at hd
  generalize hp : (x, s) = p at hd
  cases hd with
  | bad k =>
    cases hp
    exact ⟨Int.le_refl _, fun _ _ => rfl, fun h => absurd rfl h⟩
  | follow k h1 =>
    cases hp
    exact ⟨h1, fun _ h2 => absurd k h2, fun _ => rfl⟩
  | putN k h1 u b =>
    cases hp
    exact ⟨Int.le_refl _, fun h2 => absurd h1 h2, fun _ => rfl⟩
  | putB k h1 u =>
    cases hp
    exact ⟨Int.le_refl _, fun h2 => absurd h1 h2, fun _ => rfl⟩
  | prepN k h1 u b o =>
    cases hp
    exact ⟨Int.le_refl _, fun h2 => absurd h1 h2, fun _ => rfl⟩
  | comI k h1 u o i =>
    cases hp
    exact ⟨Int.le_refl _, fun h2 => absurd h1 h2, fun _ => rfl⟩
  | setD k h1 u o i m =>
    cases hp
    exact ⟨Int.le_refl _, fun h2 => absurd h1 h2, fun _ => rfl⟩
  | setC k h1 u o i m =>
    cases hp
    exact ⟨Int.le_refl _, fun h2 => absurd h1 h2, fun _ => rfl⟩
  | _ =>
    cases hp
    exact ⟨Int.le_refl _, fun _ _ => rfl, fun _ => rfl⟩

/-- Done rises -/
def Behind (r : RecM) : Prop := r.op = true → Bef r.de r.ds r.ie r.is
structure Rises (r : RecM) (q : AskM) (x : RecM) (s : SayR) : Prop where
  nb : ¬ Bef x.de x.ds r.de r.ds
  block : r.used = true → x.de = r.de → x.ds = r.ds → x.block = r.block
  used : r.used = true → x.used = true
  op : q.kind ≠ 1 → s.rc.op = false ∧ s.rc.staged = noText
  read : q.kind = 2 → s.st = 1 → s.rc.block = r.block ∧ x = r
  inv : Behind x
theorem nbef (a b : Int) : ¬ Bef a b a b := by
  rintro (h | h) <;> omega
theorem rises {r : RecM} {q : AskM} {x : RecM} {s : SayR} (hr : RecOk r) (hq : AskOk q) (h : applyM r q = (x, s)) (hi : Behind r) : Rises r q x s := by
  have hk := hq.kind.1
  have hd := does r q hk
  rw [h] at hd
  generalize hp : (x, s) = p at hd
  have same : ∀ n, q.kind ≠ 2 ∨ n ≠ 1 → Rises r q r ⟨n, r.fence, 0, blankR 0⟩ := fun n hn => ⟨nbef _ _, fun _ _ _ => rfl, id, fun _ => ⟨rfl, rfl⟩, fun h2 h1 => by rcases hn with hn | hn; exact absurd h2 hn; exact absurd h1 hn, hi⟩
  cases hd with
  | bad k =>
    cases hp
    exact ⟨nbef _ _, fun _ _ _ => rfl, id, fun _ => ⟨rfl, rfl⟩, fun h2 => by omega, hi⟩
  | behind k h1 =>
    cases hp
    exact same 2 (.inr (by decide))
  | follow k h1 =>
    cases hp
    exact ⟨nbef _ _, fun _ _ _ => rfl, id, fun h2 => absurd k h2, fun h2 => by omega, hi⟩
  | stale k k7 h1 =>
    cases hp
    exact same 2 (.inr (by decide))
  | putN k h1 u b =>
    cases hp
    exact ⟨fun b2 => (by rcases b with b | b <;> rcases b2 with b2 | b2 <;> simp only [newM] at b2 <;> omega), fun _ e1 e2 => (by exfalso; simp only [newM] at e1 e2; rcases b with b | b <;> omega), fun _ => rfl, fun _ => ⟨rfl, rfl⟩, fun h2 => by omega, fun h2 => by cases h2⟩
  | putB k h1 u =>
    cases hp
    obtain ⟨_, _, n1, n2⟩ := hr.none u
    have e1 := hq.epoch (by omega)
    have nu : r.used = true → False := fun h2 => by
      rw [u] at h2
      cases h2
    exact ⟨fun b2 => (by rcases b2 with b2 | b2 <;> simp only [newM] at b2 <;> omega), fun h2 => (nu h2).elim, fun _ => rfl, fun _ => ⟨rfl, rfl⟩, fun h2 => by omega, fun h2 => by cases h2⟩
  | blank k k2 h1 u =>
    cases hp
    exact same 5 (.inr (by decide))
  | read k h1 u =>
    cases hp
    exact ⟨nbef _ _, fun _ _ _ => rfl, id, fun _ => ⟨rfl, rfl⟩, fun _ _ => ⟨rfl, rfl⟩, hi⟩
  | prepN k h1 u b o =>
    cases hp
    exact ⟨nbef _ _, fun _ _ _ => rfl, id, fun _ => ⟨rfl, rfl⟩, fun h2 => by omega, fun _ => b⟩
  | comI k h1 u o i =>
    cases hp
    have b := hi o
    exact ⟨fun b2 => (by rcases b with b | b <;> rcases b2 with b2 | b2 <;> simp only [doneM] at b2 <;> omega), fun _ e1 e2 => (by exfalso; simp only [doneM] at e1 e2; rcases b with b | b <;> omega), id, fun _ => ⟨rfl, rfl⟩, fun h2 => by omega, fun h2 => by cases h2⟩
  | setD k h1 u o i m =>
    cases hp
    have b := hi o
    exact ⟨fun b2 => (by rcases b with b | b <;> rcases b2 with b2 | b2 <;> simp only [doneM] at b2 <;> omega), fun _ e1 e2 => (by exfalso; simp only [doneM] at e1 e2; rcases b with b | b <;> omega), id, fun _ => ⟨rfl, rfl⟩, fun h2 => by omega, fun h2 => by cases h2⟩
  | setC k h1 u o i m =>
    cases hp
    exact ⟨nbef _ _, fun _ _ _ => rfl, id, fun _ => ⟨rfl, rfl⟩, fun h2 => by omega, fun h2 => by cases h2⟩
  | _ =>
    cases hp
    exact same _ (.inl (by omega))

structure Only (r : RecM) (q : AskM) (x : RecM) (s : SayR) : Prop where
  keep : r.op = true → x.op = true → x.ie = r.ie ∧ x.is = r.is ∧ x.staged = r.staged ∧ x.mask = r.mask
  one : r.op = true → q.kind = 4 → q.epoch = r.fence → Bef r.de r.ds q.epoch q.seq → (s.st = 1 ↔ r.ie = q.epoch ∧ r.is = q.seq)
  opens : r.op = false → x.op = true → q.kind = 4 ∧ s.st = 1 ∧ x.staged = q.block ∧ x.mask = q.mask
theorem only_ {r : RecM} {q : AskM} {x : RecM} {s : SayR} (hr : RecOk r) (hk : 1 ≤ q.kind) (h : applyM r q = (x, s)) : Only r q x s := by
  have hd := does r q hk
  rw [h] at hd
  generalize hp : (x, s) = p at hd
  have hsame : ∀ s, (q.kind ≠ 4 ∨ q.epoch ≠ r.fence ∨ r.used = false ∨ ¬ Bef r.de r.ds q.epoch q.seq) → Only r q r s := fun s hn => ⟨fun _ _ => ⟨rfl, rfl, rfl, rfl⟩, fun o k4 e b => by
    rcases hn with hn | hn | hn | hn
    · exact absurd k4 hn
    · exact absurd e hn
    · have := op_used hr o
      rw [hn] at this
      cases this
    · exact absurd b hn, fun o1 o2 => by rw [o1] at o2; cases o2⟩
  cases hd with
  | bad k =>
    cases hp
    exact hsame _ (.inl (by omega))
  | behind k h1 =>
    cases hp
    exact hsame _ (.inl (by omega))
  | follow k h1 =>
    cases hp
    exact ⟨fun _ _ => ⟨rfl, rfl, rfl, rfl⟩, fun _ k4 => by omega, fun o1 o2 => (by have o3 : r.op = true := o2; rw [o1] at o3; cases o3)⟩
  | stale k k7 h1 =>
    cases hp
    exact hsame _ (.inr (.inl h1))
  | putN k h1 u b =>
    cases hp
    exact ⟨fun _ o => (by cases o), fun _ k4 => by omega, fun _ o => by cases o⟩
  | putB k h1 u =>
    cases hp
    exact ⟨fun _ o => (by cases o), fun _ k4 => by omega, fun _ o => by cases o⟩
  | blank k k2 h1 u =>
    cases hp
    exact hsame _ (.inr (.inr (.inl u)))
  | prepS k h1 u t =>
    cases hp
    exact hsame _ (.inr (.inr (.inr (fun b => by rcases b with b | b <;> omega))))
  | prepO k h1 u t b =>
    cases hp
    exact hsame _ (.inr (.inr (.inr b)))
  | prepI k h1 u b o i =>
    cases hp
    exact ⟨fun _ _ => ⟨rfl, rfl, rfl, rfl⟩, fun _ _ _ _ => ⟨fun _ => i, fun _ => rfl⟩, fun o1 o2 => by rw [o1] at o; cases o⟩
  | prepB k h1 u b o i =>
    cases hp
    exact ⟨fun _ _ => ⟨rfl, rfl, rfl, rfl⟩, fun _ _ _ _ => ⟨fun h3 => (by exfalso; exact absurd (show (3 : Int) = 1 from h3) (by decide)), fun h3 => absurd h3 i⟩, fun o1 o2 => by rw [o1] at o; cases o⟩
  | prepN k h1 u b o =>
    cases hp
    exact ⟨fun o1 _ => (by rw [o1] at o; cases o), fun o1 => (by rw [o1] at o; cases o), fun _ _ => ⟨k, rfl, rfl, rfl⟩⟩
  | comI k h1 u o i =>
    cases hp
    exact ⟨fun _ o => (by cases o), fun _ k4 => by omega, fun _ o => by cases o⟩
  | setD k h1 u o i m =>
    cases hp
    exact ⟨fun _ o => (by cases o), fun _ k4 => by omega, fun _ o => by cases o⟩
  | setC k h1 u o i m =>
    cases hp
    exact ⟨fun _ o => (by cases o), fun _ k4 => by omega, fun _ o => by cases o⟩
  | _ =>
    cases hp
    exact hsame _ (.inl (by omega))

theorem blanks {f : Int} {q : AskM} {x : RecM} {s : SayR} (hk : 1 ≤ q.kind) (h : applyM (blankR f) q = (x, s)) :
    (x.used = true → q.kind = 7 ∧ s.st = 1 ∧ x = ⟨true, q.epoch, q.epoch, q.seq, q.block, false, 0, 0, 0, noText⟩) ∧ (x.used = false → x = blankR x.fence ∧ s.rc.used = false ∧ (q.kind ≠ 1 → s.st ≠ 1)) := by
  have hd := does (blankR f) q hk
  rw [h] at hd
  generalize hp : (x, s) = p at hd
  cases hd with
  | bad k =>
    cases hp
    exact ⟨fun h2 => (by cases h2), fun _ => ⟨rfl, rfl, fun _ => (by show (6 : Int) ≠ 1; decide)⟩⟩
  | behind k h1 =>
    cases hp
    exact ⟨fun h2 => (by cases h2), fun _ => ⟨rfl, rfl, fun h3 => absurd k h3⟩⟩
  | follow k h1 =>
    cases hp
    exact ⟨fun h2 => (by cases h2), fun _ => ⟨rfl, rfl, fun h3 => absurd k h3⟩⟩
  | stale k k7 h1 =>
    cases hp
    exact ⟨fun h2 => (by cases h2), fun _ => ⟨rfl, rfl, fun _ => (by show (2 : Int) ≠ 1; decide)⟩⟩
  | putB k h1 u =>
    cases hp
    have e : f = q.epoch := h1.symm
    exact ⟨fun _ => ⟨k, rfl, by simp only [newM, blankR, e]⟩, fun h2 => by cases h2⟩
  | blank k k2 h1 u =>
    cases hp
    exact ⟨fun h2 => (by cases h2), fun _ => ⟨rfl, rfl, fun _ => (by show (5 : Int) ≠ 1; decide)⟩⟩
  | putS k h1 u t => cases u
  | putN k h1 u b => cases u
  | putO k h1 u t b => cases u
  | read k h1 u => cases u
  | prepS k h1 u t => cases u
  | prepO k h1 u t b => cases u
  | prepI k h1 u b o i => cases u
  | prepB k h1 u b o i => cases u
  | prepN k h1 u b o => cases u
  | comI k h1 u o i => cases u
  | comS k h1 u i t => cases u
  | comO k h1 u i t => cases u
  | setD k h1 u o i m => cases u
  | setC k h1 u o i m => cases u
  | setN k h1 u i => cases u
  | check k h1 u => cases u
end Go.Proofs.Ytfiheghjhgnblaa
