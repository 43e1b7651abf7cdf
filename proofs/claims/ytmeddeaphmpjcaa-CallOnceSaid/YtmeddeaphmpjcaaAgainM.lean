/- Layer 14: the letters that go out again: the plain model. No program. -/
import Derived.Test.YtmeddeaphmpjcaaCallR
namespace Go.Proofs.Ytmeddeaphmpjcaa
open Go.RowKit
/-- a call's letter: its cells -/
def letC (frm : Int) (o : OneM) : List Value := [.int .i64 frm, .int .i64 o.to, .int .i64 o.id, .bool false, .int .i64 o.q.kind, .int .i64 o.q.stripe, .int .i64 o.q.epoch, .int .i64 o.q.seq, .int .i64 o.q.mask, .int .i64 o.q.node, .int .i64 o.q.oe, .int .i64 o.q.os, .string o.q.block, .int .i64 0, .int .i64 0, .int .i64 0, .bool false, .int .i64 0, .int .i64 0, .int .i64 0, .string ⟨#[]⟩, .bool false, .int .i64 0, .int .i64 0, .int .i64 0, .string ⟨#[]⟩]
def lettersC (frm : Int) (l : List OneM) : List Value := (l.map (letC frm)).flatten
def selL (l : List OneM) (pre : List Nat) : List OneM := pre.filterMap (fun i => l[i]?)
theorem selL_snoc {frm : Int} {l : List OneM} {pre : List Nat} {j : Nat} {o : OneM} (h : l[j]? = some o) : lettersC frm (selL l pre) ++ letC frm o = lettersC frm (selL l (pre ++ [j])) := by
  simp [selL, lettersC, h]
/-- the calls whose letters go out again -/
def againL (now : Int) (opn : List OneM) : List OneM := opn.filter (fun o => decide (now - o.sent ≥ 2))
def againS (now : Int) (opn : List OneM) : List OneM := opn.map (fun o => if now - o.sent ≥ 2 then { o with sent := now } else o)
theorem selL_take {ok : OneM → Bool} {l : List OneM} : ∀ (j : Nat), j ≤ l.length → selL l (meantL ok l j) = (l.take j).filter ok
  | 0, _ => by simp [selL, meantL]
  | j + 1, h => by
    have ho : l[j]? = some l[j] := List.getElem?_eq_getElem (by omega)
    have ih := selL_take (ok := ok) (l := l) j (by omega)
    rw [meantL_succ ho, List.take_add_one, ho, List.filter_append, ← ih]
    cases hk : ok l[j]
    · simp [hk]
    · have e : selL l (meantL ok l j ++ [j]) = selL l (meantL ok l j) ++ [l[j]] := by simp [selL, ho]
      simp [hk, e]
theorem selL_meant {now : Int} {opn : List OneM} : selL opn (meantL (fun o => decide (now - o.sent ≥ 2)) opn opn.length) = againL now opn := by
  rw [selL_take _ (Nat.le_refl _), List.take_length]
  rfl
theorem selL_len {l : List OneM} : ∀ {pre : List Nat}, (∀ i ∈ pre, i < l.length) → (selL l pre).length = pre.length
  | [], _ => rfl
  | j :: pre, h => by
    have hj : j < l.length := h j (by simp)
    have ho : l[j]? = some l[j] := List.getElem?_eq_getElem hj
    have ih := selL_len (l := l) (pre := pre) (fun i hi => h i (by simp [hi]))
    simp only [selL] at ih ⊢
    simp [ho, ih]
theorem meantL_mem {ok : OneM → Bool} {l : List OneM} {i : Nat} {o : OneM} (h : l[i]? = some o) : i ∈ meantL ok l l.length ↔ ok o = true := by
  have hlt := (List.getElem?_eq_some_iff.1 h).1
  have e : l[i] = o := by rw [List.getElem?_eq_getElem hlt] at h; exact Option.some.inj h
  simp [meantL, hlt, e]
theorem sentL_meant {now : Int} {opn : List OneM} : sentL now (meantL (fun o => decide (now - o.sent ≥ 2)) opn opn.length) opn = againS now opn := by
  apply List.ext_getElem?
  intro i
  unfold sentL againS
  rw [List.getElem?_mapIdx, List.getElem?_map]
  cases h : opn[i]? with
  | none => rfl
  | some o =>
    simp only [Option.map_some]
    by_cases hk : now - o.sent ≥ 2
    · rw [if_pos ((meantL_mem h).2 (by simpa using hk)), if_pos hk]
    · rw [if_neg (fun h' => hk (by simpa using (meantL_mem h).1 h')), if_neg hk]
theorem ones_set {l : List OneM} {x : Nat} {o : OneM} {now : Int} (h : l[x]? = some o) : (onesV l).set (x * 13 + 12) (.int .i64 now) = onesV (l.set x { o with sent := now }) := by
  induction l generalizing x with
  | nil => simp at h
  | cons a l ih =>
    show (a.cells ++ onesV l).set (x * 13 + 12) _ = _
    cases x with
    | zero =>
      simp only [List.getElem?_cons_zero, Option.some.injEq] at h
      subst h
      rfl
    | succ x =>
      have e : a.cells.length = 13 := rfl
      rw [List.set_append_right _ _ (by rw [e]; omega), e, show (x + 1) * 13 + 12 - 13 = x * 13 + 12 by omega, ih (by simpa using h)]
      rfl
theorem ones_sent {l : List OneM} {x : Nat} {o : OneM} {r : List Value} (h : l[x]? = some o) (now : Int) :
    (onesV l ++ r).take (x * 13 + 12) ++ (Value.int .i64 now).cells.toList ++ (onesV l ++ r).drop (x * 13 + 12 + (Value.int .i64 now).cells.size) = onesV (l.set x { o with sent := now }) ++ r := by
  have hlt := (List.getElem?_eq_some_iff.1 h).1
  have hl : x * 13 + 12 < (onesV l).length := by rw [onesV_len]; omega
  show (onesV l ++ r).take (x * 13 + 12) ++ [Value.int .i64 now] ++ (onesV l ++ r).drop (x * 13 + 12 + 1) = _
  rw [← ones_set h, ← List.set_append_left _ _ hl, List.set_eq_take_append_cons_drop, if_pos (by rw [List.length_append]; omega)]
  simp
end Go.Proofs.Ytmeddeaphmpjcaa
