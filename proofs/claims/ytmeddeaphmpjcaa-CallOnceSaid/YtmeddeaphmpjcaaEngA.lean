/- An executor of straight code over a described memory: the model's own operations, reckoned by the kernel; what it says holds of every world that fits. Plain lemmas; no program. -/
import Derived.Test.YtmeddeaphmpjcaaMem
import Derived.Orders
import Derived.Laws.StructEq
namespace Go.Proofs.Ytmeddeaphmpjcaa
open Go.RowKit

@[simp] def pt (g o : Nat) : Value := .pointer (some ⟨g, o, none⟩)
structure Bk where
  g : Nat
  t : TypeId
  rw : Bool
  cs : List Value
structure Wn where
  g : Nat
  o : Nat
  cs : List Value
structure St where
  sl : List (Nat × Value)
  bk : List Bk
  wn : List Wn
  sz : Nat
/-- where a cell is found: window or block, which one, from which place on, how many -/
structure MH where
  win : Bool
  i : Nat
  r : Nat
  n : Nat
def nextH : List MH → Option (Bool × Nat × Nat × List MH)
  | [] => none
  | ⟨_, _, _, 0⟩ :: _ => none
  | ⟨w, i, r, 1⟩ :: hs => some (w, i, r, hs)
  | ⟨w, i, r, n + 2⟩ :: hs => some (w, i, r, ⟨w, i, r + 1, n + 1⟩ :: hs)

/-- what is known of the memory -/
structure MemOk (w0 : World) (S : Nat → Prop) (bk : List Bk) (wn : List Wn) (sz : Nat) (w : World) : Prop where
  size : w.heap.size = sz
  blk : ∀ b ∈ bk, Blk w b.g b.t b.cs
  own : ∀ b ∈ bk, b.rw = true → S b.g ∨ w0.heap.size ≤ b.g
  nd : (bk.map (·.g)).Nodup
  kept : Kept S w0 w
  win : ∀ x ∈ wn, ¬ S x.g ∧ x.g < w0.heap.size ∧ ∀ j v, x.cs[j]? = some v → w0.cell? ⟨x.g, x.o + j, none⟩ = some v

structure RO (α : Type) where
  v : α
  bk : List Bk
  sz : Nat
  eqs : List ((Nat × Nat) × (Nat × Nat))
def RO.more {α : Type} (r : Option (RO α)) (p q : Nat × Nat) : Option (RO α) := match r with | none => none | some r => some { r with eqs := (p, q) :: r.eqs }

def oneCell : Value → Bool
  | .agg _ => false
  | .tuple _ => false
  | _ => true

def runS {α : Type} (P : Program) (wn : List Wn) : Sem α → List MH → List Bk → Nat → Option (RO α)
  | .pure a, _, bk, sz => some ⟨a, bk, sz, []⟩
  | .load _ a k, hs, bk, sz =>
    match nextH hs, a.spot with
    | some (true, i, r, hs'), none =>
      match wn[i]? with
      | some x => match x.cs[r]? with
        | some v => RO.more (runS P wn (k v) hs' bk sz) (x.g, x.o + r) (a.block, a.off)
        | none => none
      | none => none
    | some (false, i, r, hs'), none =>
      match bk[i]? with
      | some b => match b.cs[r]? with
        | some v => RO.more (runS P wn (k v) hs' bk sz) (b.g, r) (a.block, a.off)
        | none => none
      | none => none
    | _, _ => none
  | .store _ a v k, hs, bk, sz =>
    match nextH hs, a.spot, oneCell v with
    | some (false, i, r, hs'), none, true =>
      match bk[i]? with
      | some b => match b.rw, b.cs[r]? with
        | true, some _ => RO.more (runS P wn k hs' (bk.set i { b with cs := b.cs.set r v }) sz) (b.g, r) (a.block, a.off)
        | _, _ => none
      | none => none
    | _, _, _ => none
  | .new (.cells c t (0, 0)) k, hs, bk, sz => runS P wn (k sz) hs (bk ++ [⟨sz, t, true, c.toList⟩]) (sz + 1)
  | .program k, hs, bk, sz => runS P wn (k P) hs bk sz
  | .mark _ k, hs, bk, sz => runS P wn k hs bk sz
  | _, _, _, _ => none

def Good (es : List ((Nat × Nat) × (Nat × Nat))) : Prop := ∀ e ∈ es, e.1 = e.2

section
variable {w0 : World} {S : Nat → Prop} {bk : List Bk} {wn : List Wn} {sz : Nat} {w : World}
theorem MemOk.lt (h : MemOk w0 S bk wn sz w) {b : Bk} (hb : b ∈ bk) : b.g < sz := h.size ▸ (h.blk b hb).lt
theorem nodup_get {l : List Bk} (hn : (l.map (·.g)).Nodup) {i j : Nat} {b c : Bk} (hi : l[i]? = some b) (hj : l[j]? = some c) (he : b.g = c.g) : i = j := by
  have h1 : (l.map (·.g))[i]? = some b.g := by simp [hi]
  have h2 : (l.map (·.g))[j]? = some b.g := by simp [hj, he]
  have k1 := (List.getElem?_eq_some_iff.1 h1).1
  have k2 := (List.getElem?_eq_some_iff.1 h2).1
  have hn' := List.pairwise_iff_getElem.1 hn
  rw [List.getElem?_eq_getElem k1, Option.some.injEq] at h1
  rw [List.getElem?_eq_getElem k2, Option.some.injEq] at h2
  rcases Nat.lt_trichotomy i j with h | h | h
  · exact absurd (h1.trans h2.symm) (hn' i j k1 k2 h)
  · exact h
  · exact absurd (h2.trans h1.symm) (hn' j i k2 k1 h)
theorem map_set_g {l : List Bk} {i : Nat} {b : Bk} (hi : l[i]? = some b) (cs : List Value) : (l.set i { b with cs := cs }).map (·.g) = l.map (·.g) := by
  rw [List.map_set]
  apply List.ext_getElem?
  intro j
  rw [List.getElem?_set]
  split
  · rename_i h
    subst h
    have hl := (List.getElem?_eq_some_iff.1 hi).1
    simp [hl]
    rw [List.getElem?_eq_getElem hl] at hi
    injection hi with hi
    rw [hi]
  · rfl
theorem MemOk.store (h : MemOk w0 S bk wn sz w) {i r : Nat} {b : Bk} (hi : bk[i]? = some b) (hrw : b.rw = true) (v : Value) :
    MemOk w0 S (bk.set i { b with cs := b.cs.set r v }) wn sz (w.setCell ⟨b.g, r, none⟩ v) := by
  have hb : b ∈ bk := List.mem_of_getElem? hi
  refine ⟨by simpa using h.size, fun c hc => ?_, fun c hc hr => ?_, by rw [map_set_g hi]; exact h.nd, h.kept.setCell (fun hlt => (h.own b hb hrw).resolve_right (by simpa using hlt)) _, h.win⟩
  · obtain ⟨j, hj⟩ := List.mem_iff_getElem?.1 hc
    rw [List.getElem?_set] at hj
    split at hj
    · split at hj
      · simp only [Option.some.injEq] at hj
        subst hj
        exact (h.blk b hb).put r v
      · cases hj
    · rename_i hne
      refine (h.blk c (List.mem_of_getElem? hj)).far (p := ⟨b.g, r, none⟩) (fun he => hne ?_) v
      exact nodup_get h.nd hi hj he
  · obtain ⟨j, hj⟩ := List.mem_iff_getElem?.1 hc
    rw [List.getElem?_set] at hj
    split at hj
    · split at hj
      · simp only [Option.some.injEq] at hj
        subst hj
        exact h.own b hb hrw
      · cases hj
    · exact h.own c (List.mem_of_getElem? hj) hr
theorem MemOk.new (h : MemOk w0 S bk wn sz w) (c : Array Value) (t : TypeId) : MemOk w0 S (bk ++ [⟨sz, t, true, c.toList⟩]) wn (sz + 1) { w with heap := w.heap.push (.cells c t (0, 0)) } := by
  have e : ({ w with heap := w.heap.push (.cells c t (0, 0)) } : World) = w.alloc (.cells c t (0, 0)) := rfl
  rw [e]
  have hz := h.size
  refine ⟨by simp [hz], fun b hb => ?_, fun b hb hr => ?_, ?_, h.kept.alloc _, h.win⟩
  · rcases List.mem_append.1 hb with hb | hb
    · exact (h.blk b hb).alloc _
    · simp only [List.mem_singleton] at hb
      subst hb
      have := Blk.new w t c.toList
      simpa [hz] using this
  · rcases List.mem_append.1 hb with hb | hb
    · exact h.own b hb hr
    · simp only [List.mem_singleton] at hb
      subst hb
      right
      rw [← hz]
      exact h.kept.size
  · rw [List.map_append, List.nodup_append]
    refine ⟨h.nd, by simp, fun a ha b hb => ?_⟩
    simp only [List.map_cons, List.map_nil, List.mem_singleton] at hb
    subst hb
    obtain ⟨b', hb', rfl⟩ := List.mem_map.1 ha
    have := h.lt hb'
    omega
theorem MemOk.winCell (h : MemOk w0 S bk wn sz w) {x : Wn} (hx : x ∈ wn) {j : Nat} {v : Value} (hj : x.cs[j]? = some v) : w.cell? ⟨x.g, x.o + j, none⟩ = some v := by
  obtain ⟨h1, h2, h3⟩ := h.win x hx
  rw [h.kept.cell (p := ⟨x.g, x.o + j, none⟩) h2 h1]
  exact h3 j v hj
theorem addr_is {a : Addr} (h : a.spot = none) {g r : Nat} (e : (g, r) = (a.block, a.off)) : a = ⟨g, r, none⟩ := by
  cases a
  simp only [Prod.mk.injEq] at e h
  simp [h, e.1, e.2]

theorem more_some {α : Type} {r : Option (RO α)} {p q : Nat × Nat} {o : RO α} (h : RO.more r p q = some o) : ∃ r', r = some r' ∧ o = { r' with eqs := (p, q) :: r'.eqs } := by
  cases r with
  | none => cases h
  | some r' => exact ⟨r', rfl, by simpa [RO.more] using h.symm⟩

theorem runS_sound {α : Type} (P : Program) (x : Sem α) : ∀ (hs : List MH) (bk : List Bk) (sz : Nat) (w : World) (r : RO α), runS P wn x hs bk sz = some r → Good r.eqs → MemOk w0 S bk wn sz w →
    ∃ w', x.run P w = .ok r.v w' ∧ MemOk w0 S r.bk wn r.sz w' := by
  induction x with
  | pure a =>
    intro hs bk sz w r h _ hm
    simp only [runS, Option.some.injEq] at h
    subst h
    exact ⟨w, rfl, hm⟩
  | load m a k ih =>
    intro hs bk sz w r h hg hm
    simp only [runS] at h
    split at h
    · rename_i i rr hs' _ hsp
      split at h
      · rename_i x hx
        split at h
        · rename_i v hv
          obtain ⟨r', hr, rfl⟩ := more_some h
          have e := hg ((x.g, x.o + rr), (a.block, a.off)) (List.mem_cons_self ..)
          have hc := hm.winCell (List.mem_of_getElem? hx) hv
          rw [← addr_is hsp e] at hc
          obtain ⟨w', h1, h2⟩ := ih v hs' bk sz w r' hr (fun e he => hg e (List.mem_cons_of_mem _ he)) hm
          exact ⟨w', by simp only [Sem.run, hc]; exact h1, h2⟩
        · cases h
      · cases h
    · rename_i i rr hs' _ hsp
      split at h
      · rename_i b hb
        split at h
        · rename_i v hv
          obtain ⟨r', hr, rfl⟩ := more_some h
          have e := hg ((b.g, rr), (a.block, a.off)) (List.mem_cons_self ..)
          have hc := (hm.blk b (List.mem_of_getElem? hb)).at_ hv
          rw [← addr_is hsp e] at hc
          obtain ⟨w', h1, h2⟩ := ih v hs' bk sz w r' hr (fun e he => hg e (List.mem_cons_of_mem _ he)) hm
          exact ⟨w', by simp only [Sem.run, hc]; exact h1, h2⟩
        · cases h
      · cases h
    · cases h
  | store m a v k ih =>
    intro hs bk sz w r h hg hm
    simp only [runS] at h
    split at h
    · rename_i i rr hs' _ hsp hone
      split at h
      · rename_i b hb
        split at h
        · rename_i u hrw hu
          obtain ⟨r', hr, rfl⟩ := more_some h
          have e := hg ((b.g, rr), (a.block, a.off)) (List.mem_cons_self ..)
          have hB := hm.blk b (List.mem_of_getElem? hb)
          have hc := hB.at_ hu
          have hf := hB.frozen rr
          have hm' := hm.store (r := rr) hb hrw v
          rw [← addr_is hsp e] at hc hf hm'
          obtain ⟨w', h1, h2⟩ := ih hs' _ sz _ r' hr (fun e he => hg e (List.mem_cons_of_mem _ he)) hm'
          refine ⟨w', ?_, h2⟩
          rw [← h1]
          cases v <;> first | (simp [oneCell] at hone; done) | (simp only [Sem.run, hc, hf]; rfl)
        · cases h
      · cases h
    · cases h
  | new o k ih =>
    intro hs bk sz w r h hg hm
    cases o with
    | cells c t fz =>
      obtain ⟨f1, f2⟩ := fz
      cases f1 with
      | zero =>
        cases f2 with
        | zero =>
          simp only [runS] at h
          obtain ⟨w', h1, h2⟩ := ih sz hs _ _ _ r h hg (hm.new c t)
          exact ⟨w', by simp only [Sem.run, hm.size]; exact h1, h2⟩
        | succ n => simp [runS] at h
      | succ n => simp [runS] at h
    | _ => simp [runS] at h
  | program k ih =>
    intro hs bk sz w r h hg hm
    simp only [runS] at h
    exact ih P hs bk sz w r h hg hm
  | mark m k ih =>
    intro hs bk sz w r h hg hm
    simp only [runS] at h
    exact ih hs bk sz w r h hg hm
  | _ => intros; simp [runS] at *
end

/-- what needs no memory at all -/
def runP {α : Type} (P : Program) : Sem α → Option α
  | .pure a => some a
  | .program k => runP P (k P)
  | .mark _ k => runP P k
  | _ => none
theorem runP_sound {α : Type} (P : Program) (x : Sem α) : ∀ (v : α), runP P x = some v → ∀ w, x.run P w = .ok v w := by
  induction x with
  | pure a => intro v h w; simp only [runP, Option.some.injEq] at h; subst h; rfl
  | program k ih => intro v h w; exact ih P v h w
  | mark m k ih => intro v h w; exact ih v h w
  | _ => intros; simp [runP] at *
/-- what only reads -/
def runR {α : Type} (P : Program) (wn : List Wn) (bk : List Bk) : Sem α → List MH → Option (RO α)
  | .pure a, _ => some ⟨a, [], 0, []⟩
  | .load _ a k, hs =>
    match nextH hs, a.spot with
    | some (true, i, r, hs'), none =>
      match wn[i]? with
      | some x => match x.cs[r]? with
        | some v => RO.more (runR P wn bk (k v) hs') (x.g, x.o + r) (a.block, a.off)
        | none => none
      | none => none
    | some (false, i, r, hs'), none =>
      match bk[i]? with
      | some b => match b.cs[r]? with
        | some v => RO.more (runR P wn bk (k v) hs') (b.g, r) (a.block, a.off)
        | none => none
      | none => none
    | _, _ => none
  | .program k, hs => runR P wn bk (k P) hs
  | .mark _ k, hs => runR P wn bk k hs
  | _, _ => none
theorem runR_sound {w0 : World} {S : Nat → Prop} {bk : List Bk} {wn : List Wn} {α : Type} (P : Program) (x : Sem α) : ∀ (hs : List MH) (r : RO α), runR P wn bk x hs = some r → Good r.eqs → ∀ sz w, MemOk w0 S bk wn sz w →
    x.run P w = .ok r.v w := by
  induction x with
  | pure a =>
    intro hs r h _ sz w hm
    simp only [runR, Option.some.injEq] at h
    subst h
    rfl
  | load m a k ih =>
    intro hs r h hg sz w hm
    simp only [runR] at h
    split at h
    · rename_i i rr hs' _ hsp
      split at h
      · rename_i x hx
        split at h
        · rename_i v hv
          obtain ⟨r', hr, rfl⟩ := more_some h
          have e := hg ((x.g, x.o + rr), (a.block, a.off)) (List.mem_cons_self ..)
          have hc := hm.winCell (List.mem_of_getElem? hx) hv
          rw [← addr_is hsp e] at hc
          have h1 := ih v hs' r' hr (fun e he => hg e (List.mem_cons_of_mem _ he)) sz w hm
          simp only [Sem.run, hc]
          exact h1
        · cases h
      · cases h
    · rename_i i rr hs' _ hsp
      split at h
      · rename_i b hb
        split at h
        · rename_i v hv
          obtain ⟨r', hr, rfl⟩ := more_some h
          have e := hg ((b.g, rr), (a.block, a.off)) (List.mem_cons_self ..)
          have hc := (hm.blk b (List.mem_of_getElem? hb)).at_ hv
          rw [← addr_is hsp e] at hc
          have h1 := ih v hs' r' hr (fun e he => hg e (List.mem_cons_of_mem _ he)) sz w hm
          simp only [Sem.run, hc]
          exact h1
        · cases h
      · cases h
    · cases h
  | program k ih =>
    intro hs r h hg sz w hm
    simp only [runR] at h
    exact ih P hs r h hg sz w hm
  | mark m k ih =>
    intro hs r h hg sz w hm
    simp only [runR] at h
    exact ih hs r h hg sz w hm
  | _ => intros; simp [runR] at *
end Go.Proofs.Ytmeddeaphmpjcaa
