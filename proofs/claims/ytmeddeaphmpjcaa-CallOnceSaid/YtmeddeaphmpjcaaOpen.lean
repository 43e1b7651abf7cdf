/- Arguments opened to cells: slices of structs, however nested, whose cells are ints, bools, strings. Plain lemmas; no program. -/
import Derived.Test.YtmeddeaphmpjcaaMem
import Derived.ProofKit
import Derived.Deep.Slices
namespace Go.Proofs.Ytmeddeaphmpjcaa
open Go.RowKit Go.WideShapes Go.ChangeShapes Go.Deep

/-- what a cell is: 0 an int, 1 a bool, 2 a string, 4 a slice of ints, else a slice -/
def okKind (w : World) : Nat → Value → Prop
  | 0, v => ∃ a, v = .int .i64 a ∧ (Lit.int .i64 a).wf = true
  | 1, v => ∃ b, v = .bool b
  | 2, v => ∃ s : ByteArray, v = .string s ∧ s.size ≤ maxLen
  | 4, v => ∃ A n c, v = .slice A n c ∧ ∀ k, k < n → ∃ b o a, A = some ⟨b, o, none⟩ ∧ b < w.heap.size ∧ w.cell? ⟨b, o + k, none⟩ = some (.int .i64 a) ∧ (Lit.int .i64 a).wf = true
  | _, v => ∃ A n c, v = .slice A n c

def flatFields (P : Program) (g : TypeId → Option (List Nat)) : List Field → Nat → Option (List Nat)
  | [], _ => some []
  | f :: r, o =>
    match g f.type, flatFields P g r (o + P.cellsOf f.type) with
    | some l, some m => if f.offset = o ∧ P.cellsOf f.type = l.length then some (l ++ m) else none
    | _, _ => none
/-- the cells of a type, one behind the other -/
def flat (P : Program) : Nat → TypeId → Option (List Nat)
  | 0, _ => none
  | n + 1, t =>
    match P.underlying t with
    | some (.int .i64) => some [0]
    | some .bool => some [1]
    | some .string => some [2]
    | some (.slice e) => match P.underlying e with
      | some (.int .i64) => some [4]
      | _ => some [3]
    | some (.struct fs) => flatFields P (flat P n) fs.toList 0
    | _ => none

section
variable {H : Type} {enc : TypeId × Value → H} {P : Program} {w : World} {base : Nat} {spare : Nat → Bool} {held : Bool}
theorem addr_add (b o i : Nat) : (⟨b, o, none⟩ : Addr).add i = ⟨b, o + i, none⟩ := by
  unfold Addr.add
  split
  · rename_i h; subst h; rfl
  · rfl
theorem open_ints {t e : TypeId} {cs : List Value} {m : Nat} {x : DataW H × List MemPlace} (ht : P.underlying t = some (.slice e)) (he : P.underlying e = some (.int .i64)) (hx : DataW.trod enc P w base spare held m t cs = some x) : ∃ v, cs = [v] ∧ okKind w 4 v := by
  rcases open_slice ht hx with ⟨hcs, _⟩ | ⟨a, len', cap', m', n', D, Pl, hcs, _, hl, hm, hmm, _, hi⟩
  · exact ⟨_, hcs, none, 0, 0, rfl, fun k hk => absurd hk (by omega)⟩
  · refine ⟨_, hcs, _, _, _, rfl, fun k hk => ?_⟩
    have key : ∀ k, k < len' → ∃ y, P.cellsOf e = 1 ∧ w.cell? ((a.add (k * 1)).add 0) = some (.int .i64 y) ∧ (Lit.int .i64 y).wf = true := fun k hk => by
      have hkm : k < m' := by rw [hmm]; split <;> omega
      obtain ⟨cs', hc, hy⟩ := hi k hkm
      obtain ⟨y, hcs', _, wy⟩ := DataW.trod_int he hy
      subst hcs'
      obtain ⟨_, hlen, hat⟩ := World.cells?_some hc
      have h1 : P.cellsOf e = 1 := hlen.symm
      rw [h1] at hat
      exact ⟨y, h1, hat 0 (by omega), wy⟩
    obtain ⟨y, _, hcell, wy⟩ := key k hk
    have hblk := World.block_lt_of_cell? _ _ hcell
    obtain ⟨b, o, sp⟩ := a
    have hsp : sp = none := by
      cases sp with
      | none => rfl
      | some s =>
        exfalso
        obtain ⟨_, _, h0, _⟩ := key 0 (by omega)
        simp only [Nat.zero_mul, Addr.add, if_true] at h0
        unfold World.cell? at h0
        split at h0
        · simp at h0
        · cases h0
    subst hsp
    rw [addr_add, addr_add] at hcell
    refine ⟨b, o, y, rfl, by simpa [addr_add] using hblk, by simpa using hcell, wy⟩
theorem flatFields_spec (g : TypeId → Option (List Nat)) (cs : List Value)
    (hg : ∀ (t : TypeId) (L : List Nat) (cs : List Value) (m : Nat) (x : DataW H × List MemPlace), g t = some L → DataW.trod enc P w base spare held m t cs = some x → ∀ (j k : Nat), L[j]? = some k → ∃ v, cs[j]? = some v ∧ okKind w k v) :
    ∀ (fs : List Field) (o : Nat) (L : List Nat), flatFields P g fs o = some L →
      (∀ (i : Nat) (f : Field), fs[i]? = some f → ∃ m x, DataW.trod enc P w base spare held m f.type ((cs.drop f.offset).take (P.cellsOf f.type)) = some x) →
      ∀ (j k : Nat), L[j]? = some k → ∃ v, cs[o + j]? = some v ∧ okKind w k v
  | [], o, L, h, _, j, k, hj => by
    simp only [flatFields, Option.some.injEq] at h
    subst h
    simp at hj
  | f :: r, o, L, h, ht, j, k, hj => by
    simp only [flatFields] at h
    split at h
    · rename_i l m hl hm
      split at h
      · rename_i hc
        obtain ⟨hc1, hc2⟩ := hc
        simp only [Option.some.injEq] at h
        subst h
        by_cases hlt : j < l.length
        · obtain ⟨mm, x, hx⟩ := ht 0 f rfl
          rw [List.getElem?_append_left hlt] at hj
          obtain ⟨v, hv, hk⟩ := hg _ _ _ _ _ hl hx j k hj
          refine ⟨v, ?_, hk⟩
          rw [List.getElem?_take, if_pos (by omega), List.getElem?_drop, hc1] at hv
          exact hv
        · rw [List.getElem?_append_right (by omega)] at hj
          obtain ⟨v, hv, hk⟩ := flatFields_spec g cs hg r _ _ hm (fun i f' hf' => ht (i + 1) f' hf') (j - l.length) k hj
          exact ⟨v, by rw [← hv]; congr 1; omega, hk⟩
      · cases h
    · cases h

theorem flat_spec : ∀ (n : Nat) (t : TypeId) (L : List Nat) (cs : List Value) (m : Nat) (x : DataW H × List MemPlace), flat P n t = some L → DataW.trod enc P w base spare held m t cs = some x →
    ∀ (j k : Nat), L[j]? = some k → ∃ v, cs[j]? = some v ∧ okKind w k v
  | 0, _, _, _, _, _, h, _, _, _, _ => by cases h
  | n + 1, t, L, cs, m, x, h, hx, j, k, hj => by
    simp only [flat] at h
    split at h
    · rename_i hu
      simp only [Option.some.injEq] at h
      subst h
      obtain ⟨a, rfl, _, wa⟩ := DataW.trod_int hu hx
      match j, hj with
      | 0, hj => simp at hj; subst hj; exact ⟨_, rfl, a, rfl, wa⟩
      | j + 1, hj => simp at hj
    · rename_i hu
      simp only [Option.some.injEq] at h
      subst h
      obtain ⟨b, rfl, _⟩ := DataW.trod_bool hu hx
      match j, hj with
      | 0, hj => simp at hj; subst hj; exact ⟨_, rfl, b, rfl⟩
      | j + 1, hj => simp at hj
    · rename_i hu
      simp only [Option.some.injEq] at h
      subst h
      obtain ⟨s, rfl, _, hs⟩ := DataW.trod_string hu hx
      match j, hj with
      | 0, hj => simp at hj; subst hj; exact ⟨_, rfl, s, rfl, hs⟩
      | j + 1, hj => simp at hj
    · rename_i e hu
      split at h
      · rename_i he
        simp only [Option.some.injEq] at h
        subst h
        obtain ⟨v, hv, hk⟩ := open_ints (w := w) hu he hx
        match j, hj with
        | 0, hj => simp at hj; subst hj; exact ⟨v, by rw [hv]; rfl, hk⟩
        | j + 1, hj => simp at hj
      simp only [Option.some.injEq] at h
      subst h
      rcases open_slice hu hx with ⟨hcs, _⟩ | ⟨a, len', cap', m', n', D, Pl, hcs, _⟩
      · match j, hj with
        | 0, hj => simp at hj; subst hj; exact ⟨_, by rw [hcs]; rfl, none, 0, 0, rfl⟩
        | j + 1, hj => simp at hj
      · match j, hj with
        | 0, hj => simp at hj; subst hj; exact ⟨_, by rw [hcs]; rfl, _, _, _, rfl⟩
        | j + 1, hj => simp at hj
    · rename_i fs hu
      obtain ⟨xs, m', _, _, _, hlen, hf⟩ := DataW.trod_struct hu hx
      obtain ⟨v, hv, hk⟩ := flatFields_spec (flat P n) cs (fun t L cs m x => flat_spec n t L cs m x) fs.toList 0 L h (fun i f hi => by
        have hi' : fs[i]? = some f := by simpa using hi
        have hil : i < xs.length := by rw [hlen]; exact (Array.getElem?_eq_some_iff.1 hi').1
        exact ⟨m', xs[i], (hf i f hi').trans (List.getElem?_eq_getElem hil)⟩) j k hj
      exact ⟨v, by simpa using hv, hk⟩
    · cases h

/-- A slice of such structs: its elements' cells, one behind the other. -/
def FlatAt (w : World) (A : Option Addr) (n : Nat) (L : List Nat) : Prop :=
  ∀ k, k < n → ∃ b o, A = some ⟨b, o, none⟩ ∧ b < w.heap.size ∧ ∀ j kd, L[j]? = some kd → ∃ v, w.cell? ⟨b, o + k * L.length + j, none⟩ = some v ∧ okKind w kd v

theorem open_flat {r : Reach} {b0 : Nat} {t e : TypeId} {v : Value} {d : DataW H} {p : List MemPlace} {n : Nat} {L : List Nat} (ht : P.underlying t = some (.slice e)) (hL : flat P n e = some L) (hC : P.cellsOf e = L.length) (h0 : 0 < L.length)
    (hv : Value.okWide P w r b0 t v) (h : DataW.Trod enc P w base spare held t v d p) :
    ∃ A len cap, v = .slice A len cap ∧ len ≤ cap ∧ cap ≤ maxLen ∧ FlatAt w A len L := by
  obtain ⟨A, len, cap, rfl⟩ := okWide_slice ht hv
  obtain ⟨fuel, hf⟩ := h
  rcases open_slice ht hf with ⟨hcs, _⟩ | ⟨a, len', cap', m, n', D, Pl, hcs, _, hl, hm, hmm, _, hi⟩
  · simp [Value.cells] at hcs
    obtain ⟨rfl, rfl, rfl⟩ := hcs
    exact ⟨_, _, _, rfl, Nat.le_refl _, Nat.zero_le _, fun k hk => absurd hk (by omega)⟩
  · simp [Value.cells] at hcs
    obtain ⟨rfl, rfl, rfl⟩ := hcs
    refine ⟨_, _, _, rfl, hl, hm, fun k hk => ?_⟩
    have hkm : k < m := by rw [hmm]; split <;> omega
    obtain ⟨cs', hc, hx⟩ := hi k hkm
    rw [hC] at hc
    obtain ⟨_, hlen, hat⟩ := World.cells?_some hc
    have hspec := flat_spec n e L cs' n' _ hL hx
    obtain ⟨kd0, hk0⟩ : ∃ kd, L[0]? = some kd := ⟨_, List.getElem?_eq_getElem h0⟩
    obtain ⟨v0, hv0, _⟩ := hspec 0 kd0 hk0
    have hcell : w.cell? ((a.add (k * L.length)).add 0) = some v0 := (hat 0 h0).trans hv0
    have hblk := World.block_lt_of_cell? _ _ hcell
    obtain ⟨b, o, sp⟩ := a
    have hsp : sp = none := by
      cases sp with
      | none => rfl
      | some s =>
        exfalso
        obtain ⟨cs1, hc1, hx1⟩ := hi 0 (by omega)
        rw [hC] at hc1
        obtain ⟨_, _, hat1⟩ := World.cells?_some hc1
        obtain ⟨v1, hv1, _⟩ := flat_spec n e L cs1 n' _ hL hx1 0 kd0 hk0
        have := (hat1 0 h0).trans hv1
        simp only [Nat.zero_mul, Addr.add, if_true] at this
        unfold World.cell? at this
        split at this
        · simp at this
        · cases this
    subst hsp
    refine ⟨b, o, rfl, by simpa [addr_add] using hblk, fun j kd hj => ?_⟩
    obtain ⟨v, hv, hk⟩ := hspec j kd hj
    have hjl := (List.getElem?_eq_some_iff.1 hj).1
    refine ⟨v, ?_, hk⟩
    have := (hat j hjl).trans hv
    rwa [addr_add, addr_add] at this
theorem open_agg {r : Reach} {b0 : Nat} {t : TypeId} {v : Value} {d : DataW H} {p : List MemPlace} {n : Nat} {L : List Nat} {fs : Array Field} (ht : P.underlying t = some (.struct fs)) (hL : flat P n t = some L) (hC : P.cellsOf t = L.length)
    (hv : Value.okWide P w r b0 t v) (h : DataW.Trod enc P w base spare held t v d p) :
    ∃ cs : Array Value, v = .agg cs ∧ cs.size = L.length ∧ ∀ (j k : Nat), L[j]? = some k → ∃ c, cs[j]? = some c ∧ okKind w k c := by
  unfold Value.okWide at hv
  simp only [ht] at hv
  obtain ⟨cs, rfl, hs, _⟩ := hv
  obtain ⟨fuel, hf⟩ := h
  refine ⟨cs, rfl, hs.trans hC, fun j k hj => ?_⟩
  obtain ⟨c, hc, hk⟩ := flat_spec n t L _ fuel _ hL hf j k hj
  exact ⟨c, by simpa [Value.cells] using hc, hk⟩
theorem agg_eq {cs : Array Value} {l : List Value} (hs : cs.size = l.length) (h : ∀ (j : Nat), j < l.length → cs[j]? = l[j]?) : cs = l.toArray := by
  apply Array.ext_getElem?
  intro i
  by_cases hi : i < l.length
  · rw [h i hi]
    simp
  · rw [Array.getElem?_eq_none (by omega)]
    simp
    omega
end
end Go.Proofs.Ytmeddeaphmpjcaa
