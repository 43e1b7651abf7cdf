/- Layer 14's law on ids: which of the calls are open still. Plain lemmas; no program. -/
import Derived.Test.YtmeddeaphmpjcaaNumsM
namespace Go.Proofs.Ytmeddeaphmpjcaa
open Go.RowKit
/-- one of a script's acts, raw -/
structure Act14 where
  (what n to id at_ : Int)
  q : Raw9
structure Act14Ok (x : Act14) : Prop where
  what : I64 x.what
  n : I64 x.n
  to : I64 x.to
  id : I64 x.id
  at_ : I64 x.at_
  q : Raw9Ok x.q
def Act14.cells (x : Act14) : List Value := [.int .i64 x.what, .int .i64 x.n, .int .i64 x.to, .int .i64 x.id, .int .i64 x.at_, .int .i64 x.q.kind, .int .i64 x.q.stripe, .int .i64 x.q.epoch, .int .i64 x.q.seq, .int .i64 x.q.mask, .int .i64 x.q.node, .int .i64 x.q.oe, .int .i64 x.q.os, .string x.q.block]
def Acts14At (w : World) (A : Option Addr) (n : Nat) (f : Nat → Act14) : Prop :=
  ∀ k, k < n → Act14Ok (f k) ∧ ∃ b o, A = some ⟨b, o, none⟩ ∧ b < w.heap.size ∧ ∀ j, j < 14 → w.cell? ⟨b, o + k * 14 + j, none⟩ = (f k).cells[j]?
theorem act_cell {w W : World} {b o j : Nat} {x : Act14} {v : Value} (hk : Kept (fun _ => False) w W) (hb : b < w.heap.size) (hc : ∀ j, j < 14 → w.cell? ⟨b, o + j, none⟩ = x.cells[j]?) (hj : x.cells[j]? = some v) : W.cell? ⟨b, o + j, none⟩ = some v := by
  have h5 : j < 14 := (List.getElem?_eq_some_iff.1 hj).1
  exact (hk.cell (p := ⟨b, o + j, none⟩) hb (fun h => h)).trans ((hc j h5).trans hj)
/-- those that are open still -/
def subL : List OneM → List Bool → List OneM
  | o :: l, b :: bs => bif b then subL l bs else o :: subL l bs
  | _, _ => []
theorem subL_app : ∀ (A : List OneM) (a : List Bool) (B : List OneM) (b : List Bool), A.length = a.length → subL (A ++ B) (a ++ b) = subL A a ++ subL B b
  | [], [], _, _, _ => by simp [subL]
  | o :: A, x :: a, B, b, h => by
    have ih := subL_app A a B b (by simpa using h)
    cases x <;> simp [subL, ih]
theorem subL_snoc {L : List OneM} {ov : List Bool} (o : OneM) (h : L.length = ov.length) : subL (L ++ [o]) (ov ++ [false]) = subL L ov ++ [o] := by
  rw [subL_app _ _ _ _ h]
  rfl
theorem subL_all : ∀ (L : List OneM) (n : Nat), subL L (List.replicate n true) = []
  | [], n => by cases n <;> rfl
  | _ :: L, 0 => rfl
  | _ :: L, n + 1 => by simpa [subL, List.replicate_succ] using subL_all L n
theorem subL_sub : ∀ (L : List OneM) (ov : List Bool), (subL L ov).Sublist L
  | [], _ => by simp [subL]
  | _ :: _, [] => by simp [subL]
  | o :: L, b :: ov => by
    have ih := subL_sub L ov
    cases b
    · simpa [subL] using ih
    · simpa [subL] using ih.cons o
theorem subL_len : ∀ (L : List OneM) (ov : List Bool), L.length = ov.length → (subL L ov).length = ov.count false
  | [], [], _ => rfl
  | o :: L, b :: ov, h => by
    have ih := subL_len L ov (by simpa using h)
    cases b <;> simp [subL, ih]
theorem sub_split {L : List OneM} {ov : List Bool} {k : Nat} {o : OneM} {b : Bool} (h : L.length = ov.length) (ho : L[k]? = some o) (hb : ov[k]? = some b) :
    subL L ov = subL (L.take k) (ov.take k) ++ (bif b then subL (L.drop (k + 1)) (ov.drop (k + 1)) else o :: subL (L.drop (k + 1)) (ov.drop (k + 1))) := by
  have hk := (List.getElem?_eq_some_iff.1 ho).1
  have hk' := (List.getElem?_eq_some_iff.1 hb).1
  have e1 : L = L.take k ++ o :: L.drop (k + 1) := by
    have h8 := (List.getElem?_eq_some_iff.1 ho).2
    rw [← h8, ← List.drop_eq_getElem_cons hk, List.take_append_drop]
  have e2 : ov = ov.take k ++ b :: ov.drop (k + 1) := by
    have h8 := (List.getElem?_eq_some_iff.1 hb).2
    rw [← h8, ← List.drop_eq_getElem_cons hk', List.take_append_drop]
  have e3 : subL L ov = subL (L.take k ++ o :: L.drop (k + 1)) (ov.take k ++ b :: ov.drop (k + 1)) := by rw [← e1, ← e2]
  rw [e3, subL_app _ _ _ _ (by simp; omega)]
  rfl
theorem sub_set {L : List OneM} {ov : List Bool} {k : Nat} {o : OneM} (h : L.length = ov.length) (ho : L[k]? = some o) : subL L (ov.set k true) = subL (L.take k) (ov.take k) ++ subL (L.drop (k + 1)) (ov.drop (k + 1)) := by
  have hk := (List.getElem?_eq_some_iff.1 ho).1
  have hb : (ov.set k true)[k]? = some true := by rw [List.getElem?_set_self (by omega)]
  rw [sub_split (by simpa using h) ho hb]
  simp [List.take_set_of_le, List.drop_set_of_lt]
theorem ids_apart {L : List OneM} (hp : L.Pairwise (fun a b => a.id < b.id)) {k : Nat} {o : OneM} (ho : L[k]? = some o) : (∀ o' ∈ L.take k, o'.id < o.id) ∧ (∀ o' ∈ L.drop (k + 1), o.id < o'.id) := by
  have hk := (List.getElem?_eq_some_iff.1 ho).1
  have e1 : L = L.take k ++ o :: L.drop (k + 1) := by
    have h8 := (List.getElem?_eq_some_iff.1 ho).2
    rw [← h8, ← List.drop_eq_getElem_cons hk, List.take_append_drop]
  rw [e1] at hp
  have h := List.pairwise_append.1 hp
  exact ⟨fun o' h' => h.2.2 o' h' o (by simp), fun o' h' => (List.pairwise_cons.1 h.2.1).1 o' h'⟩
theorem miss_over {L : List OneM} {ov : List Bool} {k : Nat} {o : OneM} {F : Int} (hp : L.Pairwise (fun a b => a.id < b.id)) (h : L.length = ov.length) (ho : L[k]? = some o) (hb : ov[k]? = some true) : missC F o.id (subL L ov) := by
  intro o' h' hh
  have ha := ids_apart hp ho
  rw [sub_split h ho hb] at h'
  rcases List.mem_append.1 h' with h' | h'
  · have := ha.1 o' ((subL_sub _ _).subset h')
    omega
  · have := ha.2 o' ((subL_sub _ _).subset h')
    omega
theorem miss_to {L : List OneM} {ov : List Bool} {k : Nat} {o : OneM} {F : Int} (hp : L.Pairwise (fun a b => a.id < b.id)) (ho : L[k]? = some o) (hF : F ≠ o.to) : missC F o.id (subL L ov) := by
  intro o' h' hh
  have ha := ids_apart hp ho
  have hk := (List.getElem?_eq_some_iff.1 ho).1
  have h'' := (subL_sub L ov).subset h'
  have e1 : L = L.take k ++ o :: L.drop (k + 1) := by
    have h8 := (List.getElem?_eq_some_iff.1 ho).2
    rw [← h8, ← List.drop_eq_getElem_cons hk, List.take_append_drop]
  rw [e1] at h''
  rcases List.mem_append.1 h'' with h2 | h2
  · have := ha.1 o' h2
    omega
  · rcases List.mem_cons.1 h2 with rfl | h2
    · exact hF hh.2.symm
    · have := ha.2 o' h2
      omega
def boolsV (l : List Bool) : List Value := l.map Value.bool
theorem boolsV_snoc (l : List Bool) (b : Bool) : boolsV l ++ [.bool b] = boolsV (l ++ [b]) := by simp [boolsV]
theorem boolsV_len (l : List Bool) : (boolsV l).length = l.length := by simp [boolsV]
theorem boolsV_set (l : List Bool) (k : Nat) (b : Bool) : (boolsV l).set k (.bool b) = boolsV (l.set k b) := by simp [boolsV]
theorem bools_get {l : List Bool} {i j : Nat} {b : Bool} {v : Value} (h : l[i]? = some b) (hj : ([.bool b] : List Value)[j]? = some v) : (boolsV l)[i * 1 + j]? = some v := by
  have h5 : j < 1 := (List.getElem?_eq_some_iff.1 hj).1
  obtain rfl : j = 0 := by omega
  simp only [List.getElem?_cons_zero, Option.some.injEq] at hj
  subst hj
  simp [boolsV, h]
/-- a store into a list of our own, of one-cell elements -/
theorem own_store {P : Program} {w : World} {base g : Nat} {t e : TypeId} {n cp : Nat} {cs : List Value} {v : Value} (h : OwnR w base e 1 (some ⟨g, 0, none⟩) n cp cs) (k : Nat) (hk : k < n) (hs : (P.info? t).map (·.size) = some 1) (hv : v.cells = #[v]) (h1 : v.oneCell' = true) :
    ∃ w', (Instr.storeAt t (.pointer (some ⟨g, 0 + k * 1, none⟩)) v).run P w = .ok () w' ∧ OwnR w' base e 1 (some ⟨g, 0, none⟩) n cp (cs.set k v) ∧ Kept (ownS (some ⟨g, 0, none⟩)) w w' := by
  have hl := h.len
  rcases h.blk with ⟨h0, _⟩ | ⟨g', r, h0, hb, hB, hn, hc, hz⟩
  · cases h0
  · cases h0
    have hst := run_storeG (P := P) w t g (0 + k * 1) e (cs ++ r) v (by rw [hv]; exact hs) hB (by rw [hv, List.length_append]; show _ + 1 ≤ _; omega) (by rw [hv]; simpa using h1)
    have e1 : (cs ++ r).take (0 + k * 1) ++ v.cells.toList ++ (cs ++ r).drop (0 + k * 1 + v.cells.size) = cs.set k v ++ r := by
      rw [hv, show 0 + k * 1 = k by omega]
      show (cs ++ r).take k ++ [v] ++ (cs ++ r).drop (k + 1) = _
      rw [← List.set_append_left _ _ (by omega), List.set_eq_take_append_cons_drop, if_pos (by rw [List.length_append]; omega)]
      simp
    rw [e1] at hst
    exact ⟨_, hst, ownR_of hb (setRow_blk hB _) hn hc (by rw [List.length_set]; exact hl) (by rw [← hz, List.length_append, List.length_append, List.length_set]), (setRow_kept w g _).mono (fun x _ h => ⟨_, rfl, h⟩)⟩
theorem set_same {l : List Bool} {k : Nat} {b : Bool} (h : l[k]? = some b) : l.set k b = l := by
  apply List.ext_getElem?
  intro i
  by_cases e : i = k
  · subst e
    rw [List.getElem?_set_self (List.getElem?_eq_some_iff.1 h).1, h]
  · rw [List.getElem?_set_ne (Ne.symm e)]
def trueTo (l : List Bool) (j : Nat) : List Bool := List.replicate j true ++ l.drop j
theorem trueTo_succ {l : List Bool} {j : Nat} (h : j < l.length) : (trueTo l j).set j true = trueTo l (j + 1) := by
  unfold trueTo
  rw [List.set_append_right _ _ (by simp), List.length_replicate, Nat.sub_self, List.drop_eq_getElem_cons h, List.set_cons_zero, List.replicate_succ', List.append_assoc]
  rfl
theorem trueTo_len {l : List Bool} {j : Nat} (h : j ≤ l.length) : (trueTo l j).length = l.length := by simp [trueTo]; omega
theorem trueTo_all (l : List Bool) : trueTo l l.length = List.replicate l.length true := by simp [trueTo]
def cntF (l : List Bool) (j : Nat) : Nat := (l.take j).count false
theorem cntF_succ {l : List Bool} {j : Nat} {b : Bool} (h : l[j]? = some b) : cntF l (j + 1) = cntF l j + (bif b then 0 else 1) := by
  unfold cntF
  rw [List.take_add_one, h, List.count_append]
  cases b <;> simp
theorem cntF_le (l : List Bool) (j : Nat) : cntF l j ≤ j := by
  unfold cntF
  exact Nat.le_trans List.count_le_length (by rw [List.length_take]; omega)
end Go.Proofs.Ytmeddeaphmpjcaa
