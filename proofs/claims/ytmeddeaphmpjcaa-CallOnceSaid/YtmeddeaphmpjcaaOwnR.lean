/- Slices of our own, of any cells: what is known of them, an append to them, their bytes as a text; operations with laws of their own that change the world. Plain lemmas; no program. -/
import Derived.Test.YtmeddeaphmpjcaaEngZ
import Derived.Laws.AppendOwn
import Derived.Lib.AppendStr
import Derived.Maps.AppendAt
import Derived.Laws.BytesArg
namespace Go.Proofs.Ytmeddeaphmpjcaa
open Go.RowKit Go.Lib

def OwnR (w : World) (base : Nat) (e : TypeId) (z : Nat) (A : Option Addr) (n cp : Nat) (cs : List Value) : Prop := w.ownsRow base e z (.slice A n cp) n cs
def ownS (A : Option Addr) (x : Nat) : Prop := ∃ a, A = some a ∧ x = a.block
theorem OwnR.kept {w w' : World} {base : Nat} {e : TypeId} {z : Nat} {A : Option Addr} {n cp : Nat} {cs : List Value} {T : Nat → Prop} (h : OwnR w base e z A n cp cs) (hk : Kept T w w') (hT : ∀ x, ownS A x → ¬ T x) : OwnR w' base e z A n cp cs := by
  refine ⟨h.1, h.2.imp_right ?_⟩
  rintro ⟨g, cap, cur, hv, h1, h2, h3⟩
  have hg : g < w.heap.size := (Array.getElem?_eq_some_iff.1 h2).1
  simp only [Value.slice.injEq] at hv
  exact ⟨g, cap, cur, by simp [hv], h1, (hk.block g hg (hT g ⟨_, hv.1, rfl⟩)).trans h2, h3⟩
theorem OwnR.own {w : World} {base : Nat} {e : TypeId} {z : Nat} {A : Option Addr} {n cp : Nat} {cs : List Value} (h : OwnR w base e z A n cp cs) : ∀ x, ownS A x → base ≤ x ∧ x < w.heap.size := by
  rintro x ⟨a, rfl, rfl⟩
  rcases h.2 with ⟨hv, _⟩ | ⟨g, cap, cur, hv, h1, h2, _⟩
  · simp at hv
  · simp only [Value.slice.injEq, Option.some.injEq] at hv
    rw [hv.1]
    exact ⟨h1, (Array.getElem?_eq_some_iff.1 h2).1⟩
theorem OwnR.nil (w : World) (base : Nat) (e : TypeId) (z : Nat) : OwnR w base e z none 0 0 [] := World.ownsRow_nil w base e z
theorem OwnR.below {w : World} {base base' : Nat} {e : TypeId} {z : Nat} {A : Option Addr} {n cp : Nat} {cs : List Value} (h : OwnR w base e z A n cp cs) (hb : base' ≤ base) : OwnR w base' e z A n cp cs :=
  ⟨h.1, h.2.imp_right fun ⟨g, cap, cur, hv, h1, h2⟩ => ⟨g, cap, cur, hv, Nat.le_trans hb h1, h2⟩⟩
theorem OwnR.len {w : World} {base : Nat} {e : TypeId} {z : Nat} {A : Option Addr} {n cp : Nat} {cs : List Value} (h : OwnR w base e z A n cp cs) : cs.length = n * z := h.1
theorem OwnR.blk {w : World} {base : Nat} {e : TypeId} {z : Nat} {A : Option Addr} {n cp : Nat} {cs : List Value} (h : OwnR w base e z A n cp cs) :
    (A = none ∧ n = 0 ∧ cp = 0 ∧ cs = []) ∨ ∃ g r, A = some ⟨g, 0, none⟩ ∧ base ≤ g ∧ Blk w g e (cs ++ r) ∧ n ≤ cp ∧ cp ≤ maxLen ∧ (cs ++ r).length = cp * z := by
  have hl := h.1
  rcases h.2 with ⟨hv, hn⟩ | ⟨g, cap, cur, hv, h1, h2, h3, h4, h5, h6⟩
  · simp only [Value.slice.injEq] at hv
    obtain ⟨rfl, _, rfl⟩ := hv
    subst hn
    exact .inl ⟨rfl, rfl, rfl, List.eq_nil_of_length_eq_zero (by simpa using hl)⟩
  · simp only [Value.slice.injEq] at hv
    obtain ⟨rfl, _, rfl⟩ := hv
    have e1 : cs ++ cur.toList.drop (n * z) = cur.toList := by rw [← h6, List.take_append_drop]
    refine .inr ⟨g, cur.toList.drop (n * z), rfl, h1, ?_, h3, h4, by rw [e1]; simpa using h5⟩
    unfold Blk
    rw [e1, h2]
theorem ownR_of {w : World} {base g : Nat} {e : TypeId} {z n cp : Nat} {cs r : List Value} (hb : base ≤ g) (hB : Blk w g e (cs ++ r)) (hn : n ≤ cp) (hc : cp ≤ maxLen) (hl : cs.length = n * z) (hz : (cs ++ r).length = cp * z) : OwnR w base e z (some ⟨g, 0, none⟩) n cp cs :=
  ⟨hl, .inr ⟨g, cp, (cs ++ r).toArray, rfl, hb, hB, hn, hc, by simpa using hz, by rw [← hl]; simp⟩⟩
theorem OwnR.cell {w : World} {base : Nat} {e : TypeId} {z : Nat} {A : Option Addr} {n cp : Nat} {cs : List Value} (h : OwnR w base e z A n cp cs) {j : Nat} {v : Value} (hj : cs[j]? = some v) :
    ∃ g, A = some ⟨g, 0, none⟩ ∧ base ≤ g ∧ g < w.heap.size ∧ w.cell? ⟨g, j, none⟩ = some v := by
  rcases h.blk with ⟨_, _, _, rfl⟩ | ⟨g, r, rfl, h1, h2, _⟩
  · simp at hj
  · exact ⟨g, rfl, h1, h2.lt, h2.at_ (by rw [List.getElem?_append_left (List.getElem?_eq_some_iff.1 hj).1]; exact hj)⟩
theorem kept_grownS {w w' : World} {v : Value} (h : w.grownBy w' v.ownBlock) {A : Option Addr} {n cp : Nat} (hv : v = .slice A n cp) : Kept (ownS A) w w' := by
  subst hv
  refine ⟨h.os, h.tape, h.output, h.size, fun k hk hn => h.block k hk (fun e => ?_)⟩
  cases A with
  | none => simp [Value.ownBlock] at e
  | some a => simp only [Value.ownBlock, Option.some.injEq] at e; exact hn ⟨a, rfl, e⟩
/-- what became of a slice that was handed in -/
def FromS (w : World) (A0 A : Option Addr) : Prop := ∀ x, ownS A x → ownS A0 x ∨ w.heap.size ≤ x
theorem FromS.refl (w : World) (A : Option Addr) : FromS w A A := fun _ h => .inl h
theorem FromS.more {w W : World} {A0 A A' : Option Addr} (h : FromS w A0 A) (h' : ∀ x, ownS A' x → ownS A x ∨ W.heap.size ≤ x) (hs : w.heap.size ≤ W.heap.size) : FromS w A0 A' := fun x hx => (h' x hx).elim (h x) (fun e => .inr (Nat.le_trans hs e))
theorem ones_all {l : List Value} (h : l.all Value.oneCell' = true) : ∀ u ∈ l, u.oneCell' = true := List.all_eq_true.1 h
/-- a block of that type was there -/
def TyIn (w : World) (e : TypeId) (x : Nat) : Prop := ∃ cur fz, w.heap[x]? = some (.cells cur e fz)
theorem OwnR.ty {w : World} {base : Nat} {e : TypeId} {z : Nat} {A : Option Addr} {n cp : Nat} {cs : List Value} (h : OwnR w base e z A n cp cs) : ∀ x, ownS A x → TyIn w e x := by
  rintro x ⟨a, rfl, rfl⟩
  rcases h.blk with ⟨h0, _⟩ | ⟨g, r, h0, _, h2, _⟩
  · cases h0
  · simp only [Option.some.injEq] at h0
    subst h0
    exact ⟨_, _, h2⟩
theorem own_ty {w W : World} {base : Nat} {e : TypeId} {z : Nat} {A : Option Addr} {n cp : Nat} {cs : List Value} (hk : Kept (TyIn w e) w W) (h : OwnR W base e z A n cp cs) : ∀ x, ownS A x → TyIn w e x ∨ w.heap.size ≤ x := by
  intro x hx
  by_cases hl : x < w.heap.size
  · by_cases ht : TyIn w e x
    · exact .inl ht
    · obtain ⟨cur, fz, hc⟩ := h.ty x hx
      rw [hk.block x hl ht] at hc
      exact absurd ⟨cur, fz, hc⟩ ht
  · exact .inr (by omega)
/-- our own blocks are none of the known ones that may be written: those are of another type -/
theorem OwnR.calm {w W : World} {S : Nat → Prop} {bk : List Bk} {wn : List Wn} {sz : Nat} {base : Nat} {e : TypeId} {z : Nat} {A : Option Addr} {n cp : Nat} {cs : List Value} (h : OwnR W base e z A n cp cs) (hm : MemOk w S bk wn sz W) (ht : ∀ b ∈ bk, b.t ≠ e) : ∀ x, ownS A x → ¬ Turned bk x := by
  rintro x hx ⟨b, hb, _, rfl⟩
  obtain ⟨cur, fz, hc⟩ := h.ty _ hx
  have h2 : W.heap[b.g]? = _ := hm.blk b hb
  rw [hc] at h2
  simp only [Option.some.injEq, Obj.cells.injEq] at h2
  exact ht b hb h2.2.1.symm
theorem OwnR.apart {w W : World} {S : Nat → Prop} {bk : List Bk} {wn : List Wn} {sz : Nat} {base : Nat} {e : TypeId} {z : Nat} {A : Option Addr} {n cp : Nat} {cs : List Value} (h : OwnR W base e z A n cp cs) (hm : MemOk w S bk wn sz W) {b : Bk} (hb : b ∈ bk) (ht : b.t ≠ e) : ¬ ownS A b.g := by
  intro hx
  obtain ⟨cur, fz, hc⟩ := h.ty _ hx
  have h2 : W.heap[b.g]? = _ := hm.blk b hb
  rw [hc] at h2
  simp only [Option.some.injEq, Obj.cells.injEq] at h2
  exact ht h2.2.1.symm
theorem own_apart {W : World} {b b' : Nat} {e e' : TypeId} {z z' : Nat} {A A' : Option Addr} {n n' cp cp' : Nat} {cs cs' : List Value} (h : OwnR W b e z A n cp cs) (h' : OwnR W b' e' z' A' n' cp' cs') (hne : e ≠ e') : ∀ x, ownS A x → ¬ ownS A' x := by
  intro x hx hx'
  obtain ⟨cur, fz, hc⟩ := h.ty x hx
  obtain ⟨cur', fz', hc'⟩ := h'.ty x hx'
  rw [hc] at hc'
  simp only [Option.some.injEq, Obj.cells.injEq] at hc'
  exact hne hc'.2.1
theorem MemOk.bck {w W W1 : World} {S : Nat → Prop} {bk bk' : List Bk} {wn : List Wn} {sz : Nat} (h : MemOk w S bk [] W.heap.size W) (h1 : MemOk W (Turned bk) bk' wn sz W1) : MemOk w S bk' [] sz W1 :=
  ⟨h1.size, h1.blk, fun b hb hr => (h1.own b hb hr).elim (fun ⟨c, hc, h2, h3⟩ => by rw [← h3]; exact h.own c hc h2) (fun h2 => .inr (Nat.le_trans h.kept.size h2)), h1.nd,
    h.kept.trans h1.kept (fun k hk ⟨b, hb, hr, he⟩ => (h.own b hb hr).elim (fun h2 => he ▸ h2) (fun h2 => absurd hk (by omega))), fun x hx => by cases hx⟩
theorem MemOk.offA {w wx w' : World} {S S' T : Nat → Prop} {bk : List Bk} {wn : List Wn} {sz : Nat} (hm : MemOk w S bk wn sz wx) (hS : ∀ x, S x → S' x) (hk : Kept T wx w') (hT : ∀ x, T x → S' x ∨ w.heap.size ≤ x) (hb : ∀ b ∈ bk, ¬ T b.g) : MemOk w S' bk [] w'.heap.size w' :=
  ⟨rfl, fun b h => (hm.blk b h).kept hk (hb b h), fun b h hr => (hm.own b h hr).imp_left (hS _), hm.nd, (hm.kept.mono (fun k _ h => hS k h)).trans hk (fun k hk' h => (hT k h).resolve_right (by omega)), fun x hx => by cases hx⟩
theorem MemOk.wide {w0 w : World} {S S' : Nat → Prop} {bk : List Bk} {wn : List Wn} {sz : Nat} (hm : MemOk w0 S bk wn sz w) (h : ∀ x, S x → S' x) : MemOk w0 S' bk [] sz w :=
  ⟨hm.size, hm.blk, fun b hb hr => (hm.own b hb hr).imp_left (h _), hm.nd, hm.kept.mono (fun k _ h' => h k h'), fun x hx => (by cases hx)⟩
theorem MemOk.none_ {w0 w : World} {S : Nat → Prop} {bk : List Bk} {wn : List Wn} {sz : Nat} (hm : MemOk w0 S bk wn sz w) : MemOk w0 S [] [] sz w :=
  ⟨hm.size, fun b hb => (by cases hb), fun b hb => (by cases hb), List.nodup_nil, hm.kept, fun x hx => (by cases hx)⟩
section
variable {P : Program}
/-- an append of m elements that lie in a row to a slice of our own -/
theorem run_appendR (w : World) (base : Nat) (t ty e : TypeId) (zv : Value) (z by_ : Nat) (A : Option Addr) (n cp : Nat) (cs : List Value) (a : Addr) (m c : Nat) (xs : List Value) (ht : P.underlying t = some (.slice e)) (hi : (P.info? e).map (fun i => (i.zero, i.size, i.bytes)) = some (some zv, z, by_))
    (hzz : zv.cells.size = z) (hz0 : 0 < z) (h : OwnR w base e z A n cp cs) (hl : xs.length = m * z) (hc : ∀ j x, xs[j]? = some x → w.cell? (a.add j) = some x) (ho : ∀ u ∈ xs, u.oneCell' = true) (hn : n + m ≤ 100000) (hby : by_ ≤ 1000) (hb : base ≤ w.heap.size) :
    ∃ A' cp' w', (Builtin.append_ #[t, t] ty #[.slice A n cp, .slice (some a) m c]).run P w = .ok (.slice A' (n + m) cp') w' ∧ OwnR w' base e z A' (n + m) cp' (cs ++ xs) ∧ Kept (ownS A) w w' ∧ (∀ x, ownS A' x → ownS A x ∨ w.heap.size ≤ x) := by
  obtain ⟨inf, hi1, hi2⟩ := Option.map_eq_some_iff.1 hi
  simp only [Prod.mk.injEq] at hi2
  obtain ⟨hz, hs, hby2⟩ := hi2
  obtain ⟨v', w', h1, h2, h3, h4, h5⟩ := run_append_own_at (P := P) w base t ty e inf zv z by_ ht hi1 hz hs hby2 hzz hz0 (.slice A n cp) n cs h a m c xs hl hc ho (by simp only [maxLen]; omega)
    (Nat.le_trans (Nat.mul_le_mul hn hby) (by decide)) hb
  have hk := kept_grownS h3 rfl
  rcases h2.2 with ⟨rfl, hx⟩ | ⟨g', cap', cur, rfl, hr⟩
  · refine ⟨none, 0, w', ?_, ?_, hk, fun x ⟨a, ha, _⟩ => by cases ha⟩
    · rw [h1, hx]
    · unfold OwnR
      rw [hx] at h2 ⊢
      exact h2
  · refine ⟨some ⟨g', 0, none⟩, cap', w', h1, h2, hk, ?_⟩
    rintro x ⟨a', ha, rfl⟩
    simp only [Option.some.injEq] at ha
    subst ha
    rcases h5 with h6 | h6
    · left
      cases A with
      | none => simp [Value.ownBlock] at h6
      | some a0 => simp only [Value.ownBlock, Option.some.injEq] at h6; exact ⟨a0, rfl, h6⟩
    · right
      simp only [Value.ownBlock, Option.some.injEq] at h6
      exact Nat.le_of_eq h6.symm
theorem strCells_is (s : ByteArray) : strCells s = intsV (intsOf s) := by
  simp [strCells, intsV, intsOf]
/-- an append of a text's bytes -/
theorem run_appendS (w : World) (base : Nat) (t u ty e : TypeId) (A : Option Addr) (n cp : Nat) (cs : List Value) (s : ByteArray) (ht : P.underlying t = some (.slice e)) (hu : P.underlying u = some .string) (hi : (P.info? e).map (fun i => (i.zero, i.size, i.bytes)) = some (some (.int .u8 0), 1, 1))
    (h : OwnR w base e 1 A n cp cs) (hn : n + s.size ≤ 100000) (hb : base ≤ w.heap.size) :
    ∃ A' cp' w', (Builtin.append_ #[t, u] ty #[.slice A n cp, .string s]).run P w = .ok (.slice A' (n + s.size) cp') w' ∧ OwnR w' base e 1 A' (n + s.size) cp' (cs ++ intsV (intsOf s)) ∧ Kept (ownS A) w w' := by
  obtain ⟨inf, hi1, hi2⟩ := Option.map_eq_some_iff.1 hi
  simp only [Prod.mk.injEq] at hi2
  obtain ⟨hz, hs, hby2⟩ := hi2
  obtain ⟨v', w', h1, h2, h3, h4⟩ := run_append_own_string (P := P) w base t u ty e inf ht hu hi1 hz hs hby2 (.slice A n cp) n cs h s (by simp only [maxLen]; omega) (by omega) hb
  have hk := kept_grownS h3 rfl
  rw [strCells_is] at h2
  rcases h2.2 with ⟨rfl, hx⟩ | ⟨g', cap', cur, rfl, hr⟩
  · refine ⟨none, 0, w', ?_, ?_, hk⟩
    · rw [h1, hx]
    · unfold OwnR
      rw [hx] at h2 ⊢
      exact h2
  · exact ⟨some ⟨g', 0, none⟩, cap', w', h1, h2, hk⟩
/-- our own bytes as a text -/
theorem run_bytesR (w : World) (base : Nat) (src dst e : TypeId) (A : Option Addr) (n cp : Nat) (l : List Int) (hs : P.underlying src = some (.slice e)) (he : P.underlying e = some (.int .u8)) (hd : P.underlying dst = some .string)
    (h : OwnR w base e 1 A n cp (intsV l)) (hb : Byts l) : (convert src dst (.slice A n cp)).run P w = .ok (.string (bytesI l)) w := by
  have hl : (u8s l).length = l.length := by simp [u8s]
  have hn : l.length = n := by simpa [intsV] using h.len
  rcases h.blk with ⟨rfl, rfl, rfl, hc⟩ | ⟨g, r, rfl, h1, h2, _⟩
  · have e0 : l = [] := by simpa [intsV] using hc
    subst e0
    exact run_convert_bytes_nil (P := P) w src e hs he 0 0 dst hd
  · have h3 := run_convert_bytes_back (P := P) w src dst e ⟨g, 0, none⟩ cp (u8s l) hs he hd (fun j hj => by
      have : (⟨g, 0, none⟩ : Addr).add j = ⟨g, 0 + j, none⟩ := add_norm _ _ _
      rw [this, Nat.zero_add]
      refine (h2.cell _).trans ?_
      have h2 : j < (intsV l).length := by simpa [intsV, u8s] using hj
      rw [List.getElem?_append_left h2, ← bytesV_u8s hb]
      simp [bytesV, hj])
    rw [hl, hn] at h3
    exact h3
variable {D : List Deferred} {n : Nat} {w0 : World} {S : Nat → Prop} {Y : Type} {body : Code} {Q : Exit → Act → World → Prop}
/-- an operation by a law, that changes the world; with a fact of the world behind it -/
theorem holds_opV {p : List Nat} {i : Nat} {l : List Nat} {k : List KI} {st : St} {dst : Option Nat} {x : Sem Value} {w : World} {S' : Nat → Prop} (v : Y → Value) (bk' : List Bk) (X : Y → World → Prop) (sl : Y → List (Nat × Value))
    (hd : dstAt (opsOf (getCode body p)) st.sl i = some dst) (hx : semAt (opsOf (getCode body p)) st.sl i = some (asV x)) (hp : ∀ c, putS n st.sl dst (v c) = some (sl c))
    (hr : ∀ wx, MemOk w0 S st.bk st.wn st.sz wx → ∃ c w', x.run P wx = .ok (v c) w' ∧ X c w' ∧ MemOk w S' bk' [] w'.heap.size w')
    (hh : ∀ c W, X c W → MemOk w S' bk' [] W.heap.size W → Holds D P body n W (Turned bk') Q (.ops p l :: k) ⟨sl c, bk', [], W.heap.size⟩) : Holds D P body n w0 S Q (.ops p (i :: l) :: k) st := by
  intro a wx hf hm
  simp only [sem]
  rw [wpOps_cons]
  unfold dstAt at hd
  unfold semAt at hx
  split at hd
  · rename_i o ho
    simp only [ho, Option.some.injEq] at hx
    split at hd
    · rename_i hg
      split at hd
      · rename_i hk
        simp only [Option.some.injEq] at hd
        have hw : Region.wanted o (yielded (opsOf (getCode body p)) a.tmps) = true := by simp [Region.wanted, hg]
        simp only [wpOp, ho, if_pos hw]
        refine .inl ?_
        obtain ⟨c, w', h2, h3, h4⟩ := hr wx hm
        have h5 : (execOp a.eval o).run P wx = .ok (.value (v c)) w' := by
          rw [hf.rho hk, hx]
          simp only [asV, Sem.run_bind, h2, Result.andThen_ok, Sem.run_pure]
        simp only [Oper.wp, h5, Oper.upon_value]
        rw [hd]
        exact hh c w' h3 h4 _ _ (hf.put (hp c)) h4.again
      · cases hd
    · cases hd
  · cases hd
/-- the same as the only one that is ready in a region that draws its order -/
theorem holds_anyV {p : List Nat} {i f0 : Nat} {ls ls' : Array Bool} {k : List KI} {st : St} {dst : Option Nat} {x : Sem Value} {w : World} {S' : Nat → Prop} (v : Y → Value) (bk' : List Bk) (X : Y → World → Prop) (sl : Y → List (Nat × Value))
    (hl : ls.setIfInBounds i true = ls') (hr0 : Region.ready .any (opsOf (getCode body p)) ls = [i])
    (hd : dstAt (opsOf (getCode body p)) st.sl i = some dst) (hx : semAt (opsOf (getCode body p)) st.sl i = some (asV x)) (hp : ∀ c, putS n st.sl dst (v c) = some (sl c))
    (hr : ∀ wx, MemOk w0 S st.bk st.wn st.sz wx → ∃ c w', x.run P wx = .ok (v c) w' ∧ X c w' ∧ MemOk w S' bk' [] w'.heap.size w')
    (hh : ∀ c W, X c W → MemOk w S' bk' [] W.heap.size W → Holds D P body n W (Turned bk') Q (.any p f0 ls' :: k) ⟨sl c, bk', [], W.heap.size⟩) : Holds D P body n w0 S Q (.any p (f0 + 1) ls :: k) st := by
  intro a wx hf hm
  subst hl
  simp only [sem]
  refine ⟨fun h => (by rw [hr0] at h; cases h), fun j hj => ?_⟩
  rw [hr0, List.mem_singleton] at hj
  subst hj
  unfold dstAt at hd
  unfold semAt at hx
  split at hd
  · rename_i o ho
    simp only [ho, Option.some.injEq] at hx
    split at hd
    · rename_i hg
      split at hd
      · rename_i hk
        simp only [Option.some.injEq] at hd
        have hw : Region.wanted o (yielded (opsOf (getCode body p)) a.tmps) = true := by simp [Region.wanted, hg]
        simp only [wpOp, ho, if_pos hw]
        refine .inl ?_
        obtain ⟨c, w', h2, h3, h4⟩ := hr wx hm
        have h5 : (execOp a.eval o).run P wx = .ok (.value (v c)) w' := by
          rw [hf.rho hk, hx]
          simp only [asV, Sem.run_bind, h2, Result.andThen_ok, Sem.run_pure]
        simp only [Oper.wp, h5, Oper.upon_value]
        rw [hd]
        have h6 := hh c w' h3 h4 _ _ (hf.put (hp c)) h4.again
        simpa only [sem] using h6
      · cases hd
    · cases hd
  · cases hd
end
end Go.Proofs.Ytmeddeaphmpjcaa
