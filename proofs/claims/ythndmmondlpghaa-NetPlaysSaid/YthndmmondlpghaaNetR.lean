/- Layer 13: the document's net: a list of texts in the memory, of our own; what its Send does. Plain lemmas; no program. -/
import Derived.Test.YthndmmondlpghaaNetO
import Derived.Test.YthndmmondlpghaaNet2
import Derived.Laws.AppendOwn
namespace Go.Proofs.Ythndmmondlpghaa
open Go.RowKit

def txsV (L : List (List UInt8)) : List Value := L.map fun x => .string (bs x)
def OwnL (w : World) (base : Nat) (e : TypeId) (A : Option Addr) (n cp : Nat) (L : List (List UInt8)) : Prop := w.ownsRow base e 1 (.slice A n cp) n (txsV L)
def ownA (A : Option Addr) (x : Nat) : Prop := ∃ a, A = some a ∧ x = a.block
theorem OwnL.kept {w w' : World} {base : Nat} {e : TypeId} {A : Option Addr} {n cp : Nat} {L : List (List UInt8)} {T : Nat → Prop} (h : OwnL w base e A n cp L) (hk : Kept T w w') (hT : ∀ x, ownA A x → ¬ T x) : OwnL w' base e A n cp L := by
  refine ⟨h.1, h.2.imp_right ?_⟩
  rintro ⟨g, cap, cur, hv, h1, h2, h3⟩
  have hg : g < w.heap.size := (Array.getElem?_eq_some_iff.1 h2).1
  simp only [Value.slice.injEq] at hv
  exact ⟨g, cap, cur, by simp [hv], h1, (hk.block g hg (hT g ⟨_, hv.1, rfl⟩)).trans h2, h3⟩
theorem OwnL.own {w : World} {base : Nat} {e : TypeId} {A : Option Addr} {n cp : Nat} {L : List (List UInt8)} (h : OwnL w base e A n cp L) : ∀ x, ownA A x → base ≤ x ∧ x < w.heap.size := by
  rintro x ⟨a, rfl, rfl⟩
  rcases h.2 with ⟨hv, _⟩ | ⟨g, cap, cur, hv, h1, h2, _⟩
  · simp at hv
  · simp only [Value.slice.injEq, Option.some.injEq] at hv
    rw [hv.1]
    exact ⟨h1, (Array.getElem?_eq_some_iff.1 h2).1⟩
theorem OwnL.nil (w : World) (base : Nat) (e : TypeId) : OwnL w base e none 0 0 [] := World.ownsRow_nil w base e 1
theorem OwnL.below {w : World} {base base' : Nat} {e : TypeId} {A : Option Addr} {n cp : Nat} {L : List (List UInt8)} (h : OwnL w base e A n cp L) (hb : base' ≤ base) : OwnL w base' e A n cp L :=
  ⟨h.1, h.2.imp_right fun ⟨g, cap, cur, hv, h1, h2⟩ => ⟨g, cap, cur, hv, Nat.le_trans hb h1, h2⟩⟩
theorem OwnL.len {w : World} {base : Nat} {e : TypeId} {A : Option Addr} {n cp : Nat} {L : List (List UInt8)} (h : OwnL w base e A n cp L) : L.length = n := by
  have := h.1
  simpa [txsV] using this
theorem OwnL.get {w : World} {base : Nat} {e : TypeId} {A : Option Addr} {n cp : Nat} {L : List (List UInt8)} (h : OwnL w base e A n cp L) {j : Nat} (hj : j < n) :
    ∃ g, A = some ⟨g, 0, none⟩ ∧ base ≤ g ∧ g < w.heap.size ∧ n ≤ cp ∧ ∀ k x, L[k]? = some x → w.cell? ⟨g, 0 + k * 1, none⟩ = some (.string (bs x)) := by
  rcases h.2 with ⟨_, hn⟩ | ⟨g, cap, cur, hv, h1, h2, h3, _⟩
  · omega
  · simp only [Value.slice.injEq] at hv
    obtain ⟨rfl, _, rfl⟩ := hv
    refine ⟨g, rfl, h1, (Array.getElem?_eq_some_iff.1 h2).1, h3, fun k x hk => ?_⟩
    have h3 := World.ownsRow.cells h (g := g) rfl k (.string (bs x)) (by simp [txsV, hk])
    rw [add_norm] at h3
    rw [Nat.mul_one]
    exact h3
theorem kept_grownA {w w' : World} {v : Value} (h : w.grownBy w' v.ownBlock) {A : Option Addr} {n cp : Nat} (hv : v = .slice A n cp) : Kept (ownA A) w w' := by
  subst hv
  refine ⟨h.os, h.tape, h.output, h.size, fun k hk hn => h.block k hk (fun e => ?_)⟩
  cases A with
  | none => simp [Value.ownBlock] at e
  | some a => simp only [Value.ownBlock, Option.some.injEq] at e; exact hn ⟨a, rfl, e⟩
def sfrom (g cp k : Nat) : Addr := if cp = k then ⟨g, 0, none⟩ else ⟨g, k, none⟩
section
variable {P : Program}
theorem run_appendL (w : World) (base : Nat) (t ty e : TypeId) (A : Option Addr) (n cp : Nat) (L : List (List UInt8)) (a : Addr) (m c : Nat) (xs : List (List UInt8)) (ht : P.underlying t = some (.slice e)) (hi : (P.info? e).map (fun i => (i.zero, i.size, i.bytes)) = some (some (.string ⟨#[]⟩), 1, 16))
    (h : OwnL w base e A n cp L) (hl : xs.length = m) (hc : ∀ j x, xs[j]? = some x → w.cell? (a.add j) = some (.string (bs x))) (hn : n + m ≤ 1000) (hb : base ≤ w.heap.size) :
    ∃ A' cp' w', (Builtin.append_ #[t, t] ty #[.slice A n cp, .slice (some a) m c]).run P w = .ok (.slice A' (n + m) cp') w' ∧ OwnL w' base e A' (n + m) cp' (L ++ xs) ∧ Kept (ownA A) w w' := by
  obtain ⟨inf, hi1, hi2⟩ := Option.map_eq_some_iff.1 hi
  simp only [Prod.mk.injEq] at hi2
  obtain ⟨hz, hs, hby⟩ := hi2
  obtain ⟨v', w', h1, h2, h3, h4⟩ := run_append_own (P := P) w base t ty e inf (.string ⟨#[]⟩) 1 16 ht hi1 hz hs hby rfl (by omega) (.slice A n cp) n (txsV L) h a m c (txsV xs) (by simp [txsV, hl]) (fun j u hj => by
    simp only [txsV, List.getElem?_map, Option.map_eq_some_iff] at hj
    obtain ⟨x, hx, rfl⟩ := hj
    exact hc j x hx) (fun u hu => by
      simp only [txsV, List.mem_map] at hu
      obtain ⟨x, _, rfl⟩ := hu
      rfl) (by simp only [maxLen]; omega) (by omega) hb
  have hk := kept_grownA h3 rfl
  have h5 : txsV L ++ txsV xs = txsV (L ++ xs) := by simp [txsV]
  rw [h5] at h2
  rcases h2.2 with ⟨rfl, hx⟩ | ⟨g', cap', cur, rfl, hr⟩
  · refine ⟨none, 0, w', ?_, ?_, hk⟩
    · rw [h1, hx]
    · unfold OwnL
      rw [hx] at h2 ⊢
      exact h2
  · exact ⟨some ⟨g', 0, none⟩, cap', w', h1, h2, hk⟩
theorem run_sliceTo (w : World) (t e : TypeId) (g n cp : Nat) (i : Int) (ht : P.underlying t = some (.slice e)) (hs : (P.info? e).map (·.size) = some 1) (hi : 0 ≤ i ∧ i ≤ (cp : Int)) :
    (Instr.sliceAt t (.slice (some ⟨g, 0, none⟩) n cp) none (some (.int .i64 i)) none).run P w = .ok (.slice (some ⟨g, 0, none⟩) i.toNat cp) w := by
  obtain ⟨inf, hi1, _⟩ := Option.map_eq_some_iff.1 hs
  have e1 : (⟨g, 0, none⟩ : Addr).add 0 = ⟨g, 0, none⟩ := add_norm g 0 0
  simp [Instr.sliceAt, Instr.slice, Instr.sliceBounds, Instr.sliceBound, asIntOf, run_underlying ht, hi.1, hi.2, sizeOf, typeInfo, hi1, e1]
theorem run_sliceFrom (w : World) (t e : TypeId) (g n cp : Nat) (i : Int) (ht : P.underlying t = some (.slice e)) (hs : (P.info? e).map (·.size) = some 1) (hi : 0 ≤ i ∧ i ≤ (n : Int)) :
    (Instr.sliceAt t (.slice (some ⟨g, 0, none⟩) n cp) (some (.int .i64 i)) none none).run P w = .ok (.slice (some (sfrom g cp i.toNat)) (n - i.toNat) (cp - i.toNat)) w := by
  obtain ⟨inf, hi1, hi2⟩ := Option.map_eq_some_iff.1 hs
  have e1 : (⟨g, 0, none⟩ : Addr).add i.toNat = ⟨g, i.toNat, none⟩ := by rw [add_norm, Nat.zero_add]
  unfold sfrom
  by_cases h : cp = i.toNat
  · simp [Instr.sliceAt, Instr.slice, Instr.sliceBounds, Instr.sliceBound, asIntOf, run_underlying ht, hi.1, hi.2, sizeOf, typeInfo, hi1, h]
  · simp [Instr.sliceAt, Instr.slice, Instr.sliceBounds, Instr.sliceBound, asIntOf, run_underlying ht, hi.1, hi.2, sizeOf, typeInfo, hi1, hi2, h, e1]
end
/-- an operation with one of several values and a fact of the world; blocks may be let go -/
theorem holds_opV {D : List Deferred} {P : Program} {n : Nat} {w0 : World} {S : Nat → Prop} {Y : Type} {body : Code} {Q : Exit → Act → World → Prop} {p : List Nat} {i : Nat} {l : List Nat} {k : List KI} {st : St} {dst : Option Nat} {x : Sem Value} {w : World} {S' : Nat → Prop} (v : Y → Value) (bk' : List Bk) (X : Y → World → Prop) (sl : Y → List (Nat × Value))
    (hd : dstAt (opsOf (getCode body p)) st.sl i = some dst) (hx : semAt (opsOf (getCode body p)) st.sl i = some (asV x)) (hp : ∀ c, putS n st.sl dst (v c) = some (sl c))
    (hr : ∀ wx, MemOk w0 S st.bk st.wn st.sz wx → ∃ c w', x.run P wx = .ok (v c) w' ∧ X c w' ∧ MemOk w S' bk' [] w'.heap.size w')
    (hh : ∀ c W, X c W → MemOk w S' bk' [] W.heap.size W → Holds D P body n W (Turned bk') Q (.ops p l :: k) ⟨sl c, bk', [], W.heap.size⟩) : Holds D P body n w0 S Q (.ops p (i :: l) :: k) st := by
  intro a wx hf hm
  simp only [sem]
  rw [wpOps_cons]
  unfold dstAt at hd
  unfold semAt at hx
  split at hd
  · rename_i o ho
    simp only [ho, Option.some.injEq] at hx
    split at hd
    · rename_i hg
      split at hd
      · rename_i hk
        simp only [Option.some.injEq] at hd
        have hw : Region.wanted o (yielded (opsOf (getCode body p)) a.tmps) = true := by simp [Region.wanted, hg]
        simp only [wpOp, ho, if_pos hw]
        refine .inl ?_
        obtain ⟨c, w', h2, h3, h4⟩ := hr wx hm
        have h5 : (execOp a.eval o).run P wx = .ok (.value (v c)) w' := by
          rw [hf.rho hk, hx]
          simp only [asV, Sem.run_bind, h2, Result.andThen_ok, Sem.run_pure]
        simp only [Oper.wp, h5, Oper.upon_value]
        rw [hd]
        exact hh c w' h3 h4 _ _ (hf.put (hp c)) h4.again
      · cases hd
    · cases hd
  · cases hd
/- the document's net -/
def RefAt (tR tS : TypeId) (w : World) (base gx rb : Nat) (L : List (List UInt8)) : Prop := ∃ A cp, Blk w rb tR [.slice A L.length cp] ∧ OwnL w base tS A L.length cp L ∧ base ≤ rb ∧ ¬ ownA A rb ∧ ¬ ownA A gx ∧ rb ≠ gx
theorem RefAt.kept {tR tS : TypeId} {w w' : World} {base gx rb : Nat} {L : List (List UInt8)} {T : Nat → Prop} (h : RefAt tR tS w base gx rb L) (hk : Kept T w w') (hT : ∀ x, base ≤ x → x ≠ gx → ¬ T x) : RefAt tR tS w' base gx rb L := by
  obtain ⟨A, cp, hB, hO, h3, h4, h5, h6⟩ := h
  exact ⟨A, cp, hB.kept hk (hT rb h3 h6), hO.kept hk (fun x hx => hT x (hO.own x hx).1 (fun e => h5 (e ▸ hx))), h3, h4, h5, h6⟩
theorem RefAt.lt {tR tS : TypeId} {w : World} {base gx rb : Nat} {L : List (List UInt8)} (h : RefAt tR tS w base gx rb L) : base ≤ rb ∧ rb < w.heap.size ∧ rb ≠ gx := by
  obtain ⟨A, cp, hB, hO, h3, h4, h5, h6⟩ := h
  exact ⟨h3, hB.lt, h6⟩
/-- another block to stay clear of: one that is not there yet, or that is older -/
theorem RefAt.clear {tR tS : TypeId} {w : World} {base gx rb : Nat} {L : List (List UInt8)} (h : RefAt tR tS w base gx rb L) (gy : Nat) (hy : gy < base ∨ w.heap.size ≤ gy) : RefAt tR tS w base gy rb L := by
  obtain ⟨A, cp, hB, hO, h3, h4, h5, h6⟩ := h
  have := hB.lt
  exact ⟨A, cp, hB, hO, h3, h4, fun hx => (by have := hO.own gy hx; omega), by omega⟩
/-- what its Send does -/
def insR (s : List UInt8) : List (List UInt8) → List (List UInt8)
  | [] => [s]
  | x :: L => if Op.bytesLess s x = true then s :: x :: L else x :: insR s L
theorem insR_perm (s : List UInt8) : ∀ (L : List (List UInt8)), (insR s L).Perm (s :: L)
  | [] => List.Perm.refl _
  | x :: L => by
    unfold insR
    split
    · exact List.Perm.refl _
    · exact ((insR_perm s L).cons x).trans (List.Perm.swap s x L)
theorem insR_srt (s : List UInt8) : ∀ {L : List (List UInt8)}, Srt L → Srt (insR s L)
  | [], _ => List.pairwise_singleton _ _
  | x :: L, h => by
    unfold insR
    have h2 := List.pairwise_cons.1 h
    split
    · rename_i hl
      rw [bytesLess_lt, decide_eq_true_iff] at hl
      have hsx : leB s x = true := by
        simp only [leB, decide_eq_true_eq]
        exact List.le_of_lt hl
      refine List.pairwise_cons.2 ⟨fun y hy => ?_, h⟩
      rcases List.mem_cons.1 hy with rfl | hy
      · exact hsx
      · exact le_tr _ _ _ hsx (h2.1 y hy)
    · rename_i hl
      rw [bytesLess_lt, decide_eq_true_iff] at hl
      refine List.pairwise_cons.2 ⟨fun y hy => ?_, insR_srt s h2.2⟩
      rcases List.mem_cons.1 ((insR_perm s L).mem_iff.1 hy) with rfl | hy
      · simp only [leB, decide_eq_true_eq]
        exact List.not_lt.1 hl
      · exact h2.1 y hy
theorem insR_eq {s : List UInt8} {L : List (List UInt8)} (h : Srt L) : insR s L = insL s L := (ins_perm (insR_srt s h) (insR_perm s L)).symm
theorem gtr_less (x s : ByteArray) : (!(Op.bytesLess x.toList s.toList || (x.toList == s.toList))) = Op.bytesLess (kb s) (kb x) := by
  rw [ByteArray.toList_eq, ByteArray.toList_eq]
  show (!(Op.bytesLess (kb x) (kb s) || (kb x == kb s))) = _
  rw [bytesLess_lt, bytesLess_lt, Bool.eq_iff_iff]
  simp only [Bool.not_eq_true', Bool.or_eq_false_iff, decide_eq_false_iff_not, beq_eq_false_iff_ne, decide_eq_true_eq]
  constructor
  · rintro ⟨h1, h2⟩
    exact Classical.byContradiction fun h3 => h2 (List.le_antisymm (List.not_lt.1 h3) (List.not_lt.1 h1))
  · intro h
    exact ⟨fun h2 => absurd (List.lt_trans h h2) (List.lt_irrefl _), fun h2 => by rw [h2] at h; exact List.lt_irrefl _ h⟩
end Go.Proofs.Ythndmmondlpghaa
