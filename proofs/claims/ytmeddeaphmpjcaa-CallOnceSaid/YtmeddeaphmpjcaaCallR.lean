/- Layer 14: what stays, round by round, in the ranges over the open calls. Plain lemmas; no program. -/
import Derived.Test.YtmeddeaphmpjcaaCallM
import Derived.Test.YtmeddeaphmpjcaaEngL
import Derived.Test.YtmeddeaphmpjcaaEngZ
import Derived.Lib.SliceRun
namespace Go.Proofs.Ytmeddeaphmpjcaa
open Go.RowKit
theorem kept_or {S S' T : Nat → Prop} {a b c : World} (h : Kept S a b) (h' : Kept S' b c) (hs : ∀ k, k < a.heap.size → S' k → T k) (hs' : ∀ k, S k → T k) : Kept T a c := (h.mono (fun k _ h => hs' k h)).trans h' hs
theorem panicOk_way : PanicOk NoWay := fun _ _ _ _ _ h => h
theorem grown_cells {B : Nat} {W W' : World} {row : Option Nat} (hg : W.grownBy W' row) (hr : ∀ r, row = some r → B ≤ r ∧ ∃ o : Obj, W.heap[r]? = some o ∧ o.isCells = false) {k : Nat} {o : Obj} (ho : W.heap[k]? = some o) (h1 : k < B ∨ o.isCells = true) : W'.heap[k]? = some o := by
  refine (hg.block k (Array.getElem?_eq_some_iff.1 ho).1 (fun e => ?_)).trans ho
  obtain ⟨h2, o', h3, h4⟩ := hr k e.symm
  rw [ho] at h3
  cases h3
  rcases h1 with h1 | h1
  · omega
  · rw [h1] at h4
    cases h4
theorem memOk_grown {B : Nat} {w0 W W' : World} {row : Option Nat} {S : Nat → Prop} {bk : List Bk} (hB : w0.heap.size ≤ B) (hm : MemOk w0 S bk [] W.heap.size W) (hg : W.grownBy W' row) (hr : ∀ r, row = some r → B ≤ r ∧ ∃ o : Obj, W.heap[r]? = some o ∧ o.isCells = false) :
    MemOk w0 S bk [] W'.heap.size W' :=
  ⟨rfl, fun b hb => grown_cells hg hr (hm.blk b hb) (.inr rfl), hm.own, hm.nd, ⟨hg.os.trans hm.kept.os, hg.tape.trans hm.kept.tape, hg.output.trans hm.kept.output, Nat.le_trans hm.kept.size hg.size, fun k hlt hn => by
    have h1 := hm.kept.block k hlt hn
    obtain ⟨o, ho⟩ : ∃ o, w0.heap[k]? = some o := ⟨_, Array.getElem?_eq_getElem hlt⟩
    rw [ho] at h1
    rw [ho]
    exact grown_cells hg hr h1 (.inl (by omega))⟩, fun _ hx => by cases hx⟩
theorem ownR_grown {B : Nat} {W W' : World} {row : Option Nat} {base : Nat} {e : TypeId} {z : Nat} {A : Option Addr} {n cp : Nat} {cs : List Value} (h : OwnR W base e z A n cp cs) (hg : W.grownBy W' row) (hr : ∀ r, row = some r → B ≤ r ∧ ∃ o : Obj, W.heap[r]? = some o ∧ o.isCells = false) :
    OwnR W' base e z A n cp cs := by
  refine ⟨h.1, h.2.imp_right ?_⟩
  rintro ⟨g, cap, cur, hv, h1, h2, h3⟩
  exact ⟨g, cap, cur, hv, h1, grown_cells hg hr h2 (.inr rfl), h3⟩
/-- what holds ahead of each round: the known blocks (one of them holds the list that grows), that list, the open calls -/
def CallI (W0 : World) (S : Nat → Prop) (bks : Option Addr → Nat → Nat → List Bk) (eL : TypeId) (zL : Nat) (csL : List Nat → List Value) (base0 : Nat) (tO : TypeId) (Ac : Option Addr) (n cpc : Nat) (opn : List Nat → List OneM) (pre : List Nat) (W : World) : Prop :=
  ∃ A c, MemOk W0 S (bks A pre.length c) [] W.heap.size W ∧ OwnR W W0.heap.size eL zL A pre.length c (csL pre) ∧ OwnR W base0 tO 13 Ac n cpc (onesV (opn pre))
section
variable {W0 : World} {S : Nat → Prop} {bks : Option Addr → Nat → Nat → List Bk} {eL : TypeId} {zL : Nat} {csL : List Nat → List Value} {base0 : Nat} {tO : TypeId} {Ac : Option Addr} {n cpc : Nat} {opn : List Nat → List OneM}
theorem CallI.own {B : Nat} (hB : W0.heap.size ≤ B) : OwnFrom B (CallI W0 S bks eL zL csL base0 tO Ac n cpc opn) := by
  rintro s W W' row ⟨A, c, h1, h2, h3⟩ hg hr
  exact ⟨A, c, memOk_grown hB h1 hg hr, ownR_grown h2 hg hr, ownR_grown h3 hg hr⟩
theorem CallI.same {pre : List Nat} {W W' : World} (h : CallI W0 S bks eL zL csL base0 tO Ac n cpc opn pre W) (hk : Kept (fun _ => False) W W') : CallI W0 S bks eL zL csL base0 tO Ac n cpc opn pre W' := by
  obtain ⟨A, c, h1, h2, h3⟩ := h
  exact ⟨A, c, ⟨rfl, fun b hb => (h1.blk b hb).kept hk (fun h => h), h1.own, h1.nd, h1.kept.trans hk (fun _ _ h => h.elim), fun _ hx => by cases hx⟩, h2.kept hk (fun _ _ h => h), h3.kept hk (fun _ _ h => h)⟩
end
/-- what the calls are: their cells -/
theorem arr_own {W : World} {base0 : Nat} {tO : TypeId} {A : Option Addr} {n cp : Nat} {l : List OneM} (h : OwnR W base0 tO 13 A n cp (onesV l)) {j : Nat} {o : OneM} (ho : l[j]? = some o) :
    ∃ g, A = some ⟨g, 0, none⟩ ∧ g < W.heap.size ∧ base0 ≤ g ∧ ∀ (i : Nat) (v : Value), o.cells[i]? = some v → W.cell? ⟨g, 0 + j * 13 + i, none⟩ = some v := by
  obtain ⟨g, hg, hb, hlt, _⟩ := h.cell (j := j * 13 + 0) (onesV_get ho (by omega))
  refine ⟨g, hg, hlt, hb, fun i v hv => ?_⟩
  obtain ⟨g', hg', _, _, hc⟩ := h.cell (j := j * 13 + i) ((onesV_get ho (by have h5 := (List.getElem?_eq_some_iff.1 hv).1; exact h5)).trans hv)
  rw [hg] at hg'
  cases hg'
  rw [show 0 + j * 13 + i = j * 13 + i by omega]
  exact hc
/-- the calls of which is told, with the time at which they were sent now -/
def sentL (now : Int) (pre : List Nat) (l : List OneM) : List OneM := l.mapIdx (fun i o => if i ∈ pre then { o with sent := now } else o)
theorem sentL_len (now : Int) (pre : List Nat) (l : List OneM) : (sentL now pre l).length = l.length := by simp [sentL]
theorem sentL_nil (now : Int) (l : List OneM) : sentL now [] l = l := by
  apply List.ext_getElem?
  intro i
  simp [sentL]
theorem sentL_get {now : Int} {pre : List Nat} {l : List OneM} {j : Nat} {o : OneM} (h : l[j]? = some o) (hj : j ∉ pre) : (sentL now pre l)[j]? = some o := by
  simp [sentL, h, hj]
theorem sentL_snoc {now : Int} {pre : List Nat} {l : List OneM} {j : Nat} {o : OneM} (h : l[j]? = some o) (hj : j ∉ pre) : sentL now (pre ++ [j]) l = (sentL now pre l).set j { o with sent := now } := by
  apply List.ext_getElem?
  intro i
  by_cases e : i = j
  · subst e
    have hlt : i < (sentL now pre l).length := by rw [sentL_len]; exact (List.getElem?_eq_some_iff.1 h).1
    rw [List.getElem?_set_self hlt]
    simp [sentL, h]
  · rw [List.getElem?_set_ne (Ne.symm e)]
    simp [sentL, e]
/-- whom the calls told of were asked of, as ints -/
def toIs (l : List OneM) (pre : List Nat) : List Int := pre.map (fun i => match l[i]? with | some o => o.to | none => 0)
def i64s (l : List Int) : List Value := l.map (Value.int .i64)
theorem i64s_len (l : List Int) : (i64s l).length = l.length := by simp [i64s]
theorem toIs_snoc {l : List OneM} {pre : List Nat} {j : Nat} {o : OneM} (h : l[j]? = some o) : i64s (toIs l pre) ++ [.int .i64 o.to] = i64s (toIs l (pre ++ [j])) := by
  simp [toIs, i64s, h]
def sortI (l : List Int) : List Int := l.mergeSort (fun x y => decide (x ≤ y))
theorem sortI_perm (l : List Int) : (sortI l).Perm l := List.mergeSort_perm _ _
theorem sortI_len (l : List Int) : (sortI l).length = l.length := (sortI_perm l).length_eq
theorem sortI_pair (l : List Int) : (sortI l).Pairwise (fun x y => x ≤ y) := by
  have := List.pairwise_mergeSort (le := fun x y : Int => decide (x ≤ y)) (fun a b c h1 h2 => by simp at *; omega) (fun a b => by simp; omega) l
  exact this.imp (fun h => by simpa using h)
section
variable {P : Program}
theorem run_slFrom (w : World) (t e z : TypeId) (g n cp k : Nat) (ht : P.underlying t = some (.slice e)) (hs : (P.info? e).map (·.size) = some z) (hk : k ≤ n) (hc : k < cp) :
    (Instr.sliceAt t (.slice (some ⟨g, 0, none⟩) n cp) (some (.int .i64 (k : Int))) none none).run P w = .ok (.slice (some ⟨g, k * z, none⟩) (n - k) (cp - k)) w := by
  obtain ⟨inf, hi1, hi2⟩ := Option.map_eq_some_iff.1 hs
  have e1 : (⟨g, 0, none⟩ : Addr).add (k * z) = ⟨g, k * z, none⟩ := by rw [add_norm, Nat.zero_add]
  have h3 : ¬ cp = k := by omega
  simp [Instr.sliceAt, Instr.slice, Instr.sliceBounds, Instr.sliceBound, asIntOf, run_underlying ht, hk, sizeOf, typeInfo, hi1, hi2, h3, e1]
theorem run_slTo (w : World) (t e z : TypeId) (g n cp k : Nat) (ht : P.underlying t = some (.slice e)) (hs : (P.info? e).map (·.size) = some z) (hk : k ≤ cp) :
    (Instr.sliceAt t (.slice (some ⟨g, 0, none⟩) n cp) none (some (.int .i64 (k : Int))) none).run P w = .ok (.slice (some ⟨g, 0, none⟩) k cp) w := by
  obtain ⟨inf, hi1, hi2⟩ := Option.map_eq_some_iff.1 hs
  have e1 : (⟨g, 0, none⟩ : Addr).add 0 = ⟨g, 0, none⟩ := add_norm g 0 0
  simp [Instr.sliceAt, Instr.slice, Instr.sliceBounds, Instr.sliceBound, asIntOf, run_underlying ht, hk, sizeOf, typeInfo, hi1, e1]
theorem run_slLH (w : World) (t e z : TypeId) (g n cp l h : Nat) (ht : P.underlying t = some (.slice e)) (hs : (P.info? e).map (·.size) = some z) (hl : l ≤ h) (hh : h ≤ cp) (hc : l < cp) :
    (Instr.sliceAt t (.slice (some ⟨g, 0, none⟩) n cp) (some (.int .i64 (l : Int))) (some (.int .i64 (h : Int))) none).run P w = .ok (.slice (some ⟨g, l * z, none⟩) (h - l) (cp - l)) w := by
  obtain ⟨inf, hi1, hi2⟩ := Option.map_eq_some_iff.1 hs
  have e1 : (⟨g, 0, none⟩ : Addr).add (l * z) = ⟨g, l * z, none⟩ := by rw [add_norm, Nat.zero_add]
  have h3 : ¬ cp = l := by omega
  simp [Instr.sliceAt, Instr.slice, Instr.sliceBounds, Instr.sliceBound, asIntOf, run_underlying ht, hl, hh, sizeOf, typeInfo, hi1, hi2, h3, e1]
theorem run_slLHM (w : World) (t e z : TypeId) (g n cp l h m : Nat) (ht : P.underlying t = some (.slice e)) (hs : (P.info? e).map (·.size) = some z) (hl : l ≤ h) (hh : h ≤ m) (hm : m ≤ cp) (hc : l < m) :
    (Instr.sliceAt t (.slice (some ⟨g, 0, none⟩) n cp) (some (.int .i64 (l : Int))) (some (.int .i64 (h : Int))) (some (.int .i64 (m : Int)))).run P w = .ok (.slice (some ⟨g, l * z, none⟩) (h - l) (m - l)) w := by
  obtain ⟨inf, hi1, hi2⟩ := Option.map_eq_some_iff.1 hs
  have e1 : (⟨g, 0, none⟩ : Addr).add (l * z) = ⟨g, l * z, none⟩ := by rw [add_norm, Nat.zero_add]
  have h3 : ¬ m = l := by omega
  simp [Instr.sliceAt, Instr.slice, Instr.sliceBounds, Instr.sliceBound, asIntOf, run_underlying ht, hl, hh, hm, sizeOf, typeInfo, hi1, hi2, h3, e1]
/-- clear of the elements from k on -/
theorem run_clearR (w : World) (t e ty : TypeId) (z : Nat) (zv : Value) (g k m cap : Nat) (tt : TypeId) (cs : List Value) (b : Nat) (ht : P.underlying t = some (.slice e)) (hi : (P.info? e).map (fun i => (i.zero, i.size, i.bytes)) = some (some zv, z, b))
    (hz : zv.cells.size = z) (hz0 : 0 < z) (hone : zv.cells.toList.all Value.oneCell' = true) (hB : Blk w g tt cs) (hm : 1 ≤ m) (hl : k * z + m * z ≤ cs.length) :
    ∃ ds w', (Builtin.clear_ #[t] ty #[.slice (some ⟨g, k * z, none⟩) m cap]).run P w = .ok (.tuple #[]) w' ∧ Blk w' g tt (cs.take (k * z) ++ ds) ∧ (cs.take (k * z) ++ ds).length = cs.length ∧ Kept (fun x => x = g) w w' := by
  obtain ⟨inf, hi1, hi2⟩ := Option.map_eq_some_iff.1 hi
  simp only [Prod.mk.injEq] at hi2
  obtain ⟨hzv, hs, _⟩ := hi2
  have hlen : (Builtin.zeroCells zv.cells m).toList.length = m * z := by simp [Builtin.zeroCells, hz, Nat.mul_comm]
  have hst := run_storeCells_at P g (k * z) tt (Builtin.zeroCells zv.cells m).toList 0 cs.toArray w hB (by simp only [Nat.add_zero]; rw [hlen]; simpa using hl) (fun u hu => by
    simp only [Builtin.zeroCells, Array.toList_map, List.mem_map] at hu
    obtain ⟨i, hi, rfl⟩ := hu
    have h1 : i % zv.cells.size < zv.cells.size := Nat.mod_lt _ (by omega)
    rw [getElem!_pos zv.cells _ h1]
    exact List.all_eq_true.1 hone _ (by simp))
  simp only [Nat.add_zero] at hst
  rw [hlen] at hst
  simp only [List.append_assoc] at hst
  refine ⟨(Builtin.zeroCells zv.cells m).toList ++ cs.drop (k * z + m * z), w.setRow g (cs.take (k * z) ++ ((Builtin.zeroCells zv.cells m).toList ++ cs.drop (k * z + m * z))).toArray, ?_, setRow_blk hB _, ?_, setRow_kept w g _⟩
  · obtain ⟨m', rfl⟩ : ∃ m', m = m' + 1 := ⟨m - 1, by omega⟩
    simp [Builtin.clear_, run_underlying ht, zeroValue, typeInfo, hi1, hzv, hst, Result.andThen]
  · rw [List.length_append, List.length_append, hlen, List.length_take, List.length_drop]
    omega
end
section
variable {D : List Deferred} {P : Program} {n : Nat} {w0 : World} {S : Nat → Prop} {body : Code} {Q : Exit → Act → World → Prop}
/-- a store by a law, with a fact of the world behind it -/
theorem holds_opSU {p : List Nat} {i : Nat} {l : List Nat} {k : List KI} {st : St} {x : Sem Unit} {w : World} {S' : Nat → Prop} (X : World → Prop)
    (hd : dstAt (opsOf (getCode body p)) st.sl i = some none) (hx : semAt (opsOf (getCode body p)) st.sl i = some (asU x))
    (hr : ∀ wx, MemOk w0 S st.bk st.wn st.sz wx → ∃ w', x.run P wx = .ok () w' ∧ X w' ∧ MemOk w S' st.bk [] w'.heap.size w')
    (hh : ∀ W, X W → MemOk w S' st.bk [] W.heap.size W → Holds D P body n W (Turned st.bk) Q (.ops p l :: k) ⟨st.sl, st.bk, [], W.heap.size⟩) : Holds D P body n w0 S Q (.ops p (i :: l) :: k) st := by
  intro a w1 hf hm
  simp only [sem]
  rw [wpOps_cons]
  unfold dstAt at hd
  unfold semAt at hx
  split at hd
  · rename_i o ho
    simp only [ho, Option.some.injEq] at hx
    split at hd
    · rename_i hg
      split at hd
      · rename_i hk
        simp only [Option.some.injEq] at hd
        have hw : Region.wanted o (yielded (opsOf (getCode body p)) a.tmps) = true := by simp [Region.wanted, hg]
        simp only [wpOp, ho, if_pos hw]
        refine .inl ?_
        obtain ⟨w', h2, h3, h4⟩ := hr w1 hm
        have h5 : (execOp a.eval o).run P w1 = .ok .skip w' := by
          rw [hf.rho hk, hx]
          simp only [asU, Sem.run_bind, h2, Result.andThen_ok, Sem.run_pure]
        simp only [Oper.wp, h5, Oper.upon_skip]
        rw [hd]
        exact hh w' h3 h4 _ _ hf h4.again
      · cases hd
    · cases hd
  · cases hd
/-- the last call of a region that draws, with a fact of the world behind it -/
theorem holds_callAnyU {p : List Nat} {i f0 : Nat} {ls ls' : Array Bool} {k : List KI} {st : St} {f : FuncId} {args : List Value} {dst : Option Nat} {ob : List Prop} {w : World} {S' : Nat → Prop} {Y : Type} (v : Y → Value) (bk' : Y → List Bk) (X : Y → World → Prop) (sl : Y → List (Nat × Value))
    (hr : Region.ready .any (opsOf (getCode body p)) ls = [i]) (hl : ls.setIfInBounds i true = ls') (h : callAt P (opsOf (getCode body p)) st.sl i = some (f, args, dst, ob)) (ho : All ob) (hp : ∀ y, putS n st.sl dst (v y) = some (sl y))
    (hc : ∀ wx, MemOk w0 S st.bk st.wn st.sz wx → Calls P f args.toArray wx (fun e w' => ∃ y, e = .returned (v y) ∧ X y w' ∧ MemOk w S' (bk' y) [] w'.heap.size w'))
    (hh : ∀ y W, X y W → MemOk w S' (bk' y) [] W.heap.size W → Holds D P body n W (Turned (bk' y)) Q (.any p f0 ls' :: k) ⟨sl y, bk' y, [], W.heap.size⟩) :
    Holds D P body n w0 S Q (.any p (f0 + 1) ls :: k) st := by
  subst hl
  intro a wx hf hm
  simp only [sem]
  refine ⟨fun h => by rw [hr] at h; (cases h), fun j hj => ?_⟩
  rw [hr, List.mem_singleton] at hj
  subst hj
  refine callAt_wpOp h ho hf ((hc wx hm).mono fun e w' he => ?_)
  obtain ⟨y, h1, h2, h3⟩ := he
  exact ⟨v y, h1, hh y w' h2 h3 _ _ (hf.put (hp y)) h3.again⟩
theorem edge_callU {p : List Nat} {f0 i : Nat} {k : List KI} {ls ls' : Array Bool} {st : St} {f : FuncId} {args : List Value} {dst : Option Nat} {ob : List Prop} {w : World} {S' : Nat → Prop} (v : Value) (ks : List Nat) (X : World → Prop) {sl sl' : List (Nat × Value)}
    (hl : ls.setIfInBounds i true = ls') (h : callAt P (opsOf (getCode body p)) st.sl i = some (f, args, dst, ob)) (ho : All ob) (hp : putS n st.sl dst v = some sl) (hk : keepS sl ks = sl')
    (hc : ∀ wx, MemOk w0 S st.bk st.wn st.sz wx → Calls P f args.toArray wx (fun e w' => e = .returned v ∧ X w' ∧ MemOk w S' st.bk [] w'.heap.size w'))
    (hh : ∀ W, X W → MemOk w S' st.bk [] W.heap.size W → Holds D P body n W (Turned st.bk) Q (.any p f0 ls' :: k) ⟨sl', st.bk, [], W.heap.size⟩) : Edge D P body n w0 S Q p f0 k ls st i := by
  subst hl hk
  intro a w1 hf hm
  refine callAt_wpOp h ho hf ((hc w1 hm).mono fun e w' he => ?_)
  obtain ⟨h2, h3, h4⟩ := he
  refine ⟨v, h2, ?_⟩
  have h6 := hf.put hp
  have h7 := hh w' h3 h4 _ _ ⟨h6.size, h6.df, fun i v hi => h6.val i v (getS_keepS ks i v hi)⟩ h4.again
  simpa only [sem] using h7
end
theorem i64s_get {l : List Int} {r : List Value} {i : Nat} {v : Int} (h : l[i]? = some v) : (i64s l ++ r)[i]? = some (.int .i64 v) := by
  have hlt := (List.getElem?_eq_some_iff.1 h).1
  rw [List.getElem?_append_left (by rw [i64s_len]; exact hlt)]
  simp [i64s, h]
end Go.Proofs.Ytmeddeaphmpjcaa
