/- The executor: cells at places that hang on a value: loads, stores, one or many; in a stretch and in a drawn region. Plain lemmas; no program. -/
import Derived.Test.YtmeddeaphmpjcaaEngY
namespace Go.Proofs.Ytmeddeaphmpjcaa
open Go.RowKit

def asU (x : Sem Unit) : Sem Next := x >>= fun _ => pure .skip
section
variable {D : List Deferred} {P : Program} {n : Nat} {w0 : World} {S : Nat → Prop}
theorem run_storeG (w : World) (t : TypeId) (g o : Nat) (tt : TypeId) (cs : List Value) (v : Value) (hs : (P.info? t).map (·.size) = some v.cells.size) (hB : Blk w g tt cs) (hle : o + v.cells.size ≤ cs.length) (hone : ∀ u ∈ v.cells.toList, u.oneCell' = true) :
    (Instr.storeAt t (.pointer (some ⟨g, o, none⟩)) v).run P w = .ok () (w.setRow g (cs.take o ++ v.cells.toList ++ cs.drop (o + v.cells.size)).toArray) := by
  obtain ⟨inf, hi, hz⟩ := Option.map_eq_some_iff.1 hs
  have h1 := run_storeCells_at P g o tt v.cells.toList 0 cs.toArray w hB (by simpa using hle) hone
  simp only [Nat.add_zero, Array.length_toList] at h1
  simp only [Instr.storeAt, Instr.sureAddr, storeVar]
  simp [sizeOf, typeInfo, hi, hz, h1]
theorem run_loadOne (w : World) (t : TypeId) (k : IntKind) (g o : Nat) (tt : TypeId) (cs : List Value) (v : Value) (hu : P.underlying t = some (.int k)) (hB : Blk w g tt cs) (hv : cs[o]? = some v) :
    (Instr.loadAt t (.pointer (some ⟨g, o, none⟩))).run P w = .ok v w := by
  have hc := (hB.cell o).trans hv
  simp [Instr.loadAt, Instr.sureAddr, loadVar, isAgg, run_underlying hu, hc]
theorem run_loadMany (w : World) (t e : TypeId) (m g o : Nat) (tt : TypeId) (cs vs : List Value) (hu : P.underlying t = some (.array m e)) (hs : (P.info? t).map (·.size) = some vs.length) (hB : Blk w g tt cs) (hv : ∀ j v, vs[j]? = some v → cs[o + j]? = some v) :
    (Instr.loadAt t (.pointer (some ⟨g, o, none⟩))).run P w = .ok (.agg vs.toArray) w := by
  obtain ⟨inf, hi, hz⟩ := Option.map_eq_some_iff.1 hs
  have h1 := run_loadCells_list (P := P) (w := w) ⟨g, o, none⟩ vs (fun j v hj => by
    rw [add_norm]
    exact (hB.cell _).trans (hv j v hj))
  simp [Instr.loadAt, Instr.sureAddr, loadVar, isAgg, run_underlying hu, sizeOf, typeInfo, hi, hz, h1]
/-- a store, by a law -/
theorem cert_opS {ops : Array Oper} {sl0 : List (Nat × Value)} {vs : List (Option Value)} {C : Nat → Value → World → Prop} {ms : List (List Bk)} {wn : List Wn} {z0 : Nat} {stg : List (Option Nat)} {J : Nat} {Q : Exit → Act → World → Prop} {bk0 : List Bk} {i : Nat}
    (h : ∀ j a w, j ≤ J → (∀ s, stgOf stg i = some s → j = s ∧ s < J) → FrOk D n (slG ops vs sl0 (needsOf ops i)) a → KnowsG ops (PvG vs C) (needsOf ops i) a w → MG w0 S ms wn z0 j w →
      ∃ sl x w', FrOk D n sl a ∧ dstAt ops sl i = some (dstOf ops i) ∧ semAt ops sl i = some (asU x) ∧ x.run P w = .ok () w' ∧ PvG vs C i undef w' ∧ Kept (Turned bk0) w w' ∧ MG w0 S ms wn z0 (nextG stg i j) w') :
    CertG (wpOp P ops Q) D n ops sl0 stg J (MG w0 S ms wn z0) (Turned bk0) (PvG vs C) i := by
  intro j a w K hj hjs _ hf hk hm hK
  obtain ⟨sl, x, w', hsl, hd, hx, hr, hp, hkk, hm'⟩ := h j a w hj hjs (knows_slG hf _ hk) hk hm
  unfold dstAt at hd
  unfold semAt at hx
  split at hd
  · rename_i o ho
    simp only [ho, Option.some.injEq] at hx
    split at hd
    · rename_i hg
      split at hd
      · rename_i hkn
        simp only [Option.some.injEq] at hd
        have hw : Region.wanted o (yielded ops a.tmps) = true := by simp [Region.wanted, hg]
        simp only [wpOp, ho, if_pos hw]
        refine .inl ?_
        have h5 : (execOp a.eval o).run P w = .ok .skip w' := by
          rw [hsl.rho hkn, hx]
          simp only [asU, Sem.run_bind, hr, Result.andThen_ok, Sem.run_pure]
        simp only [Oper.wp, h5, Oper.upon_skip]
        rw [hd]
        exact hK undef w' hp hkk hm'
      · cases hd
    · cases hd
  · cases hd
/-- a store in a stretch, by a law -/
theorem holds_opS {body : Code} {Q : Exit → Act → World → Prop} {p : List Nat} {i : Nat} {l : List Nat} {k : List KI} {st : St} {x : Sem Unit} (bk : List Bk) {sl : List (Nat × Value)}
    (hd : dstAt (opsOf (getCode body p)) st.sl i = some none) (hx : semAt (opsOf (getCode body p)) st.sl i = some (asU x)) (hsl : st.sl = sl)
    (hr : ∀ w, MemOk w0 S st.bk st.wn st.sz w → ∃ w', x.run P w = .ok () w' ∧ st.sz ≤ w'.heap.size ∧ MemOk w0 S bk st.wn w'.heap.size w')
    (hh : ∀ sz, st.sz ≤ sz → Holds D P body n w0 S Q (.ops p l :: k) ⟨sl, bk, st.wn, sz⟩) : Holds D P body n w0 S Q (.ops p (i :: l) :: k) st := by
  intro a w hf hm
  subst hsl
  simp only [sem]
  rw [wpOps_cons]
  unfold dstAt at hd
  unfold semAt at hx
  split at hd
  · rename_i o ho
    simp only [ho, Option.some.injEq] at hx
    split at hd
    · rename_i hg
      split at hd
      · rename_i hk
        simp only [Option.some.injEq] at hd
        have hw : Region.wanted o (yielded (opsOf (getCode body p)) a.tmps) = true := by simp [Region.wanted, hg]
        simp only [wpOp, ho, if_pos hw]
        refine .inl ?_
        obtain ⟨w', h2, h3, h4⟩ := hr w hm
        have h5 : (execOp a.eval o).run P w = .ok .skip w' := by
          rw [hf.rho hk, hx]
          simp only [asU, Sem.run_bind, h2, Result.andThen_ok, Sem.run_pure]
        simp only [Oper.wp, h5, Oper.upon_skip]
        rw [hd]
        exact hh _ h3 _ _ hf h4
      · cases hd
    · cases hd
  · cases hd
/- bytes of a text, in a block with the run-time's mark behind its last cell -/
def FB (w : World) (g : Nat) (t : TypeId) (L : List Int) : Prop := ∃ r : List Value, w.heap[g]? = some (.cells (intsV L ++ r).toArray t ((intsV L ++ r).length, (intsV L ++ r).length + 1))
theorem FB.lt {w : World} {g : Nat} {t : TypeId} {L : List Int} (h : FB w g t L) : g < w.heap.size := by
  obtain ⟨r, h⟩ := h
  exact (Array.getElem?_eq_some_iff.1 h).1
theorem FB.kept {w w' : World} {g : Nat} {t : TypeId} {L : List Int} {T : Nat → Prop} (h : FB w g t L) (hk : Kept T w w') (hT : ¬ T g) : FB w' g t L := by
  have hl := h.lt
  obtain ⟨r, h⟩ := h
  exact ⟨r, (hk.block g hl hT).trans h⟩
theorem FB.cell {w : World} {g : Nat} {t : TypeId} {L : List Int} (h : FB w g t L) {i : Nat} {v : Int} (hv : L[i]? = some v) : w.cell? ⟨g, i, none⟩ = some (.int .u8 v) := by
  obtain ⟨r, h⟩ := h
  have hi := (List.getElem?_eq_some_iff.1 hv).1
  have e : (intsV L ++ r)[i]? = some (.int .u8 v) := by
    rw [List.getElem?_append_left (by simpa [intsV] using hi)]
    simp [intsV, hv]
  simp only [World.cell?, h]
  simpa using e
theorem run_newBytes (w : World) (src dst e : TypeId) (s : ByteArray) (hs : P.underlying src = some .string) (hd : P.underlying dst = some (.slice e)) (he : P.underlying e = some (.int .u8)) :
    ∃ c w', (convert src dst (.string s)).run P w = .ok (.slice (some ⟨w.heap.size, 0, none⟩) s.size c) w' ∧ FB w' w.heap.size e (intsOf s) ∧ Kept (fun _ => False) w w' := by
  refine ⟨_, _, run_bytes_of_string w src dst e s hs hd he, ⟨List.replicate (grownCap w s.size 0 e - s.size) (.int .u8 0), ?_⟩, ((Kept.refl _ w).drew).alloc _⟩
  have e1 : (intsV (intsOf s) ++ List.replicate (grownCap w s.size 0 e - s.size) (Value.int .u8 0)).toArray = bytesRow s (grownCap w s.size 0 e) := by
    unfold bytesRow
    apply Array.toList_inj.1
    simp [intsV, intsOf]
  have e2 : (intsV (intsOf s) ++ List.replicate (grownCap w s.size 0 e - s.size) (Value.int .u8 0)).length = (bytesRow s (grownCap w s.size 0 e)).size := by
    rw [← e1]
    simp
  rw [e2, e1]
  show (w.heap.push _)[w.heap.size]? = _
  simp
theorem run_store1 (w : World) (t : TypeId) (g o : Nat) (tt : TypeId) (L : List Int) (v : Int) (hs : (P.info? t).map (·.size) = some 1) (hB : FB w g tt L) (ho : o < L.length) :
    ∃ w', (Instr.storeAt t (.pointer (some ⟨g, o, none⟩)) (.int .u8 v)).run P w = .ok () w' ∧ FB w' g tt (L.set o v) ∧ Kept (fun x => x = g) w w' ∧ w'.heap.size = w.heap.size := by
  obtain ⟨inf, hi, hz⟩ := Option.map_eq_some_iff.1 hs
  have hc := hB.cell (List.getElem?_eq_getElem ho)
  have hB' := hB
  obtain ⟨r, hB⟩ := hB
  have hfz : w.frozen? ⟨g, o, none⟩ = false := by
    simp only [World.frozen?, hB]
    have h2 : ¬ (intsV L ++ r).length ≤ o := by
      simp [intsV]
      omega
    rw [decide_eq_false h2]
    rfl
  refine ⟨w.setCell ⟨g, o, none⟩ (.int .u8 v), ?_, ⟨r, ?_⟩, ?_, by simp⟩
  · simp only [Instr.storeAt, Instr.sureAddr, storeVar]
    have h1 : (Value.int .u8 v).cells = #[.int .u8 v] := rfl
    have h2 : (store ⟨g, o, none⟩ (.int .u8 v)).run P w = .ok () (w.setCell ⟨g, o, none⟩ (.int .u8 v)) := by
      rw [run_store P w _ _ _ rfl, hc, hfz]
      rfl
    simp [sizeOf, typeInfo, hi, hz, h1, storeCells, add_norm, h2]
  · have e : (intsV (L.set o v) ++ r) = (intsV L ++ r).set o (.int .u8 v) := by
      rw [List.set_append_left _ _ (by simpa [intsV] using ho)]
      simp [intsV, List.map_set]
    rw [e]
    simp [World.setCell, Array.getElem?_modify, hB]
  · exact ⟨rfl, rfl, rfl, by simp, fun k _ hn => Below.heap_setCell w _ _ k (fun e => hn e)⟩
theorem run_bytesFB (w : World) (src dst e : TypeId) (g L cap : Nat) (t : TypeId) (l : List Int) (hs : P.underlying src = some (.slice e)) (he : P.underlying e = some (.int .u8)) (hd : P.underlying dst = some .string)
    (hB : FB w g t l) (hL : l.length = L) (hb : Byts l) : (convert src dst (.slice (some ⟨g, 0, none⟩) L cap)).run P w = .ok (.string (bytesI l)) w := by
  subst hL
  have hl : (u8s l).length = l.length := by simp [u8s]
  have h1 := run_convert_bytes_back (P := P) w src dst e ⟨g, 0, none⟩ cap (u8s l) hs he hd (fun j hj => by
    have : (⟨g, 0, none⟩ : Addr).add j = ⟨g, j, none⟩ := by rw [add_norm, Nat.zero_add]
    rw [this]
    have hj' : j < l.length := by omega
    rw [hB.cell (List.getElem?_eq_getElem hj')]
    have h2 : ((u8s l)[j].toNat : Int) = l[j] := by
      simp only [u8s, List.getElem_map]
      exact toNat_u8 (hb _ (List.getElem_mem hj'))
    rw [h2])
  rw [hl] at h1
  exact h1
/- the world itself as a ground: what is known of blocks that are not among the known ones -/
theorem MemOk.far {w : World} {bk : List Bk} {sz g : Nat} {wx w' : World} (h : MemOk w S bk [] sz wx) (hk : Kept (fun x => x = g) wx w') (hg : ∀ b ∈ bk, b.g ≠ g) (hw : w.heap.size ≤ g) (hsz : w'.heap.size = wx.heap.size) : MemOk w S bk [] sz w' :=
  ⟨hsz.trans h.size, fun b hb => (h.blk b hb).kept hk (hg b hb), h.own, h.nd, h.kept.trans hk (fun k hk' e => absurd hk' (by omega)), fun x hx => by cases hx⟩
theorem MemOk.back {w W W1 : World} {bk : List Bk} {sz : Nat} (h : MemOk w S bk [] W.heap.size W) (h1 : MemOk W (Turned bk) bk [] sz W1) : MemOk w S bk [] sz W1 := by
  have h2 := h1.size
  subst h2
  exact h.onto h1 rfl
theorem kept_back {w W W1 : World} {bk : List Bk} (h : MemOk w (fun _ => False) bk [] W.heap.size W) (h1 : Kept (Turned bk) W W1) : Kept (fun _ => False) w W1 :=
  h.kept.trans h1 (fun k hk ⟨b, hb, hr, he⟩ => by
    rcases h.own b hb hr with h2 | h2
    · exact h2
    · omega)
theorem holds_opW {body : Code} {Q : Exit → Act → World → Prop} {p : List Nat} {i : Nat} {l : List Nat} {k : List KI} {st : St} {dst : Option Nat} {x : Sem Value} {w : World} {S' : Nat → Prop} (v : Nat → Value) (X : Nat → World → Prop) (sl : Nat → List (Nat × Value))
    (hd : dstAt (opsOf (getCode body p)) st.sl i = some dst) (hx : semAt (opsOf (getCode body p)) st.sl i = some (asV x)) (hp : ∀ c, putS n st.sl dst (v c) = some (sl c))
    (hr : ∀ wx, MemOk w0 S st.bk st.wn st.sz wx → ∃ c w', x.run P wx = .ok (v c) w' ∧ X c w' ∧ MemOk w S' st.bk [] w'.heap.size w')
    (hh : ∀ c W, X c W → MemOk w S' st.bk [] W.heap.size W → Holds D P body n W (Turned st.bk) Q (.ops p l :: k) ⟨sl c, st.bk, [], W.heap.size⟩) : Holds D P body n w0 S Q (.ops p (i :: l) :: k) st := by
  intro a wx hf hm
  simp only [sem]
  rw [wpOps_cons]
  unfold dstAt at hd
  unfold semAt at hx
  split at hd
  · rename_i o ho
    simp only [ho, Option.some.injEq] at hx
    split at hd
    · rename_i hg
      split at hd
      · rename_i hk
        simp only [Option.some.injEq] at hd
        have hw : Region.wanted o (yielded (opsOf (getCode body p)) a.tmps) = true := by simp [Region.wanted, hg]
        simp only [wpOp, ho, if_pos hw]
        refine .inl ?_
        obtain ⟨c, w', h2, h3, h4⟩ := hr wx hm
        have h5 : (execOp a.eval o).run P wx = .ok (.value (v c)) w' := by
          rw [hf.rho hk, hx]
          simp only [asV, Sem.run_bind, h2, Result.andThen_ok, Sem.run_pure]
        simp only [Oper.wp, h5, Oper.upon_value]
        rw [hd]
        exact hh c w' h3 h4 _ _ (hf.put (hp c)) h4.again
      · cases hd
    · cases hd
  · cases hd
theorem holds_anyW {body : Code} {Q : Exit → Act → World → Prop} {p : List Nat} {i f0 : Nat} {ls ls' : Array Bool} {k : List KI} {st : St} {x : Sem Unit} {w : World} {S' : Nat → Prop} (X : World → Prop)
    (hrd : Region.ready .any (opsOf (getCode body p)) ls = [i]) (hl : ls.setIfInBounds i true = ls')
    (hd : dstAt (opsOf (getCode body p)) st.sl i = some none) (hx : semAt (opsOf (getCode body p)) st.sl i = some (asU x))
    (hr : ∀ wx, MemOk w0 S st.bk st.wn st.sz wx → ∃ w', x.run P wx = .ok () w' ∧ X w' ∧ MemOk w S' st.bk [] w'.heap.size w')
    (hh : ∀ W, X W → MemOk w S' st.bk [] W.heap.size W → Holds D P body n W (Turned st.bk) Q (.any p f0 ls' :: k) ⟨st.sl, st.bk, [], W.heap.size⟩) : Holds D P body n w0 S Q (.any p (f0 + 1) ls :: k) st := by
  intro a wx hf hm
  subst hl
  simp only [sem]
  refine ⟨fun h => (by rw [hrd] at h; cases h), fun j hj => ?_⟩
  rw [hrd, List.mem_singleton] at hj
  subst hj
  unfold dstAt at hd
  unfold semAt at hx
  split at hd
  · rename_i o ho
    simp only [ho, Option.some.injEq] at hx
    split at hd
    · rename_i hg
      split at hd
      · rename_i hk
        simp only [Option.some.injEq] at hd
        have hw : Region.wanted o (yielded (opsOf (getCode body p)) a.tmps) = true := by simp [Region.wanted, hg]
        simp only [wpOp, ho, if_pos hw]
        refine .inl ?_
        obtain ⟨w', h2, h3, h4⟩ := hr wx hm
        have h5 : (execOp a.eval o).run P wx = .ok .skip w' := by
          rw [hf.rho hk, hx]
          simp only [asU, Sem.run_bind, h2, Result.andThen_ok, Sem.run_pure]
        simp only [Oper.wp, h5, Oper.upon_skip]
        rw [hd]
        have h6 := hh w' h3 h4 _ _ hf h4.again
        simp only [sem] at h6
        exact h6
      · cases hd
    · cases hd
  · cases hd
theorem holds_loopW {body : Code} {Q : Exit → Act → World → Prop} {p : List Nat} {k : List KI} {st : St} {w : World} {S' : Nat → Prop} (I : Nat → St → World → Prop) (m0 : Nat) (hl : isLoop (getCode body p) = true)
    (h0 : ∀ W, MemOk w0 S st.bk st.wn st.sz W → I m0 st W ∧ MemOk w S' st.bk [] st.sz W)
    (round : ∀ m st' W, I m st' W → MemOk w S' st'.bk [] W.heap.size W → ∀ J : Act → World → Prop, (∀ m' st'' a' W', m' < m → I m' st'' W' → FrOk D n st''.sl a' → MemOk w S' st''.bk [] st''.sz W' → J a' W') →
      Holds D P body n W (Turned st'.bk) Q (.code (p ++ [0]) :: .inv J :: k) ⟨st'.sl, st'.bk, [], W.heap.size⟩) :
    Holds D P body n w0 S Q (.code p :: k) st := by
  obtain ⟨c, hc⟩ : ∃ c, getCode body p = .loop c := by
    cases h : getCode body p <;> rw [h] at hl <;> first | exact ⟨_, rfl⟩ | cases hl
  intro a wx hf hm
  simp only [sem, hc]
  obtain ⟨hI0, hm0⟩ := h0 wx hm
  refine wp_loop_ghost (fun m a W => ∃ st', I m st' W ∧ FrOk D n st'.sl a ∧ MemOk w S' st'.bk [] st'.sz W) m0 ⟨st, hI0, hf, hm0⟩ ?_
  rintro m a W ⟨st', hI, hf', hm'⟩
  have hmW : MemOk w S' st'.bk [] W.heap.size W := by rw [hm'.size]; exact hm'
  have h1 := round m st' W hI hmW (fun a' w' => ∃ m', m' < m ∧ ∃ st', I m' st' w' ∧ FrOk D n st'.sl a' ∧ MemOk w S' st'.bk [] st'.sz w') (fun m' st'' a' W' hlt hI' hf'' hm'' => ⟨m', hlt, st'', hI', hf'', hm''⟩) a W hf' hmW.again
  simp only [sem, getCode_append, hc, getCode] at h1
  refine wp_mono h1 fun e a w h2 => ?_
  cases e <;> exact h2
end
end Go.Proofs.Ytmeddeaphmpjcaa
