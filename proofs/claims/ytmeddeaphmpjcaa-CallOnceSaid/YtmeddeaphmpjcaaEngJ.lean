/- The executor: a scope with several labels, with facts of the world. Plain lemmas; no program. -/
import Derived.Test.YtmeddeaphmpjcaaEngZ
import Derived.Scope
namespace Go.Proofs.Ytmeddeaphmpjcaa
open Go.RowKit

def jumpM (J : Nat → Act → World → Prop) (Q : Exit → Act → World → Prop) : Exit → Act → World → Prop
  | .goto l, a, w => J l a w
  | e, a, w => Q e a w
section
variable {P : Program}
theorem wp_scope_many {Q : Exit → Act → World → Prop} {a : Act} {w : World} {c : Code} (rest : Nat → Code) (J : Nat → Nat → Act → World → Prop) (hl : ∀ l m a w, J l m a w → findLabel c l = some (rest l))
    (first : c.wp P (jumpM (fun l a w => ∃ m, J l m a w) Q) a w)
    (pass : ∀ l m a w, J l m a w → (rest l).wp P (jumpM (fun l' a' w' => ∃ m', m' < m ∧ J l' m' a' w') Q) a w) : (Code.scope c).wp P Q a w := by
  intro b k cs
  have go : ∀ m l a w, J l m a w → ∃ e a' w', Q e a' w' ∧ Arrives P (lone (b.at a (.code (rest l) :: .inScope c :: k)) cs w) b k cs e a' w' := by
    intro m
    induction m using Nat.strongRecOn with
    | _ m ih =>
      intro l a w hJ
      obtain ⟨e, a1, w1, hq, har⟩ := pass l m a w hJ b (.inScope c :: k) cs
      cases e with
      | goto l' =>
        obtain ⟨m', hlt, hJ'⟩ := hq
        obtain ⟨e2, a2, w2, hq2, har2⟩ := ih m' hlt l' a1 w1 hJ'
        exact ⟨e2, a2, w2, hq2, .of_steps (har _ (by simp [gotoIn, hl _ _ _ _ hJ'])) har2⟩
      | normal => exact ⟨.normal, a1, w1, hq, Steps.trans har (.one step_inScope)⟩
      | exit id => exact ⟨.exit id, a1, w1, hq, fun k' hk => har k' (by simp [exitTo, hk])⟩
      | ret => exact ⟨_, a1, w1, hq, har⟩
      | panic ch => exact ⟨_, a1, w1, hq, har⟩
      | outgrown => exact ⟨_, a1, w1, hq, har⟩
  obtain ⟨e, a1, w1, hq, har⟩ := first b (.inScope c :: k) cs
  cases e with
  | goto l' =>
    obtain ⟨m, hJ'⟩ := hq
    obtain ⟨e2, a2, w2, hq2, har2⟩ := go m l' a1 w1 hJ'
    exact ⟨e2, a2, w2, hq2, .of_steps (.head step_scope (har _ (by simp [gotoIn, hl _ _ _ _ hJ']))) har2⟩
  | normal => exact ⟨.normal, a1, w1, hq, .head step_scope (Steps.trans har (.one step_inScope))⟩
  | exit id => exact ⟨.exit id, a1, w1, hq, fun k' hk => .head step_scope (har k' (by simp [exitTo, hk]))⟩
  | ret => exact ⟨_, a1, w1, hq, .of_steps (.one step_scope) har⟩
  | panic ch => exact ⟨_, a1, w1, hq, .of_steps (.one step_scope) har⟩
  | outgrown => exact ⟨_, a1, w1, hq, .of_steps (.one step_scope) har⟩
variable {D : List Deferred} {body : Code} {n : Nat} {w0 : World} {S : Nat → Prop} {Q : Exit → Act → World → Prop}
theorem holds_gotoM {p : List Nat} {k : List KI} {st : St} {l : Nat} {J : Nat → Act → World → Prop} (hc : getCode body p = .goto l) (h : ∀ a w, FrOk D n st.sl a → MemOk w0 S st.bk st.wn st.sz w → J l a w) :
    Holds D P body n w0 S (jumpM J Q) (.code p :: k) st := by
  intro a w hf hm
  simp only [sem, hc]
  exact wp_goto (sem_goto (Q := jumpM J Q) (h a w hf hm) k)
theorem holds_retJM {fn : Func} {R : Ending → World → Prop} {body' : Code} {p : List Nat} {k k' : List KI} {st : St} {vs : List Value} {rs : List (Nat × Nat × Nat)} {J : Nat → Act → World → Prop} (hs : List (List MH))
    (hc : getCode body p = .ret) (h : resL P st.wn st.bk st.sl fn.results.toList hs = some (vs, dupR rs)) (hR : ∀ w, MemOk w0 S st.bk st.wn st.sz w → R (.returned (oneOf vs)) w) :
    Holds [] P body n w0 S (jumpM J (sem P body' (bodyPost P fn R) k')) (.code p :: k) st := by
  intro a w hf hm
  simp only [sem, hc]
  refine wp_ret (sem_ret ?_ k)
  show sem P body' (bodyPost P fn R) k' .ret a w
  exact sem_ret ⟨hf.df, _, results_of hf hm h, hR w hm⟩ k'
theorem panicOk_jumpM {J : Nat → Act → World → Prop} (h : PanicOk Q) : PanicOk (jumpM J Q) := fun c a a' w hd hq => h c a a' w hd hq
theorem holds_rest {c : Code} {q : List Nat} {st : St} (h : Holds D P c n w0 S Q [.code q] st) : Holds D P (.seq .skip (getCode c q)) n w0 S Q [.code []] st := by
  intro a w hf hm
  have h1 := h a w hf hm
  have hg : ∀ c : Code, getCode c [] = c := fun c => by cases c <;> rfl
  simp only [sem, hg] at h1 ⊢
  exact wp_seq (wp_skip h1)
/-- a call behind which a fact of the world is known -/
theorem holds_callV {body : Code} {p : List Nat} {i : Nat} {l : List Nat} {k : List KI} {st : St} {f : FuncId} {args : List Value} {dst : Option Nat} {ob : List Prop} {w : World} {S' : Nat → Prop} {Y : Type} (v : Y → Value) (bk' : Y → List Bk) (X : Y → World → Prop) (sl : Y → List (Nat × Value))
    (h : callAt P (opsOf (getCode body p)) st.sl i = some (f, args, dst, ob)) (ho : All ob) (hp : ∀ y, putS n st.sl dst (v y) = some (sl y))
    (hc : ∀ wx, MemOk w0 S st.bk st.wn st.sz wx → Calls P f args.toArray wx (fun e w' => ∃ y, e = .returned (v y) ∧ X y w' ∧ MemOk w S' (bk' y) [] w'.heap.size w'))
    (hh : ∀ y W, X y W → MemOk w S' (bk' y) [] W.heap.size W → Holds D P body n W (Turned (bk' y)) Q (.ops p l :: k) ⟨sl y, bk' y, [], W.heap.size⟩) : Holds D P body n w0 S Q (.ops p (i :: l) :: k) st := by
  intro a wx hf hm
  simp only [sem]
  rw [wpOps_cons]
  refine callAt_wpOp h ho hf ((hc wx hm).mono fun e w' he => ?_)
  obtain ⟨y, h1, h2, h3⟩ := he
  refine ⟨v y, h1, ?_⟩
  exact hh y w' h2 h3 _ _ (hf.put (hp y)) h3.again
/-- the world at hand becomes the ground -/
theorem holds_gnd {k : List KI} {sl : List (Nat × Value)} {bk : List Bk} {sz : Nat} (h : ∀ W, MemOk w0 S bk [] W.heap.size W → Holds D P body n W (Turned bk) Q k ⟨sl, bk, [], W.heap.size⟩) : Holds D P body n w0 S Q k ⟨sl, bk, [], sz⟩ := by
  intro a w hf hm
  have hm' : MemOk w0 S bk [] w.heap.size w := by rw [hm.size]; exact hm
  exact h w hm' a w hf hm'.again
theorem holds_scopeW {p : List Nat} {k : List KI} {st : St} {c : Code} {w : World} {S' : Nat → Prop} (rest : Nat → Code) (hc : getCode body p = .scope c) (I : Nat → Nat → St → World → Prop) (hl : ∀ l m st W, I l m st W → findLabel c l = some (rest l))
    (first : ∀ J : Nat → Act → World → Prop, (∀ l m st' a W, I l m st' W → FrOk D n st'.sl a → MemOk w S' st'.bk [] st'.sz W → J l a W) → Holds D P c n w0 S (jumpM J (sem P body Q k)) [.code []] st)
    (pass : ∀ l m st' W, I l m st' W → MemOk w S' st'.bk [] W.heap.size W → ∀ J : Nat → Act → World → Prop, (∀ l' m' st'' a W', m' < m → I l' m' st'' W' → FrOk D n st''.sl a → MemOk w S' st''.bk [] st''.sz W' → J l' a W') →
      Holds D P (rest l) n W (Turned st'.bk) (jumpM J (sem P body Q k)) [.code []] ⟨st'.sl, st'.bk, [], W.heap.size⟩) :
    Holds D P body n w0 S Q (.code p :: k) st := by
  intro a wx hf hm
  simp only [sem, hc]
  have hg : ∀ c : Code, getCode c [] = c := fun c => by cases c <;> rfl
  refine wp_scope_many rest (fun l m a W => ∃ st', I l m st' W ∧ FrOk D n st'.sl a ∧ MemOk w S' st'.bk [] st'.sz W) (fun l m a W ⟨st', hI, _⟩ => hl l m st' W hI) ?_ ?_
  · have h1 := first (fun l a W => ∃ m, ∃ st', I l m st' W ∧ FrOk D n st'.sl a ∧ MemOk w S' st'.bk [] st'.sz W) (fun l m st' a W hI h2 h3 => ⟨m, st', hI, h2, h3⟩) a wx hf hm
    simp only [sem, hg] at h1
    refine wp_mono h1 fun e a w h2 => ?_
    cases e <;> exact h2
  · rintro l m a W ⟨st', hI, hf', hm'⟩
    have hmW : MemOk w S' st'.bk [] W.heap.size W := by rw [hm'.size]; exact hm'
    have h1 := pass l m st' W hI hmW (fun l' a' w' => ∃ m', m' < m ∧ ∃ st'', I l' m' st'' w' ∧ FrOk D n st''.sl a' ∧ MemOk w S' st''.bk [] st''.sz w') (fun l' m' st'' a' W' hlt hI' h2 h3 => ⟨m', hlt, st'', hI', h2, h3⟩) a W hf' hmW.again
    simp only [sem, hg] at h1
    refine wp_mono h1 fun e a w h2 => ?_
    cases e <;> exact h2
/-- blocks that are written no more -/
def frzB : List Bool → List Bk → List Bk
  | f :: fs, b :: bs => ⟨b.g, b.t, b.rw && f, b.cs⟩ :: frzB fs bs
  | _, _ => []
theorem frzB_mem : ∀ (fs : List Bool) (bs : List Bk) {c : Bk}, c ∈ frzB fs bs → ∃ b ∈ bs, b.g = c.g ∧ b.t = c.t ∧ b.cs = c.cs ∧ (c.rw = true → b.rw = true)
  | [], _, c, h => by simp [frzB] at h
  | _ :: _, [], c, h => by simp [frzB] at h
  | f :: fs, b :: bs, c, h => by
    simp only [frzB, List.mem_cons] at h
    rcases h with rfl | h
    · exact ⟨b, by simp, rfl, rfl, rfl, fun h => by simp at h; exact h.1⟩
    · obtain ⟨b', h1, h2⟩ := frzB_mem fs bs h
      exact ⟨b', List.mem_cons_of_mem _ h1, h2⟩
theorem frzB_g : ∀ (fs : List Bool) (bs : List Bk), ((frzB fs bs).map (·.g)).Sublist (bs.map (·.g))
  | [], bs => by simp [frzB]
  | _ :: _, [] => by simp [frzB]
  | f :: fs, b :: bs => by
    simp only [frzB, List.map_cons]
    exact (frzB_g fs bs).cons_cons _
theorem MemOk.frz {w0 w : World} {S : Nat → Prop} {bk : List Bk} {wn : List Wn} {sz : Nat} (fs : List Bool) (h : MemOk w0 S bk wn sz w) : MemOk w0 S (frzB fs bk) [] sz w :=
  ⟨h.size, fun b hb => by
    obtain ⟨c, hc, h1, h2, h3, _⟩ := frzB_mem fs bk hb
    have := h.blk c hc
    rw [h1, h2, h3] at this
    exact this, fun b hb hr => by
    obtain ⟨c, hc, h1, _, _, h4⟩ := frzB_mem fs bk hb
    have := h.own c hc (h4 hr)
    rw [h1] at this
    exact this, h.nd.sublist (frzB_g fs bk), h.kept, fun x hx => by cases hx⟩
theorem holds_gndF {k : List KI} {sl : List (Nat × Value)} {bk bk' : List Bk} {wn : List Wn} {sz : Nat} (fs : List Bool) (hb : frzB fs bk = bk') (h : ∀ W, MemOk w0 S bk wn sz W → MemOk w0 S bk' [] W.heap.size W → Holds D P body n W (Turned bk') Q k ⟨sl, bk', [], W.heap.size⟩) : Holds D P body n w0 S Q k ⟨sl, bk, wn, sz⟩ := by
  subst hb
  intro a w hf hm
  have h1 := hm.frz fs
  rw [← hm.size] at h1
  exact h w hm h1 a w hf h1.again
/-- values that are laid into a new block -/
def CBlk (K z0 t L : Nat) (l : List Value) : Nat → Value → World → Prop := fun k v w => k = K ∧ ∃ g, z0 ≤ g ∧ v = .slice (some ⟨g, 0, none⟩) L L ∧ Blk w g t l
theorem cblk_stable {K z0 t L : Nat} {l : List Value} {bk : List Bk} (hz : ∀ b ∈ bk, b.g < z0) : ∀ k v w w', CBlk K z0 t L l k v w → Kept (Turned bk) w w' → CBlk K z0 t L l k v w' :=
  fun _ _ _ _ ⟨hk, g, hg, hv, hB⟩ hkk => ⟨hk, g, hg, hv, hB.kept hkk (fun ⟨b, hb, _, he⟩ => by have := hz b hb; omega)⟩
section
variable {ops : Array Oper} {sl0 : List (Nat × Value)} {vs : List (Option Value)} {C : Nat → Value → World → Prop} {ms : List (List Bk)} {wn : List Wn} {z0 : Nat} {stg : List (Option Nat)} {J : Nat}
theorem cert_newV {bk0 : List Bk} (hrow : rowsOf ms = List.replicate (J + 1) (bk0.map fun x => (x.g, x.rw))) {i : Nat} {h : OH} {ob : List Prop} {rs : List (Nat × Nat × Nat)} {t L : Nat} {l : List Value} (hs : stgOf stg i = none) (hv : vkOf vs i = none)
    (he : ∀ sz, (List.range (J + 1)).map (regEnt P ops sl0 vs ms wn sz i h) = (List.range (J + 1)).map (fun j => (ms[j]?).map fun bk => (ob, dupR rs, Value.slice (some ⟨sz, 0, none⟩) L L, bk ++ [⟨sz, t, true, l⟩], sz + 1))) (ho : All ob) :
    CertG (wpOp P ops Q) D n ops sl0 stg J (MG w0 S ms wn z0) (Turned bk0) (PvG vs (CBlk i z0 t L l)) i := by
  intro j a w K hj _ _ hf hk hm hK
  obtain ⟨bk, hb, hz, hM⟩ := hm
  have h1 := congrArg (fun l => l[j]?) (he w.heap.size)
  simp only [List.getElem?_map, List.getElem?_range (show j < J + 1 by omega), Option.map_some, Option.some.injEq, regEnt, hb] at h1
  have hT := turned_same (rows_at hrow hb)
  refine opG_soundW (w0 := w) (S := Turned bk) h1 ho (dupR_good _) (knows_slG hf _ hk) hM.again (fun w' hm' => ?_)
  have hB := hm'.blk ⟨w.heap.size, t, true, l⟩ (by simp)
  have hm3 := hm'.less
  have hm2 : MemOk w (Turned bk) bk wn w'.heap.size w' := by rw [hm'.size]; exact hm3
  refine hK _ w' ?_ (hT ▸ hm'.kept) ⟨bk, ?_, Nat.le_trans hz hm'.kept.size, hM.onto hm2 rfl⟩
  · simp only [PvG, hv]
    exact ⟨rfl, _, hz, rfl, hB⟩
  · unfold nextG
    rw [hs]
    exact hb
/-- a call in a drawn region, by its contract: it may change the known blocks -/
theorem cert_callG {bk0 : List Bk} {i : Nat} {v : Value}
    (h : ∀ j a w, j ≤ J → (∀ s, stgOf stg i = some s → j = s ∧ s < J) → FrOk D n (slG ops vs sl0 (needsOf ops i)) a → KnowsG ops (PvG vs C) (needsOf ops i) a w → MG w0 S ms wn z0 j w →
      ∃ sl f args ob, FrOk D n sl a ∧ callAt P ops sl i = some (f, args, dstOf ops i, ob) ∧ All ob ∧ Calls P f args.toArray w (fun e w' => e = .returned v ∧ PvG vs C i v w' ∧ Kept (Turned bk0) w w' ∧ MG w0 S ms wn z0 (nextG stg i j) w')) :
    CertG (wpOp P ops Q) D n ops sl0 stg J (MG w0 S ms wn z0) (Turned bk0) (PvG vs C) i := by
  intro j a w K hj hjs _ hf hk hm hK
  obtain ⟨sl, f, args, ob, h1, h2, h3, h4⟩ := h j a w hj hjs (knows_slG hf _ hk) hk hm
  refine callAt_wpOp h2 h3 h1 (h4.mono fun e w' he => ?_)
  obtain ⟨g1, g2, g3, g4⟩ := he
  exact ⟨v, g1, hK v w' g2 g3 g4⟩
end
end
end Go.Proofs.Ytmeddeaphmpjcaa
