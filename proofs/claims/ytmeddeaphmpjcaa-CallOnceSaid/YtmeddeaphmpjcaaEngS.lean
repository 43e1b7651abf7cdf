/- The executor: a range over a function within a stretch; a function's contract by it; the way out with the loop's mark. -/
import Derived.Test.YtmeddeaphmpjcaaEngR
namespace Go.Proofs.Ytmeddeaphmpjcaa
open Go.RowKit

section
variable {P : Program} {body : Code} {n : Nat}
theorem callsIn_of_holdsR {F : Fence} {m : Nat} {fid : FuncId} {fn : Func} {l : List Value} {w : World} {R : Ending → World → Prop} {S : Nat → Prop} {bk : List Bk} {wn : List Wn}
    (hF : ∀ f, F.fn f) (hro : F.round = none) (hf : P.funcs[fid]? = some fn) (hb : fn.body = some body) (hn : fn.ntmps = n) (hl : l.length ≤ n) (hm : MemOk w S bk wn w.heap.size w)
    (h : HoldsR F m [] P body n w S (bodyPost P fn R) [.code []] ⟨enumS 0 l, bk, wn, w.heap.size⟩) : CallsIn F m P fid l.toArray w R := by
  refine callsIn_of_wp hf hb (hF _) ?_ hro
  have hg : getCode body [] = body := by cases body <;> rfl
  have h1 := h { tmps := l.toArray ++ Array.replicate (fn.ntmps - l.toArray.size) undef, defers := [] } w
    ⟨by simp; omega, rfl, fun i v hi => by
      obtain ⟨_, h2⟩ := getS_enumS l 0 i v hi
      simp only [Nat.sub_zero] at h2
      have hlt := (List.getElem?_eq_some_iff.1 h2).1
      rw [Array.getElem?_append_left (by simpa using hlt)]
      simpa using h2⟩ hm
  simp only [semR, hg] at h1
  exact wpIn_mono h1 fun e a w h2 => h2
theorem holdsR_end {F : Fence} {m : Nat} {D : List Deferred} {w0 : World} {S : Nat → Prop} {Q : Exit → Act → World → Prop} {st : St} (h : ∀ a w, FrOk D n st.sl a → MemOk w0 S st.bk st.wn st.sz w → Q .normal a w) : HoldsR F m D P body n w0 S Q [] st := h
theorem holdsR_fin {F : Fence} {m : Nat} {w0 : World} {S : Nat → Prop} {fn : Func} {R : Ending → World → Prop} {st : St} (hr : fn.results.toList = [])
    (h : ∀ w, MemOk w0 S st.bk st.wn st.sz w → R (.returned (oneOf [])) w) : HoldsR F m [] P body n w0 S (bodyPost P fn R) [] st := by
  intro a w hf hm
  exact ⟨hf.df, _, results_of (vs := []) (rs := []) (hs := []) hf hm (by rw [hr]; rfl), h w hm⟩
theorem semR_ret {F : Fence} {m : Nat} {Q : Exit → Act → World → Prop} {a : Act} {w : World} (h : Q .ret a w) : ∀ (k : List KI), semR F m P body Q k .ret a w := by
  intro k
  induction k with
  | nil => exact h
  | cons x k ih => cases x <;> exact ih
theorem sem_ret {Q : Exit → Act → World → Prop} {a : Act} {w : World} (h : Q .ret a w) : ∀ (k : List KI), sem P body Q k .ret a w := by
  intro k
  induction k with
  | nil => exact h
  | cons x k ih => cases x <;> exact ih
theorem holdsR_ret {F : Fence} {m : Nat} {D : List Deferred} {w0 : World} {S : Nat → Prop} {Q : Exit → Act → World → Prop} {st : St} {p : List Nat} {k : List KI} (hc : getCode body p = .ret)
    (h : ∀ a w, FrOk D n st.sl a → MemOk w0 S st.bk st.wn st.sz w → Q .ret a w) : HoldsR F m D P body n w0 S Q (.code p :: k) st := by
  intro a w hf hm
  simp only [semR, hc]
  exact wpIn_ret (semR_ret (h a w hf hm) k)

/-- the loop's mark -/
def markD (D : Nat) : List Deferred := [{ target := .collected D, args := #[] }]
theorem MemOk.shut {w0 w : World} {S : Nat → Prop} {bk : List Bk} {sz D : Nat} (hm : MemOk w0 S bk [] sz w) (hD : w.heap[D]? = some (.deferred (some []))) : MemOk w0 (fun x => S x ∨ x = D) bk [] sz (w.putObj D (.deferred Option.none)) := by
  have hne : ∀ b ∈ bk, b.g ≠ D := fun b hb e => by
    have h1 := hm.blk b hb
    unfold Blk at h1
    rw [e, hD] at h1
    cases h1
  refine ⟨by simpa using hm.size, fun b hb => ?_, fun b hb hr => (hm.own b hb hr).imp_left .inl, hm.nd, ?_, by simp⟩
  · exact (World.putObj_heap_other (hne b hb)).trans (hm.blk b hb)
  · refine ⟨hm.kept.os, hm.kept.tape, hm.kept.output, by simpa using hm.kept.size, fun k hk hn => ?_⟩
    exact (World.putObj_heap_other (fun e => hn (.inr e))).trans (hm.kept.block k hk (fun h => hn (.inl h)))
theorem leavesM {w0 : World} {S : Nat → Prop} {m : Nat} {fn : Func} {R : Ending → World → Prop} {sl : List (Nat × Value)} {bk : List Bk} {sz : Nat} {vs : List Value} {rs : List (Nat × Nat × Nat)} {D : Nat} (hs : List (List MH))
    (h : resL P [] bk sl fn.results.toList hs = some (vs, dupR rs)) (hR : ∀ w, MemOk w0 (fun x => S x ∨ x = D) bk [] sz w → R (.returned (oneOf vs)) w)
    {a : Act} {w : World} (hf : FrOk (markD D) n sl a) (hm : MemOk w0 S bk [] sz w) (hD : w.heap[D]? = some (.deferred (some []))) : bodyPostM Fence.wide m P fn R .ret a w := by
  have h1 := hm.shut hD
  simp only [bodyPostM, hf.df, markD]
  refine ⟨by simp, .inl ⟨_, _, rfl, run_takeDeferred hD, ?_⟩⟩
  exact ⟨_, results_of (D := markD D) hf h1 h, hR _ h1⟩
theorem holds_retM {w0 : World} {S : Nat → Prop} {m : Nat} {fn : Func} {R : Ending → World → Prop} {p : List Nat} {k : List KI} {sl : List (Nat × Value)} {bk : List Bk} {sz : Nat} {vs : List Value} {rs : List (Nat × Nat × Nat)} {D : Nat} (hs : List (List MH))
    (hlt : D < w0.heap.size) (hD : w0.heap[D]? = some (.deferred (some []))) (hS : ¬ S D)
    (hc : getCode body p = .ret) (h : resL P [] bk sl fn.results.toList hs = some (vs, dupR rs)) (hR : ∀ w, MemOk w0 (fun x => S x ∨ x = D) bk [] sz w → R (.returned (oneOf vs)) w) :
    Holds (markD D) P body n w0 S (bodyPostM Fence.wide m P fn R) (.code p :: k) ⟨sl, bk, [], sz⟩ := by
  intro a w hf hm
  simp only [sem, hc]
  refine wp_ret ?_
  exact sem_ret (leavesM hs h hR hf hm ((hm.kept.block D hlt hS).trans hD)) k
theorem calls_of_holdsM {m : Nat} {fid : FuncId} {fn : Func} {l : List Value} {w : World} {R : Ending → World → Prop} {S : Nat → Prop} {bk : List Bk} {wn : List Wn}
    (hf : P.funcs[fid]? = some fn) (hb : fn.body = some body) (hn : fn.ntmps = n) (hl : l.length ≤ n) (hm : MemOk w S bk wn w.heap.size w)
    (h : Holds [] P body n w S (bodyPostM Fence.wide m P fn R) [.code []] ⟨enumS 0 l, bk, wn, w.heap.size⟩) : Calls P fid l.toArray w R := by
  refine (callsIn_wide (n := m)).1 (callsIn_of_wp_marks hf hb trivial (wpIn_wide.2 ?_) rfl)
  have hg : getCode body [] = body := by cases body <;> rfl
  have h1 := h { tmps := l.toArray ++ Array.replicate (fn.ntmps - l.toArray.size) undef, defers := [] } w
    ⟨by simp; omega, rfl, fun i v hi => by
      obtain ⟨_, h2⟩ := getS_enumS l 0 i v hi
      simp only [Nat.sub_zero] at h2
      have hlt := (List.getElem?_eq_some_iff.1 h2).1
      rw [Array.getElem?_append_left (by simpa using hlt)]
      simpa using h2⟩ hm
  simp only [sem, hg] at h1
  exact wp_mono h1 fun e a w h2 => h2

/-- which blocks a round may change -/
def Turned (bk : List Bk) (k : Nat) : Prop := ∃ b ∈ bk, b.rw = true ∧ b.g = k
theorem MemOk.again {w0 w : World} {S : Nat → Prop} {bk : List Bk} {wn : List Wn} {sz : Nat} (hm : MemOk w0 S bk wn sz w) : MemOk w (Turned bk) bk wn w.heap.size w := by
  refine ⟨rfl, hm.blk, fun b hb hr => .inl ⟨b, hb, hr, rfl⟩, hm.nd, Kept.refl _ _, fun x hx => ?_⟩
  obtain ⟨h1, h2, h3⟩ := hm.win x hx
  refine ⟨fun ⟨b, hb, hr, he⟩ => ?_, Nat.lt_of_lt_of_le h2 hm.kept.size, fun j v hj => ?_⟩
  · rcases hm.own b hb hr with h4 | h4
    · exact h1 (he ▸ h4)
    · rw [he] at h4
      omega
  · exact hm.winCell hx hj
theorem MemOk.onto {w0 w w' : World} {S : Nat → Prop} {bk bk' : List Bk} {wn : List Wn} {sz : Nat} (hm : MemOk w0 S bk wn sz w) (h : MemOk w (Turned bk) bk' wn w'.heap.size w')
    (hsame : bk'.map (fun b => (b.g, b.rw)) = bk.map (fun b => (b.g, b.rw))) : MemOk w0 S bk' wn w'.heap.size w' := by
  have hin : ∀ b ∈ bk', ∃ c ∈ bk, c.g = b.g ∧ c.rw = b.rw := fun b hb => by
    have h1 : (b.g, b.rw) ∈ bk'.map (fun b => (b.g, b.rw)) := List.mem_map.2 ⟨b, hb, rfl⟩
    rw [hsame] at h1
    obtain ⟨c, hc, he⟩ := List.mem_map.1 h1
    simp only [Prod.mk.injEq] at he
    exact ⟨c, hc, he.1, he.2⟩
  refine ⟨rfl, h.blk, fun b hb hr => ?_, h.nd, hm.kept.trans h.kept (fun k hk ⟨b, hb, hr, he⟩ => ?_), hm.win⟩
  · obtain ⟨c, hc, h1, h2⟩ := hin b hb
    rw [← h1]
    exact hm.own c hc (h2.trans hr)
  · rcases hm.own b hb hr with h4 | h4
    · exact he ▸ h4
    · omega
theorem keepsFrom_turned {B : Nat} {w w' : World} {bk : List Bk} (hb : ∀ b ∈ bk, Blk w b.g b.t b.cs) (h : Kept (Turned bk) w w') : KeepsFrom B w w' := by
  refine ⟨h.size, fun k o _ hk ho => ?_⟩
  have hlt := (Array.getElem?_eq_some_iff.1 hk).1
  refine (h.block k hlt (fun ⟨b, hbm, _, he⟩ => ?_)).trans hk
  have h1 := hb b hbm
  unfold Blk at h1
  rw [he, hk] at h1
  simp only [Option.some.injEq] at h1
  rw [h1] at ho
  cases ho
theorem ownFrom_mem {α : Type} {B : Nat} {w0 : World} {S : Nat → Prop} {bks : α → List Bk} {wn : List Wn} {Ip : α → Prop} (hB : w0.heap.size ≤ B) :
    OwnFrom B (fun (pre : α) W => Ip pre ∧ MemOk w0 S (bks pre) wn W.heap.size W ∧ B ≤ W.heap.size) := by
  rintro s W W' row ⟨hp, hm, hsz⟩ hg hr
  have hk : ∀ k o, W.heap[k]? = some o → (k < B ∨ o.isCells = true) → W'.heap[k]? = some o := by
    intro k o ho h1
    refine (hg.block k (Array.getElem?_eq_some_iff.1 ho).1 (fun e => ?_)).trans ho
    obtain ⟨h2, o', h3, h4⟩ := hr k e.symm
    rw [ho] at h3
    cases h3
    rcases h1 with h1 | h1
    · omega
    · rw [h1] at h4
      cases h4
  refine ⟨hp, ⟨rfl, fun b hb => hk _ _ (hm.blk b hb) (.inr rfl), hm.own, hm.nd, ⟨hg.os.trans hm.kept.os, hg.tape.trans hm.kept.tape, hg.output.trans hm.kept.output, Nat.le_trans hm.kept.size hg.size, fun k hlt hn => ?_⟩, hm.win⟩, Nat.le_trans hsz hg.size⟩
  have h1 := hm.kept.block k hlt hn
  obtain ⟨o, ho⟩ : ∃ o, w0.heap[k]? = some o := ⟨_, Array.getElem?_eq_getElem hlt⟩
  rw [ho] at h1
  rw [ho]
  exact hk k o h1 (.inl (by omega))

/-- the world's blocks ahead of a range over a function, and behind it -/
theorem holds_range {α : Type} {w0 : World} {S : Nat → Prop} {Q : Exit → Act → World → Prop} {p : List Nat} {k : List KI} {sl : List (Nat × Value)} {bk : List Bk} {wn : List Wn} {sz : Nat}
    {g : Operand} {pt : Tmp} {asg bd : Code} {gf : Nat} {lb : Array Value} {enc : α → Value} {Sq Spq : List α → Prop} {N Bn : Nat}
    (hc : getCode body p = .rangeFunc g #[pt] asg bd) (hg : opd sl g = some (.func (.func gf) #[] lb)) (eg : ∀ args w, (callFunc gf args).run P w = .ok (.enter gf args) w)
    (hBn : ∀ w, MemOk w0 S bk wn sz w → Bn < sz) (hBt : ¬ Turned bk Bn)
    (hseq : ∀ w, MemOk w0 S bk wn sz w → SeqStopsK Fence.wide 4 P gf lb (fun x => #[enc x]) (fun W W' => Kept (fun x => x ≠ Bn) W W') Sq Spq N w)
    (Ip Xp : List α → Prop) (bks bksx : List α → List Bk) (h0 : bks [] = bk) (hI0 : Ip []) (hbs : ∀ pre, (bks pre).map (fun b => (b.g, b.rw)) = bk.map (fun b => (b.g, b.rw))) (hbx : ∀ pre, (bksx pre).map (fun b => (b.g, b.rw)) = bk.map (fun b => (b.g, b.rw)))
    (sl₁ : α → List (Nat × Value))
    (sl₀ : α → List (Nat × Value)) (hsl₀ : ∀ x, putS n sl (some pt) (enc x) = some (sl₀ x))
    (hassign : ∀ (x : α) (l : Nat) (W : World), HoldsR (Fence.wide.inRound l) 3 [] P body n W (fun _ => False) (fun e a' W' => e = .normal ∧ Kept (fun _ => False) W W' ∧ FrOk [] n (sl₁ x) a') [.code (p ++ [0])] ⟨sl₀ x, [], [], W.heap.size⟩)
    (hbody : ∀ (l : Nat) (pre : List α) (x : α) (W : World) (z : Nat), sz ≤ z → Ip pre → pre.length < N → HoldsR (Fence.wide.inRound l) 3 [] P body n W (Turned (bks pre))
      (fun e _ W' => (e = .normal ∧ Ip (pre ++ [x]) ∧ MemOk W (Turned (bks pre)) (bks (pre ++ [x])) wn W'.heap.size W') ∨ (e = .ret ∧ Xp (pre ++ [x]) ∧ MemOk W (Turned (bks pre)) (bksx (pre ++ [x])) wn W'.heap.size W')) [.code (p ++ [1])] ⟨sl₁ x, bks pre, wn, z⟩)
    (hdone : ∀ (D : Nat) (xs : List α) (W : World), Sq xs → Ip xs → MemOk w0 S (bks xs) wn W.heap.size W → sz ≤ D → sz ≤ W.heap.size → W.heap[D]? = some (.deferred (some [])) → Holds (markD D) P body n W (Turned (bks xs)) Q k ⟨sl, bks xs, wn, W.heap.size⟩)
    (hstop : ∀ (D : Nat) (pre : List α) (W : World), Spq pre → Xp pre → MemOk w0 S (bksx pre) wn W.heap.size W → sz ≤ D → sz ≤ W.heap.size → W.heap[D]? = some (.deferred (some [])) → ∀ a, FrOk (markD D) n sl a → Q .ret a W) :
    Holds [] P body n w0 S Q (.code p :: k) ⟨sl, bk, wn, sz⟩ := by
  intro a w hf hm
  simp only [sem, hc]
  have hz : w.heap.size = sz := hm.size
  have hw0 : w0.heap.size ≤ w.heap.size := hm.kept.size
  have hT : ∀ pre, Turned (bks pre) = Turned bk := fun pre => by
    funext y
    apply propext
    have h1 : ∀ (l : List Bk), Turned l y ↔ (y, true) ∈ l.map (fun b => (b.g, b.rw)) := fun l => by
      simp only [Turned, List.mem_map, Prod.mk.injEq]
      exact ⟨fun ⟨b, h1, h2, h3⟩ => ⟨b, h1, h3, h2⟩, fun ⟨b, h1, h2, h3⟩ => ⟨b, h1, h3, h2⟩⟩
    rw [h1, h1, hbs]
  have hget : getCode body (p ++ [1]) = bd := by simp only [getCode_append, hc, getCode]
  refine (wpIn_wide (n := 5)).1 ?_
  refine wpIn_rangeFunc_ownH (encs := fun x => #[enc x]) (N := N) (F := Fence.wide) (w0 := w) (gf := gf) (lb := lb) rfl (by omega) (hf.eval hg) trivial eg (hseq w hm) (fun h h' => h.trans h' (fun _ _ => id)) ?hKb (Below.refl _ _) (fun _ => rfl)
    (fun pre W => Ip pre ∧ MemOk w0 S (bks pre) wn W.heap.size W ∧ w.heap.size ≤ W.heap.size)
    (fun c pre W => (c = .ret ∧ Xp pre) ∧ MemOk w0 S (bksx pre) wn W.heap.size W ∧ w.heap.size ≤ W.heap.size) (ownFrom_mem hw0) (fun c => ownFrom_mem hw0) ⟨hI0, by rw [h0, hz]; exact hm, Nat.le_refl _⟩
    (fun x a' _ => FrOk [] n (sl₁ x) a') (fun x a' _ _ _ _ h _ _ => h) ?assign ?body ?done ?stop
  case hKb =>
    intro W l o o' hl ho _ _
    have hb := hBn w hm
    exact ⟨rfl, rfl, rfl, by simp, fun k _ hn => World.putObj_heap_other (by omega)⟩
  case assign =>
    intro l pre x W K hI hK
    have hg0 : getCode body (p ++ [0]) = asg := by simp only [getCode_append, hc, getCode]
    have hf' : FrOk [] n sl { tmps := a.tmps, defers := [] } := ⟨hf.size, rfl, hf.val⟩
    have h1 := hassign x l W _ W (hf'.put (hsl₀ x)) (MemOk.none W _)
    simp only [semR, hg0] at h1
    have hfr : ({ tmps := (#[pt].zip #[enc x]).foldl (fun t (p, v) => t.setIfInBounds p v) a.tmps, defers := [] } : Act) = ({ tmps := a.tmps, defers := [] } : Act).put (some pt) (enc x) := by
      simp [Act.put]
    rw [← hfr] at h1
    refine wpIn_mono h1 fun e a' W' h2 => ?_
    obtain ⟨rfl, h3, h4⟩ := (show e = .normal ∧ _ ∧ _ from h2)
    obtain ⟨hp, hI, hsz⟩ := hI
    have h5 := hI.same h3
    exact hK a' _ ⟨h3.size, fun k o _ ho _ => (h3.block k (Array.getElem?_eq_some_iff.1 ho).1 id).trans ho⟩ (h3.mono (fun _ _ h => h.elim)) ⟨hp, h5.2, Nat.le_trans hsz h3.size⟩ h4
  case body =>
    rintro l pre x a' W _ _ ⟨hp, hI, hsz⟩ hA hlen
    have h1 := hbody l pre x W W.heap.size (by omega) hp hlen a' W hA hI.again
    simp only [semR, hget] at h1
    refine wpIn_mono h1 fun e a2 W' h2 => ?_
    have hkk : ∀ bk', (bk'.map (fun b : Bk => (b.g, b.rw)) = bk.map (fun b => (b.g, b.rw))) → MemOk W (Turned (bks pre)) bk' wn W'.heap.size W' → KeepsFrom w.heap.size W W' ∧ Kept (fun x => x ≠ Bn) W W' ∧ MemOk w0 S bk' wn W'.heap.size W' ∧ w.heap.size ≤ W'.heap.size := fun bk' hs h => by
      refine ⟨keepsFrom_turned hI.blk h.kept, h.kept.mono (fun k _ h3 h4 => ?_), hI.onto h (hs.trans (hbs pre).symm), Nat.le_trans hsz h.kept.size⟩
      rw [hT] at h3
      exact hBt (h4 ▸ h3)
    cases e with
    | normal =>
      rcases (show _ ∨ _ from h2) with ⟨_, h3, h4⟩ | ⟨h, _⟩
      · obtain ⟨q1, q2, q3, q4⟩ := hkk _ (hbs _) h4
        exact ⟨q1, q2, h3, q3, q4⟩
      · cases h
    | ret =>
      rcases (show _ ∨ _ from h2) with ⟨h, _⟩ | ⟨_, h3, h4⟩
      · cases h
      · obtain ⟨q1, q2, q3, q4⟩ := hkk _ (hbx _) h4
        exact ⟨q1, ⟨rfl, h3⟩, q3, q4⟩
    | _ => rcases (show _ ∨ _ from h2) with ⟨h, _⟩ | ⟨h, _⟩ <;> cases h
  case done =>
    rintro D xs W hD hS ⟨hp, hI, hsz⟩ hK
    have h1 := hdone D xs W hS hp hI (by omega) (by omega) hK { a with defers := { target := .collected D, args := #[] } :: a.defers } W ⟨hf.size, by simp [hf.df, markD], hf.val⟩ hI.again
    exact h1
  case stop =>
    rintro D c pre W hD hS ⟨⟨rfl, hp⟩, hI, hsz⟩ hK
    refine wpIn_ret (sem_ret (hstop D pre W hS hp hI (by omega) (by omega) hK { a with defers := { target := .collected D, args := #[] } :: a.defers } ⟨hf.size, by simp [hf.df, markD], hf.val⟩) k)
end
end Go.Proofs.Ytmeddeaphmpjcaa
