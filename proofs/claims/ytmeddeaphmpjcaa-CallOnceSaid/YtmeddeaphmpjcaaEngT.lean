/- The executor: a region that draws its order, each order's steps taken up one by one (the sets of those that have come up are the states). -/
import Derived.Test.YtmeddeaphmpjcaaEngS
namespace Go.Proofs.Ytmeddeaphmpjcaa
open Go.RowKit

section
variable {D : List Deferred} {P : Program} {body : Code} {n : Nat} {w0 : World} {S : Nat → Prop} {Q : Exit → Act → World → Prop}
theorem holds_anyStart {p : List Nat} {k : List KI} {st : St} {f : Nat} {ls : Array Bool} (hc : isDraw (getCode body p) = true) (hm : P.follows .mixedOrders = true) (hz : (opsOf (getCode body p)).size = f)
    (hl : Array.replicate (opsOf (getCode body p)).size false = ls) (hh : Holds D P body n w0 S Q (.any p f ls :: k) st) : Holds D P body n w0 S Q (.code p :: k) st := by
  intro a w hf hmm
  obtain ⟨id, hc⟩ := draw_of hc
  subst hl hz
  simp only [sem]
  rw [hc]
  refine wp_region_any hm ?_
  have h1 := hh a { w with drawn := w.drawn + 1 } hf ⟨hmm.size, hmm.blk, hmm.own, hmm.nd, hmm.kept.drew, hmm.win⟩
  simpa only [sem] using h1
def Edge (D : List Deferred) (P : Program) (body : Code) (n : Nat) (w0 : World) (S : Nat → Prop) (Q : Exit → Act → World → Prop) (p : List Nat) (f : Nat) (k : List KI) (ls : Array Bool) (st : St) (i : Nat) : Prop :=
  ∀ a w, FrOk D n st.sl a → MemOk w0 S st.bk st.wn st.sz w → wpOp P (opsOf (getCode body p)) (sem P body Q k) i (wpAny P .any (opsOf (getCode body p)) (sem P body Q k) f (ls.setIfInBounds i true)) a w
theorem edge_op {p : List Nat} {f i : Nat} {k : List KI} {ls ls' : Array Bool} {st st' : St} {h0 : OH} {ob : List Prop} {rs : List (Nat × Nat × Nat)} {ks : List Nat} (hl : ls.setIfInBounds i true = ls')
    (h : Out.prune ks (opStep P n (opsOf (getCode body p)) st i h0) = some ⟨ob, dupR rs, st'⟩) (ho : All ob) (hh : Holds D P body n w0 S Q (.any p f ls' :: k) st') : Edge D P body n w0 S Q p f k ls st i := by
  subst hl
  intro a w hf hm
  obtain ⟨r, hr, h1, h2, h3⟩ := out_prune h
  dsimp only at h1 h2 h3
  refine opStep_sound hr (by rw [h1]; exact ho) (by rw [h2]; exact dupR_good rs) hf hm (fun a' w' hf' hm' => ?_)
  have h4 := holds_prune (D := D) (P := P) (body := body) (n := n) (w0 := w0) (S := S) (Q := Q) (k := .any p f (ls.setIfInBounds i true) :: k) (st := r.st) ks [] (by rw [h3]; exact hh) a' w' hf' hm'
  simpa only [sem] using h4
theorem eop {p : List Nat} {f i : Nat} {k : List KI} {ls : Array Bool} {st : St} (ls' : Array Bool) (h0 : OH) (ks : List Nat) (ob : List Prop) (rs : List (Nat × Nat × Nat)) (st' : St) (ho : All ob) (hh : Holds D P body n w0 S Q (.any p f ls' :: k) st') (hl : ls.setIfInBounds i true = ls' := by kernel_rfl)
    (h : Out.prune ks (opStep P n (opsOf (getCode body p)) st i h0) = some ⟨ob, dupR rs, st'⟩ := by kernel_rfl) : Edge D P body n w0 S Q p f k ls st i := edge_op hl h ho hh
theorem edge_call {p : List Nat} {f0 i : Nat} {k : List KI} {ls ls' : Array Bool} {st : St} {f : FuncId} {args : List Value} {dst : Option Nat} {ob : List Prop} (v : Value) (ks : List Nat) {sl sl' : List (Nat × Value)}
    (hl : ls.setIfInBounds i true = ls') (h : callAt P (opsOf (getCode body p)) st.sl i = some (f, args, dst, ob)) (ho : All ob) (hp : putS n st.sl dst v = some sl) (hk : keepS sl ks = sl')
    (hc : ∀ w, MemOk w0 S st.bk st.wn st.sz w → Calls P f args.toArray w (RetK v w))
    (hh : ∀ sz, st.sz ≤ sz → Holds D P body n w0 S Q (.any p f0 ls' :: k) ⟨sl', st.bk, st.wn, sz⟩) : Edge D P body n w0 S Q p f0 k ls st i := by
  subst hl hk
  intro a w hf hm
  refine callAt_wpOp h ho hf ((hc w hm).mono fun e w' he => ?_)
  obtain ⟨h2, h3⟩ := he
  refine ⟨v, h2, ?_⟩
  have h5 : st.sz ≤ w'.heap.size ∧ MemOk w0 S st.bk st.wn w'.heap.size w' :=
    ⟨hm.size ▸ h3.size, rfl, fun b hb => (hm.blk b hb).kept h3 id, hm.own, hm.nd, hm.kept.trans h3 (fun _ _ x => x.elim), hm.win⟩
  have h6 := hf.put hp
  have h4 := hh _ h5.1 _ _ ⟨h6.size, h6.df, fun i v hi => h6.val i v (getS_keepS ks i v hi)⟩ h5.2
  simpa only [sem] using h4
theorem holds_anyAll {p : List Nat} {f : Nat} {k : List KI} {ls : Array Bool} {st : St} {l : List Nat} (hr : Region.ready .any (opsOf (getCode body p)) ls = l) (hne : l ≠ []) (h : All (l.map (Edge D P body n w0 S Q p f k ls st))) :
    Holds D P body n w0 S Q (.any p (f + 1) ls :: k) st := by
  intro a w hf hm
  simp only [sem]
  refine ⟨fun h' => absurd (hr.symm.trans h') hne, fun i hi => ?_⟩
  rw [hr] at hi
  have h2 : ∀ (l : List Nat), All (l.map (Edge D P body n w0 S Q p f k ls st)) → ∀ i ∈ l, Edge D P body n w0 S Q p f k ls st i := by
    intro l
    induction l with
    | nil => intro _ i hi; cases hi
    | cons x l ih =>
      intro h i hi
      rcases List.mem_cons.1 hi with rfl | hi
      · exact h.1
      · exact ih h.2 i hi
  exact h2 l h i hi a w hf hm
end
end Go.Proofs.Ytmeddeaphmpjcaa
