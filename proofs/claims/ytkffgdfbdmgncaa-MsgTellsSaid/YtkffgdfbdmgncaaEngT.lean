import Derived.Test.YtkffgdfbdmgncaaEngS
namespace Go.Proofs.Ytkffgdfbdmgncaa
open Go.RowKit
section
variable {D:List Deferred} {P:Program} {body:Code} {n:Nat} {w0:World} {S:Nat → Prop} {Q:Exit → Act → World → Prop}
theorem holds_anyStart {p:List Nat} {k:List KI} {st:St} {f:Nat} {ls:Array Bool} (hc:isDraw (getCode body p) = true) (hm:P.follows .mixedOrders = true) (hz:(opsOf (getCode body p)).size = f)
  (hl:Array.replicate (opsOf (getCode body p)).size false = ls) (hh:Holds D P body n w0 S Q (.any p f ls :: k) st):Holds D P body n w0 S Q (.code p :: k) st:=by
 intro a w hf hmm
 obtain ⟨id,hc⟩:=draw_of hc
 subst hl hz
 simp only [sem]
 rw [hc]
 refine wp_region_any hm ?_
 have h1:=hh a { w with drawn:=w.drawn + 1 } hf ⟨hmm.size,hmm.blk,hmm.own,hmm.nd,hmm.kept.drew,hmm.win⟩
 simpa only [sem] using h1
def Edge (D:List Deferred) (P:Program) (body:Code) (n:Nat) (w0:World) (S:Nat → Prop) (Q:Exit → Act → World → Prop) (p:List Nat) (f:Nat) (k:List KI) (ls:Array Bool) (st:St) (i:Nat):Prop:=
 ∀ a w,FrOk D n st.sl a → MemOk w0 S st.bk st.wn st.sz w → wpOp P (opsOf (getCode body p)) (sem P body Q k) i (wpAny P .any (opsOf (getCode body p)) (sem P body Q k) f (ls.setIfInBounds i true)) a w
theorem edge_op {p:List Nat} {f i:Nat} {k:List KI} {ls ls':Array Bool} {st st':St} {h0:OH} {ob:List Prop} {rs:List (Nat × Nat × Nat)} {ks:List Nat} (hl:ls.setIfInBounds i true = ls')
  (h:Out.prune ks (opStep P n (opsOf (getCode body p)) st i h0) = some ⟨ob,dupR rs,st'⟩) (ho:All ob) (hh:Holds D P body n w0 S Q (.any p f ls' :: k) st'):Edge D P body n w0 S Q p f k ls st i:=by
 subst hl
 intro a w hf hm
 obtain ⟨r,hr,h1,h2,h3⟩:=out_prune h
 dsimp only at h1 h2 h3
 refine opStep_sound hr (by rw [h1]; exact ho) (by rw [h2]; exact dupR_good rs) hf hm (fun a' w' hf' hm'=>?_)
 have h4:=holds_prune (D:=D) (P:=P) (body:=body) (n:=n) (w0:=w0) (S:=S) (Q:=Q) (k:=.any p f (ls.setIfInBounds i true) :: k) (st:=r.st) ks [] (by rw [h3]; exact hh) a' w' hf' hm'
 simpa only [sem] using h4
theorem holds_anyAll {p:List Nat} {f:Nat} {k:List KI} {ls:Array Bool} {st:St} {l:List Nat} (hr:Region.ready .any (opsOf (getCode body p)) ls = l) (hne:l ≠ []) (h:All (l.map (Edge D P body n w0 S Q p f k ls st))) :
  Holds D P body n w0 S Q (.any p (f + 1) ls :: k) st:=by
 intro a w hf hm
 simp only [sem]
 refine ⟨fun h'=>absurd (hr.symm.trans h') hne,fun i hi=>?_⟩
 rw [hr] at hi
 have h2:∀ (l:List Nat),All (l.map (Edge D P body n w0 S Q p f k ls st)) → ∀ i ∈ l,Edge D P body n w0 S Q p f k ls st i:=by
  intro l
  induction l with
  | nil=>intro _ i hi; cases hi
  | cons x l ih=>
   intro h i hi
   rcases List.mem_cons.1 hi with rfl | hi
   ·exact h.1
   ·exact ih h.2 i hi
 exact h2 l h i hi a w hf hm
end
end Go.Proofs.Ytkffgdfbdmgncaa
