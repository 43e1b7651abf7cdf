/- The executor: a call that changes the world, at any place of a region that draws its order; with a fact of the world behind it. -/
import Derived.Test.YtfiheghjhgnblaaEngH
namespace Go.Proofs.Ytfiheghjhgnblaa
open Go.RowKit
section
variable {D : List Deferred} {P : Program} {body : Code} {n : Nat} {w0 : World} {S : Nat → Prop} {Q : Exit → Act → World → Prop}
/-- an operation with a law of its own, at any place of a region that draws its order, under a decided guard -/
theorem edge_opR {p : List Nat} {f i : Nat} {k : List KI} {ls : Array Bool} {st : St} {dst : Option Nat} {ob : Prop} {x : Sem Value} (ls' : Array Bool) (v : Value) (ks : List Nat) {sl sl' : List (Nat × Value)} (hl : ls.setIfInBounds i true = ls')
    (hd : dstAtG (opsOf (getCode body p)) st.sl i = some (dst, ob)) (ho : ob) (hx : semAt (opsOf (getCode body p)) st.sl i = some (asV x)) (hp : putS n st.sl dst v = some sl) (hk : keepS sl ks = sl')
    (hr : ∀ w, MemOk w0 S st.bk st.wn st.sz w → x.run P w = .ok v w)
    (hh : Holds D P body n w0 S Q (.any p f ls' :: k) ⟨sl', st.bk, st.wn, st.sz⟩) : Edge D P body n w0 S Q p f k ls st i := by
  subst hl hk
  intro a w hf hm
  obtain ⟨o, hoi, hkn, hdo, hw⟩ := dstAtG_wanted hd ho hf
  unfold semAt at hx
  simp only [hoi, Option.some.injEq] at hx
  simp only [wpOp, hoi, if_pos hw]
  refine .inl ?_
  have h5 : (execOp a.eval o).run P w = .ok (.value v) w := by
    rw [hf.rho hkn, hx]
    simp only [asV, Sem.run_bind, hr w hm, Result.andThen_ok, Sem.run_pure]
  simp only [Oper.wp, h5, Oper.upon_value]
  rw [hdo]
  have h6 := hf.put hp
  have h7 := hh _ _ ⟨h6.size, h6.df, fun i v hi => h6.val i v (getS_keepS ks i v hi)⟩ hm
  simpa only [sem] using h7
theorem edge_callW {p : List Nat} {f0 i : Nat} {k : List KI} {ls ls' : Array Bool} {st : St} {f : FuncId} {args : List Value} {dst : Option Nat} {ob : List Prop} {w : World} {S' : Nat → Prop} (v : Value) (ks : List Nat) (X : World → Prop) {sl sl' : List (Nat × Value)}
    (hl : ls.setIfInBounds i true = ls') (h : callAt P (opsOf (getCode body p)) st.sl i = some (f, args, dst, ob)) (ho : All ob) (hp : putS n st.sl dst v = some sl) (hk : keepS sl ks = sl')
    (hc : ∀ wx, MemOk w0 S st.bk st.wn st.sz wx → Calls P f args.toArray wx (fun e w' => e = .returned v ∧ X w' ∧ MemOk w S' st.bk [] w'.heap.size w'))
    (hh : ∀ W, X W → MemOk w S' st.bk [] W.heap.size W → Holds D P body n W (Turned st.bk) Q (.any p f0 ls' :: k) ⟨sl', st.bk, [], W.heap.size⟩) : Edge D P body n w0 S Q p f0 k ls st i := by
  subst hl hk
  intro a w1 hf hm
  refine callAt_wpOp h ho hf ((hc w1 hm).mono fun e w' he => ?_)
  obtain ⟨h2, h3, h4⟩ := he
  refine ⟨v, h2, ?_⟩
  have h6 := hf.put hp
  have h7 := hh w' h3 h4 _ _ ⟨h6.size, h6.df, fun i v hi => h6.val i v (getS_keepS ks i v hi)⟩ h4.again
  simpa only [sem] using h7
end
end Go.Proofs.Ytfiheghjhgnblaa
