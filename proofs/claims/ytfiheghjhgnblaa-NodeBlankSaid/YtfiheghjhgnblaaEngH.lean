/- The executor: an operation with a law of its own that stands under a guard. -/
import Derived.Test.YtfiheghjhgnblaaPlatM
namespace Go.Proofs.Ytfiheghjhgnblaa
open Go.RowKit

def dstAtG (ops : Array Oper) (sl : List (Nat × Value)) (i : Nat) : Option (Option Nat × Prop) :=
  match ops[i]? with
  | none => none
  | some o => match known sl o with
    | false => none
    | true => match o.guard with
      | none => some (o.dst, True)
      | some (j, want) => match (ops[j]?).bind (·.dst) with
        | none => none
        | some t => match getS sl t with
          | some (.bool c) => some (o.dst, c = want)
          | _ => none
theorem dstAtG_wanted {D : List Deferred} {n : Nat} {ops : Array Oper} {sl : List (Nat × Value)} {i : Nat} {dst : Option Nat} {ob : Prop} {a : Act} (h : dstAtG ops sl i = some (dst, ob)) (ho : ob) (hf : FrOk D n sl a) :
    ∃ o, ops[i]? = some o ∧ known sl o = true ∧ o.dst = dst ∧ Region.wanted o (yielded ops a.tmps) = true := by
  unfold dstAtG at h
  split at h
  · cases h
  · rename_i o hoi
    split at h
    · cases h
    · rename_i hk
      split at h
      · rename_i hg
        simp only [Option.some.injEq, Prod.mk.injEq] at h
        exact ⟨o, hoi, hk, h.1, by simp [Region.wanted, hg]⟩
      · rename_i j want hg
        split at h
        · cases h
        · rename_i t ht
          split at h
          · rename_i c hcc
            simp only [Option.some.injEq, Prod.mk.injEq] at h
            obtain ⟨e3, e4⟩ := h
            subst e4
            have h1 : c = want := ho
            have hy : yielded ops a.tmps j = some c := by
              have := hf.val t _ hcc
              simp [yielded, ht, this]
            exact ⟨o, hoi, hk, e3, by simp [Region.wanted, hg, hy, h1]⟩
          · cases h
section
variable {D : List Deferred} {P : Program} {body : Code} {n : Nat} {w0 : World} {S : Nat → Prop} {Q : Exit → Act → World → Prop}
theorem holds_opXG {p : List Nat} {i : Nat} {l : List Nat} {k : List KI} {st : St} {dst : Option Nat} {ob : Prop} {x : Sem Value} {X : Type} (C : X → Prop) (v : X → Value) (bk : X → List Bk) (sl : X → List (Nat × Value))
    (hd : dstAtG (opsOf (getCode body p)) st.sl i = some (dst, ob)) (ho : ob) (hx : semAt (opsOf (getCode body p)) st.sl i = some (asV x)) (hp : ∀ y, putS n st.sl dst (v y) = some (sl y))
    (hr : ∀ w, MemOk w0 S st.bk st.wn st.sz w → ∃ y w', C y ∧ x.run P w = .ok (v y) w' ∧ st.sz ≤ w'.heap.size ∧ MemOk w0 S (bk y) st.wn w'.heap.size w')
    (hh : ∀ y, C y → ∀ sz, st.sz ≤ sz → Holds D P body n w0 S Q (.ops p l :: k) ⟨sl y, bk y, st.wn, sz⟩) : Holds D P body n w0 S Q (.ops p (i :: l) :: k) st := by
  intro a w hf hm
  simp only [sem]
  rw [wpOps_cons]
  obtain ⟨o, hoi, hk, hdo, hw⟩ := dstAtG_wanted hd ho hf
  unfold semAt at hx
  simp only [hoi, Option.some.injEq] at hx
  simp only [wpOp, hoi, if_pos hw]
  refine .inl ?_
  obtain ⟨y, w', h1, h2, h3, h4⟩ := hr w hm
  have h5 : (execOp a.eval o).run P w = .ok (.value (v y)) w' := by
    rw [hf.rho hk, hx]
    simp only [asV, Sem.run_bind, h2, Result.andThen_ok, Sem.run_pure]
  simp only [Oper.wp, h5, Oper.upon_value]
  rw [hdo]
  exact hh y h1 _ h3 _ _ (hf.put (hp y)) h4
theorem holds_op1G {p : List Nat} {i : Nat} {l : List Nat} {k : List KI} {st : St} {dst : Option Nat} {ob : Prop} {x : Sem Value} (v : Value) (bk : List Bk) {sl : List (Nat × Value)}
    (hd : dstAtG (opsOf (getCode body p)) st.sl i = some (dst, ob)) (ho : ob) (hx : semAt (opsOf (getCode body p)) st.sl i = some (asV x)) (hp : putS n st.sl dst v = some sl)
    (hr : ∀ w, MemOk w0 S st.bk st.wn st.sz w → ∃ w', x.run P w = .ok v w' ∧ st.sz ≤ w'.heap.size ∧ MemOk w0 S bk st.wn w'.heap.size w')
    (hh : ∀ sz, st.sz ≤ sz → Holds D P body n w0 S Q (.ops p l :: k) ⟨sl, bk, st.wn, sz⟩) : Holds D P body n w0 S Q (.ops p (i :: l) :: k) st :=
  holds_opXG (X := Unit) (fun _ => True) (fun _ => v) (fun _ => bk) (fun _ => sl) hd ho hx (fun _ => hp) (fun w hm => let ⟨w', h1, h2, h3⟩ := hr w hm; ⟨(), w', trivial, h1, h2, h3⟩) (fun _ _ => hh)
theorem holds_opRG {p : List Nat} {i : Nat} {l : List Nat} {k : List KI} {st : St} {dst : Option Nat} {ob : Prop} {x : Sem Value} (v : Value) {sl : List (Nat × Value)}
    (hd : dstAtG (opsOf (getCode body p)) st.sl i = some (dst, ob)) (ho : ob) (hx : semAt (opsOf (getCode body p)) st.sl i = some (asV x)) (hp : putS n st.sl dst v = some sl)
    (hr : ∀ w, MemOk w0 S st.bk st.wn st.sz w → x.run P w = .ok v w)
    (hh : Holds D P body n w0 S Q (.ops p l :: k) ⟨sl, st.bk, st.wn, st.sz⟩) : Holds D P body n w0 S Q (.ops p (i :: l) :: k) st := by
  intro a w hf hm
  simp only [sem]
  rw [wpOps_cons]
  obtain ⟨o, hoi, hk, hdo, hw⟩ := dstAtG_wanted hd ho hf
  unfold semAt at hx
  simp only [hoi, Option.some.injEq] at hx
  simp only [wpOp, hoi, if_pos hw]
  refine .inl ?_
  have h5 : (execOp a.eval o).run P w = .ok (.value v) w := by
    rw [hf.rho hk, hx]
    simp only [asV, Sem.run_bind, hr w hm, Result.andThen_ok, Sem.run_pure]
  simp only [Oper.wp, h5, Oper.upon_value]
  rw [hdo]
  exact hh _ _ (hf.put hp) hm
/-- a store by a law, with a fact of the world behind it -/
theorem holds_opSW {p : List Nat} {i : Nat} {l : List Nat} {k : List KI} {st : St} {x : Sem Unit} {w : World} {S' : Nat → Prop} (X : World → Prop)
    (hd : dstAt (opsOf (getCode body p)) st.sl i = some none) (hx : semAt (opsOf (getCode body p)) st.sl i = some (asU x))
    (hr : ∀ wx, MemOk w0 S st.bk st.wn st.sz wx → ∃ w', x.run P wx = .ok () w' ∧ X w' ∧ MemOk w S' st.bk [] w'.heap.size w')
    (hh : ∀ W, X W → MemOk w S' st.bk [] W.heap.size W → Holds D P body n W (Turned st.bk) Q (.ops p l :: k) ⟨st.sl, st.bk, [], W.heap.size⟩) : Holds D P body n w0 S Q (.ops p (i :: l) :: k) st := by
  intro a w1 hf hm
  simp only [sem]
  rw [wpOps_cons]
  unfold dstAt at hd
  unfold semAt at hx
  split at hd
  · rename_i o ho
    simp only [ho, Option.some.injEq] at hx
    split at hd
    · rename_i hg
      split at hd
      · rename_i hk
        simp only [Option.some.injEq] at hd
        have hw : Region.wanted o (yielded (opsOf (getCode body p)) a.tmps) = true := by simp [Region.wanted, hg]
        simp only [wpOp, ho, if_pos hw]
        refine .inl ?_
        obtain ⟨w', h2, h3, h4⟩ := hr w1 hm
        have h5 : (execOp a.eval o).run P w1 = .ok .skip w' := by
          rw [hf.rho hk, hx]
          simp only [asU, Sem.run_bind, h2, Result.andThen_ok, Sem.run_pure]
        simp only [Oper.wp, h5, Oper.upon_skip]
        rw [hd]
        exact hh w' h3 h4 _ _ hf h4.again
      · cases hd
    · cases hd
  · cases hd
/-- the last call of a region that draws, with a fact of the world behind it -/
theorem holds_callAnyW {p : List Nat} {i f0 : Nat} {ls ls' : Array Bool} {k : List KI} {st : St} {f : FuncId} {args : List Value} {dst : Option Nat} {ob : List Prop} {w : World} {S' : Nat → Prop} {Y : Type} (v : Y → Value) (bk' : Y → List Bk) (X : Y → World → Prop) (sl : Y → List (Nat × Value))
    (hr : Region.ready .any (opsOf (getCode body p)) ls = [i]) (hl : ls.setIfInBounds i true = ls') (h : callAt P (opsOf (getCode body p)) st.sl i = some (f, args, dst, ob)) (ho : All ob) (hp : ∀ y, putS n st.sl dst (v y) = some (sl y))
    (hc : ∀ wx, MemOk w0 S st.bk st.wn st.sz wx → Calls P f args.toArray wx (fun e w' => ∃ y, e = .returned (v y) ∧ X y w' ∧ MemOk w S' (bk' y) [] w'.heap.size w'))
    (hh : ∀ y W, X y W → MemOk w S' (bk' y) [] W.heap.size W → Holds D P body n W (Turned (bk' y)) Q (.any p f0 ls' :: k) ⟨sl y, bk' y, [], W.heap.size⟩) :
    Holds D P body n w0 S Q (.any p (f0 + 1) ls :: k) st := by
  subst hl
  intro a wx hf hm
  simp only [sem]
  refine ⟨fun h => by rw [hr] at h; (cases h), fun j hj => ?_⟩
  rw [hr, List.mem_singleton] at hj
  subst hj
  refine callAt_wpOp h ho hf ((hc wx hm).mono fun e w' he => ?_)
  obtain ⟨y, h1, h2, h3⟩ := he
  exact ⟨v y, h1, hh y w' h2 h3 _ _ (hf.put (hp y)) h3.again⟩
end
end Go.Proofs.Ytfiheghjhgnblaa
