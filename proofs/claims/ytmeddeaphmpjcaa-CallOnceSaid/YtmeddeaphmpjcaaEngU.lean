/- The executor: a region that draws its order and only reads, with operations that hang on tests: one walk in the code's own order. -/
import Derived.Test.YtmeddeaphmpjcaaEngT
namespace Go.Proofs.Ytmeddeaphmpjcaa
open Go.RowKit

def qStepG (P : Program) (n : Nat) (w0 : World) (S : Nat → Prop) (ops : Array Oper) (o : Oper) (st : St) (dec : Bool) (h : QH) : Option Out :=
  match o.guard with
  | none => qExec P n w0 S o st h
  | some (j, want) => match (ops[j]?).bind (·.dst) with
    | none => none
    | some t => match getS st.sl t with
      | some (.bool c) => match (dec == want) with
        | true => Out.ask (c = dec) (qExec P n w0 S o st h)
        | false => Out.ask (c = dec) (opSkip n o st)
      | some (.tuple _) => opSkip n o st
      | _ => none
def qListG (P : Program) (n : Nat) (w0 : World) (S : Nat → Prop) (ops : Array Oper) : List Oper → St → List (Bool × QH) → Option Out
  | [], st, _ => some ⟨[], [], st⟩
  | _ :: _, _, [] => none
  | o :: l, st, (dec, h) :: hs => match qStepG P n w0 S ops o st dec h with
    | none => none
    | some r => match qListG P n w0 S ops l r.st hs with
      | none => none
      | some r' => some ⟨r.ob ++ r'.ob, r.eqs ++ r'.eqs, r'.st⟩
section
variable {D : List Deferred} {P : Program} {n : Nat} {w0 : World} {S : Nat → Prop} {ops : Array Oper}
theorem qSkip_st {o : Oper} {st : St} {r : Out} (he : opSkip n o st = some r) : r.st.bk = st.bk ∧ r.st.wn = st.wn ∧ r.st.sz = st.sz := by
  unfold opSkip at he
  split at he
  · simp only [Option.some.injEq] at he
    subst he
    exact ⟨rfl, rfl, rfl⟩
  · cases he
theorem qStepG_sound {o : Oper} {l : List Oper} {st : St} {dec : Bool} {h : QH} {r : Out} (he : qStepG P n w0 S ops o st dec h = some r) (ho : All r.ob) (hg : Good r.eqs) {a : Act} (hf : FrOk D n st.sl a) {K : Act → Prop} {E : Prop}
    (hK : ∀ a', FrOk D n r.st.sl a' → wpQuiet P ops (MemC w0 S st.bk st.wn st.sz) K l a' ∧ E) : wpQuiet P ops (MemC w0 S st.bk st.wn st.sz) K (o :: l) a ∧ E := by
  have doit : ∀ r', qExec P n w0 S o st h = some r' → All r'.ob → r'.eqs = r.eqs → r'.st = r.st → Region.wanted o (yielded ops a.tmps) = true → wpQuiet P ops (MemC w0 S st.bk st.wn st.sz) K (o :: l) a ∧ E := by
    intro r' h1 h2 h3 h4 hw
    have h5 := qExec_sound h1 h2 (by rw [h3]; exact hg) hf (K := fun a' => wpQuiet P ops (MemC w0 S st.bk st.wn st.sz) K l a' ∧ E) (fun a' hf' => hK a' (by rw [← h4]; exact hf'))
    obtain ⟨v, q1, q2⟩ := h5
    refine ⟨?_, q2.2⟩
    simp only [wpQuiet, if_pos hw]
    exact ⟨v, q1, q2.1⟩
  have skip : ∀ r', opSkip n o st = some r' → r'.st = r.st → Region.wanted o (yielded ops a.tmps) = false → wpQuiet P ops (MemC w0 S st.bk st.wn st.sz) K (o :: l) a ∧ E := by
    intro r' h1 h4 hw
    have h5 := opSkip_sound h1 hf
    have h6 := hK _ (by rw [← h4]; exact h5.1)
    refine ⟨?_, h6.2⟩
    have hw' : ¬ Region.wanted o (yielded ops a.tmps) = true := by
      rw [hw]
      decide
    simp only [wpQuiet, if_neg hw']
    exact h6.1
  unfold qStepG at he
  split at he
  · rename_i hgd
    exact doit r he ho rfl rfl (by simp [Region.wanted, hgd])
  · rename_i j want hgd
    split at he
    · cases he
    · rename_i t ht
      split at he
      · rename_i c hc
        have hy : yielded ops a.tmps j = some c := by
          have := hf.val t _ hc
          simp [yielded, ht, this]
        split at he
        · rename_i hd
          obtain ⟨r', hr', rfl⟩ := ask_some he
          have h1 : c = dec := ho.1
          have h2 : dec = want := by simpa using hd
          exact doit r' hr' ho.2 rfl rfl (by simp [Region.wanted, hgd, hy, h1, h2])
        · rename_i hd
          obtain ⟨r', hr', rfl⟩ := ask_some he
          have h1 : c = dec := ho.1
          have h2 : ¬ dec = want := by simpa using hd
          exact skip r' hr' rfl (by simp [Region.wanted, hgd, hy, h1, h2])
      · rename_i vs hc
        have hy : yielded ops a.tmps j = none := by
          have := hf.val t _ hc
          simp [yielded, ht, this]
        exact skip r he rfl (by simp [Region.wanted, hgd, hy])
      · cases he
theorem qStepG_st {o : Oper} {st : St} {dec : Bool} {h : QH} {r : Out} (he : qStepG P n w0 S ops o st dec h = some r) : r.st.bk = st.bk ∧ r.st.wn = st.wn ∧ r.st.sz = st.sz := by
  unfold qStepG at he
  split at he
  · exact qExec_st he
  · split at he
    · cases he
    · split at he
      · split at he
        · obtain ⟨r', hr', rfl⟩ := ask_some he
          have h7 := qExec_st hr'
          exact h7
        · obtain ⟨r', hr', rfl⟩ := ask_some he
          have h7 := qSkip_st hr'
          exact h7
      · exact qSkip_st he
      · cases he
theorem qListG_sound : ∀ (l : List Oper) (st : St) (hs : List (Bool × QH)) (r : Out), qListG P n w0 S ops l st hs = some r → All r.ob → Good r.eqs → ∀ (a : Act), FrOk D n st.sl a → ∀ (K : Act → Prop),
    (∀ a', FrOk D n r.st.sl a' → K a') → wpQuiet P ops (MemC w0 S st.bk st.wn st.sz) K l a ∧ r.st.bk = st.bk ∧ r.st.wn = st.wn ∧ r.st.sz = st.sz
  | [], st, hs, r, he, _, _, a, hf, K, hK => by
    simp only [qListG, Option.some.injEq] at he
    subst he
    exact ⟨hK a hf, rfl, rfl, rfl⟩
  | o :: l, st, [], r, he, _, _, _, _, _, _ => by cases he
  | o :: l, st, (dec, h) :: hs, r, he, ho, hg, a, hf, K, hK => by
    simp only [qListG] at he
    split at he
    · cases he
    · rename_i r1 h1
      split at he
      · cases he
      · rename_i r2 h2
        simp only [Option.some.injEq] at he
        subst he
        obtain ⟨o1, o2⟩ := all_append ho
        obtain ⟨e1, e2, e3⟩ := qStepG_st h1
        refine qStepG_sound h1 o1 (fun e he => hg e (List.mem_append_left _ he)) hf fun a' hf' => ?_
        have h3 := qListG_sound l r1.st hs r2 h2 o2 (fun e he => hg e (List.mem_append_right _ he)) a' hf' K hK
        rw [e1, e2, e3] at h3
        exact h3
variable {body : Code} {Q : Exit → Act → World → Prop}
theorem holds_quietG {p : List Nat} {k : List KI} {st st' : St} {ob : List Prop} {rs : List (Nat × Nat × Nat)} (hs : List (Bool × QH)) (ks : List Nat)
    (hc : isDraw (getCode body p) = true) (hm : P.follows .mixedOrders = true) (hB : Region.lexB .any (opsOf (getCode body p)) = true)
    (h : Out.prune ks (qListG P n w0 S (opsOf (getCode body p)) (opsOf (getCode body p)).toList st hs) = some ⟨ob, dupR rs, st'⟩) (ho : All ob)
    (hh : ∀ sz, st.sz ≤ sz → Holds D P body n w0 S Q k ⟨st'.sl, st.bk, st.wn, sz⟩) : Holds D P body n w0 S Q (.code p :: k) st := by
  intro a w hf hmm
  obtain ⟨id, hc⟩ := draw_of hc
  generalize opsOf (getCode body p) = ops at *
  obtain ⟨r, hr, h1, h2, h3⟩ := out_prune h
  dsimp only at h1 h2 h3
  simp only [sem, hc]
  refine wp_region_quiet (C := MemC w0 S st.bk st.wn st.sz) hm hB ⟨Nat.le_of_eq hmm.size.symm, ?_⟩ ?_
  · exact ⟨rfl, hmm.blk, hmm.own, hmm.nd, hmm.kept.drew, hmm.win⟩
  · refine (qListG_sound _ st hs r hr (by rw [h1]; exact ho) (by rw [h2]; exact dupR_good rs) a hf _ fun a' hf' w' hw' => ?_).1
    refine hh w'.heap.size hw'.1 a' w' ?_ hw'.2
    rw [← h3]
    exact ⟨hf'.size, hf'.df, fun i v hi => hf'.val i v (getS_keepS ks i v hi)⟩
end
end Go.Proofs.Ytmeddeaphmpjcaa
