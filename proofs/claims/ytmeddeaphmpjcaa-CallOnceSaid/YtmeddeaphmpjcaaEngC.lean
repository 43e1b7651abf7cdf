/- The executor over code: a way through a body, as far as it is told; and what it proves. -/
import Derived.Test.YtmeddeaphmpjcaaEngB
import Derived.Deep.LoopGhost
namespace Go.Proofs.Ytmeddeaphmpjcaa
open Go.RowKit

/-- what is told of an operation: how a guard is decided; and which law: 0 the model's own run, else a law of its own (its number less one) -/
structure OH where
  dec : Bool
  ov : Nat
  hs : List MH
def oh0 : OH := ⟨false, 0, []⟩
def oh1 : OH := ⟨true, 0, []⟩
def oh2 : OH := ⟨false, 1, []⟩
def oh3 : OH := ⟨false, 2, []⟩
structure Out where
  ob : List Prop
  eqs : List ((Nat × Nat) × (Nat × Nat))
  st : St

def opExec (P : Program) (n : Nat) (o : Oper) (st : St) (h : OH) : Option Out :=
  match known st.sl o with
  | true => match h.ov with
    | 0 => match runS P st.wn (execOp (rho st.sl) o) h.hs st.bk st.sz with
      | some ⟨.value v, bk, sz, es⟩ => match putS n st.sl o.dst v with
        | some sl => some ⟨[], es, ⟨sl, bk, st.wn, sz⟩⟩
        | none => none
      | some ⟨.skip, bk, sz, es⟩ => match putS n st.sl o.dst undef with
        | some sl => some ⟨[], es, ⟨sl, bk, st.wn, sz⟩⟩
        | none => none
      | _ => none
    | k + 1 => match ov P (rho st.sl) k o.op with
      | some (v, p) => match putS n st.sl o.dst v with
        | some sl => some ⟨[p], [], { st with sl := sl }⟩
        | none => none
      | none => none
  | false => none
def opSkip (n : Nat) (o : Oper) (st : St) : Option Out :=
  match putS n st.sl o.dst undef with
  | some sl => some ⟨[], [], { st with sl := sl }⟩
  | none => none
def Out.ask (p : Prop) : Option Out → Option Out
  | some o => some { o with ob := p :: o.ob }
  | none => none
def opStep (P : Program) (n : Nat) (ops : Array Oper) (st : St) (i : Nat) (h : OH) : Option Out :=
  match ops[i]? with
  | none => none
  | some o => match o.guard with
    | none => opExec P n o st h
    | some (j, want) => match (ops[j]?).bind (·.dst) with
      | none => none
      | some t => match getS st.sl t with
        | some (.bool c) => match (h.dec == want) with
          | true => Out.ask (c = h.dec) (opExec P n o st h)
          | false => Out.ask (c = h.dec) (opSkip n o st)
        | some (.tuple _) => opSkip n o st
        | _ => none

def All : List Prop → Prop
  | [] => True
  | p :: r => p ∧ All r
theorem all_append {l r : List Prop} (h : All (l ++ r)) : All l ∧ All r := by
  induction l with
  | nil => exact ⟨trivial, h⟩
  | cons p l ih =>
    have := ih h.2
    exact ⟨⟨h.1, this.1⟩, this.2⟩

section
variable {D : List Deferred} {P : Program} {n : Nat} {w0 : World} {S : Nat → Prop} {a : Act} {w : World}
theorem opExec_sound {o : Oper} {st : St} {h : OH} {r : Out} (he : opExec P n o st h = some r) (ho : All r.ob) (hg : Good r.eqs) (hf : FrOk D n st.sl a) (hm : MemOk w0 S st.bk st.wn st.sz w)
    {K : Act → World → Prop} {Q : Exit → Act → World → Prop} (hK : ∀ a' w', FrOk D n r.st.sl a' → MemOk w0 S r.st.bk r.st.wn r.st.sz w' → K a' w') : o.wp P a w K Q := by
  unfold opExec at he
  split at he
  · rename_i hk
    have e := hf.rho hk
    split at he
    · split at he
      · rename_i v bk sz es hr
        split at he
        · rename_i sl hsl
          simp only [Option.some.injEq] at he
          subst he
          obtain ⟨w', h1, h2⟩ := runS_sound P _ _ _ _ w _ hr hg hm
          simp only [Oper.wp, e, h1, Oper.upon_value]
          exact hK _ _ (hf.put hsl) h2
        · cases he
      · rename_i bk sz es hr
        split at he
        · rename_i sl hsl
          simp only [Option.some.injEq] at he
          subst he
          obtain ⟨w', h1, h2⟩ := runS_sound P _ _ _ _ w _ hr hg hm
          simp only [Oper.wp, e, h1, Oper.upon_skip]
          exact hK _ _ (hf.put hsl) h2
        · cases he
      · cases he
    · split at he
      · rename_i v p hov
        split at he
        · rename_i sl hsl
          simp only [Option.some.injEq] at he
          subst he
          have h1 := ov_sound hov ho.1 w
          simp only [Oper.wp, e, h1, Oper.upon_value]
          exact hK _ _ (hf.put hsl) hm
        · cases he
      · cases he
  · cases he
theorem opSkip_sound {o : Oper} {st : St} {r : Out} (he : opSkip n o st = some r) (hf : FrOk D n st.sl a) : FrOk D n r.st.sl (a.put o.dst undef) ∧ r.st.bk = st.bk ∧ r.st.wn = st.wn ∧ r.st.sz = st.sz := by
  unfold opSkip at he
  split at he
  · rename_i sl hsl
    simp only [Option.some.injEq] at he
    subst he
    exact ⟨hf.put hsl, rfl, rfl, rfl⟩
  · cases he
theorem ask_some {p : Prop} {x : Option Out} {r : Out} (h : Out.ask p x = some r) : ∃ r', x = some r' ∧ r = { r' with ob := p :: r'.ob } := by
  cases x with
  | none => cases h
  | some r' => exact ⟨r', rfl, by simpa [Out.ask] using h.symm⟩
theorem opStep_sound {ops : Array Oper} {i : Nat} {st : St} {h : OH} {r : Out} (he : opStep P n ops st i h = some r) (ho : All r.ob) (hg : Good r.eqs) (hf : FrOk D n st.sl a) (hm : MemOk w0 S st.bk st.wn st.sz w)
    {K : Act → World → Prop} {Q : Exit → Act → World → Prop} (hK : ∀ a' w', FrOk D n r.st.sl a' → MemOk w0 S r.st.bk r.st.wn r.st.sz w' → K a' w') : wpOp P ops Q i K a w := by
  unfold opStep at he
  split at he
  · cases he
  · rename_i o hoi
    simp only [wpOp, hoi]
    split at he
    · rename_i hgd
      have hw : Region.wanted o (yielded ops a.tmps) = true := by simp [Region.wanted, hgd]
      rw [if_pos hw]
      exact .inl (opExec_sound he ho hg hf hm hK)
    · rename_i j want hgd
      split at he
      · cases he
      · rename_i t ht
        split at he
        · rename_i c hc
          have hy : yielded ops a.tmps j = some c := by
            have := hf.val t _ hc
            simp [yielded, ht, this]
          split at he
          · rename_i hd
            obtain ⟨r', hr', rfl⟩ := ask_some he
            have hw : Region.wanted o (yielded ops a.tmps) = true := by
              have h1 : c = h.dec := ho.1
              have h2 : h.dec = want := by simpa using hd
              simp [Region.wanted, hgd, hy, h1, h2]
            rw [if_pos hw]
            exact .inl (opExec_sound hr' ho.2 hg hf hm hK)
          · rename_i hd
            obtain ⟨r', hr', rfl⟩ := ask_some he
            have hw : ¬ Region.wanted o (yielded ops a.tmps) = true := by
              have h1 : c = h.dec := ho.1
              have h2 : ¬ h.dec = want := by simpa using hd
              simp [Region.wanted, hgd, hy, h1, h2]
            rw [if_neg hw]
            obtain ⟨g1, g2, g3, g4⟩ := opSkip_sound hr' hf
            exact hK _ _ g1 (by simp only [g2, g3, g4]; exact hm)
        · rename_i vs hc
          have hy : yielded ops a.tmps j = none := by
            have := hf.val t _ hc
            simp [yielded, ht, this]
          have hw : ¬ Region.wanted o (yielded ops a.tmps) = true := by simp [Region.wanted, hgd, hy]
          rw [if_neg hw]
          obtain ⟨g1, g2, g3, g4⟩ := opSkip_sound he hf
          exact hK _ _ g1 (by rw [g2, g3, g4]; exact hm)
        · cases he
end

/- what is left of a body -/
inductive KI where
  | code (p : List Nat)
  | ops (p : List Nat) (l : List Nat)
  | any (p : List Nat) (f : Nat) (ls : Array Bool)
  | blk (id : Nat)
  | inv (J : Act → World → Prop)

def getCode : Code → List Nat → Code
  | c, [] => c
  | .seq a b, x :: p => match x with
    | 0 => getCode a p
    | _ => getCode b p
  | .cond _ a b, x :: p => match x with
    | 0 => getCode a p
    | _ => getCode b p
  | .block _ a, _ :: p => getCode a p
  | .loop a, _ :: p => getCode a p
  | .scope a, _ :: p => getCode a p
  | .rangeFunc _ _ a b, x :: p => match x with
    | 0 => getCode a p
    | _ => getCode b p
  | _, _ => .refuse ""
def opsOf : Code → Array Oper
  | .region _ ops _ => ops
  | _ => #[]

def sem (P : Program) (body : Code) (Q : Exit → Act → World → Prop) : List KI → Exit → Act → World → Prop
  | [], e, a, w => Q e a w
  | .code p :: k, .normal, a, w => (getCode body p).wp P (sem P body Q k) a w
  | .ops p l :: k, .normal, a, w => wpOps P (opsOf (getCode body p)) (sem P body Q k) l a w
  | .any p f ls :: k, .normal, a, w => wpAny P .any (opsOf (getCode body p)) (sem P body Q k) f ls a w
  | .blk _ :: k, .normal, a, w => sem P body Q k .normal a w
  | .inv J :: _, .normal, a, w => J a w
  | .blk id :: k, .exit id', a, w => if id' = id then sem P body Q k .normal a w else sem P body Q k (.exit id') a w
  | _ :: k, .exit id', a, w => sem P body Q k (.exit id') a w
  | _ :: k, .goto l, a, w => sem P body Q k (.goto l) a w
  | _ :: k, .ret, a, w => sem P body Q k .ret a w
  | _ :: k, .panic c, a, w => sem P body Q k (.panic c) a w
  | _ :: k, .outgrown, a, w => sem P body Q k .outgrown a w

def unwindK (id : Nat) : List KI → Option (List KI)
  | [] => none
  | .blk id' :: k => match Nat.beq id id' with
    | true => some k
    | false => unwindK id k
  | .inv _ :: k => unwindK id k
  | .code _ :: k => unwindK id k
  | .ops _ _ :: k => unwindK id k
  | .any _ _ _ :: k => unwindK id k

def Holds (D : List Deferred) (P : Program) (body : Code) (n : Nat) (w0 : World) (S : Nat → Prop) (Q : Exit → Act → World → Prop) (k : List KI) (st : St) : Prop :=
  ∀ a w, FrOk D n st.sl a → MemOk w0 S st.bk st.wn st.sz w → sem P body Q k .normal a w

structure Res where
  ob : List Prop
  eqs : List ((Nat × Nat) × (Nat × Nat))
  k : List KI
  st : St
def Res.ask (p : Prop) : Option Res → Option Res
  | some r => some { r with ob := p :: r.ob }
  | none => none
def Res.more (o : Out) : Option Res → Option Res
  | some r => some { r with ob := o.ob ++ r.ob, eqs := o.eqs ++ r.eqs }
  | none => none

def exec (P : Program) (body : Code) (n : Nat) : Nat → List OH → List KI → St → Option Res
  | 0, _, k, st => some ⟨[], [], k, st⟩
  | _ + 1, _, [], st => some ⟨[], [], [], st⟩
  | f + 1, hs, .code p :: k, st =>
    match getCode body p with
    | .skip => exec P body n f hs k st
    | .seq _ _ => exec P body n f hs (.code (p ++ [0]) :: .code (p ++ [1]) :: k) st
    | .region _ ops false => exec P body n f hs (.ops p (List.range ops.size) :: k) st
    | .cond c _ _ => match hs with
      | [] => some ⟨[], [], .code p :: k, st⟩
      | h :: hs' => match opd st.sl c with
        | some (.bool b) => match h.dec with
          | true => Res.ask (b = true) (exec P body n f hs' (.code (p ++ [0]) :: k) st)
          | false => Res.ask (b = false) (exec P body n f hs' (.code (p ++ [1]) :: k) st)
        | _ => none
    | .block id _ => exec P body n f hs (.code (p ++ [0]) :: .blk id :: k) st
    | .exit id => match unwindK id k with
      | some k' => exec P body n f hs k' st
      | none => none
    | _ => some ⟨[], [], .code p :: k, st⟩
  | f + 1, hs, .blk _ :: k, st => exec P body n f hs k st
  | f + 1, hs, .ops p l :: k, st =>
    match l with
    | [] => exec P body n f hs k st
    | i :: l' => match hs with
      | [] => some ⟨[], [], .ops p l :: k, st⟩
      | h :: hs' => match opStep P n (opsOf (getCode body p)) st i h with
        | some o => Res.more o (exec P body n f hs' (.ops p l' :: k) o.st)
        | none => none
  | _ + 1, _, k, st => some ⟨[], [], k, st⟩

section
variable {D : List Deferred} {P : Program} {body : Code} {n : Nat} {w0 : World} {S : Nat → Prop} {Q : Exit → Act → World → Prop}
theorem sem_then {p : List Nat} {k : List KI} (e : Exit) (a : Act) (w : World) (h : Exit.then ((getCode body p).wp P (sem P body Q k)) (sem P body Q k) e a w) : sem P body Q (.code p :: k) e a w := by
  cases e <;> exact h
theorem then_sem {p : List Nat} {k : List KI} (e : Exit) (a : Act) (w : World) (h : sem P body Q (.code p :: k) e a w) : Exit.then ((getCode body p).wp P (sem P body Q k)) (sem P body Q k) e a w := by
  cases e <;> exact h
theorem blk_sem {id : Nat} {k : List KI} (e : Exit) (a : Act) (w : World) (h : sem P body Q (.blk id :: k) e a w) : Exit.inBlock id (sem P body Q k) e a w := by
  cases e <;> exact h
theorem sem_unwind {id : Nat} : ∀ (k k' : List KI), unwindK id k = some k' → ∀ a w, sem P body Q k' .normal a w → sem P body Q k (.exit id) a w := by
  intro k
  induction k with
  | nil => intro k' h; cases h
  | cons x k ih =>
    intro k' h a w hs
    cases x with
    | blk id' =>
      simp only [unwindK] at h
      split at h
      · rename_i he
        have he' : id = id' := Nat.eq_of_beq_eq_true he
        simp only [Option.some.injEq] at h
        subst h he'
        simpa [sem] using hs
      · rename_i he
        have he' : id ≠ id' := Nat.ne_of_beq_eq_false he
        simp only [sem, if_neg he']
        exact ih k' h a w hs
    | inv J => exact ih k' h a w hs
    | code p => exact ih k' h a w hs
    | ops p l => exact ih k' h a w hs
    | any p f ls => exact ih k' h a w hs
theorem getCode_append : ∀ (c : Code) (p q : List Nat), getCode c (p ++ q) = getCode (getCode c p) q := by
  intro c p
  induction p generalizing c with
  | nil => intro q; cases c <;> simp [getCode]
  | cons x p ih =>
    intro q
    have hr : ∀ q, getCode (.refuse "") q = .refuse "" := by intro q; cases q <;> rfl
    cases c <;> simp only [List.cons_append, getCode, hr]
    · cases x <;> exact ih _ q
    · cases x <;> exact ih _ q
    · exact ih _ q
    · exact ih _ q
    · cases x <;> exact ih _ q
    · exact ih _ q
theorem res_ask {p : Prop} {x : Option Res} {r : Res} (h : Res.ask p x = some r) : ∃ r', x = some r' ∧ r = { r' with ob := p :: r'.ob } := by
  cases x with
  | none => cases h
  | some r' => exact ⟨r', rfl, by simpa [Res.ask] using h.symm⟩
theorem res_more {o : Out} {x : Option Res} {r : Res} (h : Res.more o x = some r) : ∃ r', x = some r' ∧ r = { r' with ob := o.ob ++ r'.ob, eqs := o.eqs ++ r'.eqs } := by
  cases x with
  | none => cases h
  | some r' => exact ⟨r', rfl, by simpa [Res.more] using h.symm⟩

theorem exec_sound : ∀ (f : Nat) (hs : List OH) (k : List KI) (st : St) (r : Res), exec P body n f hs k st = some r → All r.ob → Good r.eqs → Holds D P body n w0 S Q r.k r.st → Holds D P body n w0 S Q k st := by
  intro f
  induction f with
  | zero =>
    intro hs k st r h _ _ hh
    simp only [exec, Option.some.injEq] at h
    subst h
    exact hh
  | succ f ih =>
    intro hs k st r h ho hg hh
    cases k with
    | nil =>
      simp only [exec, Option.some.injEq] at h
      subst h
      exact hh
    | cons x k =>
      cases x with
      | inv J =>
        simp only [exec, Option.some.injEq] at h
        subst h
        exact hh
      | any p g ls =>
        simp only [exec, Option.some.injEq] at h
        subst h
        exact hh
      | blk id =>
        simp only [exec] at h
        intro a w hf hm
        exact ih hs k st r h ho hg hh a w hf hm
      | ops p l =>
        simp only [exec] at h
        split at h
        · intro a w hf hm
          exact ih hs k st r h ho hg hh a w hf hm
        · rename_i i l'
          split at h
          · simp only [Option.some.injEq] at h
            subst h
            exact hh
          · rename_i h0 hs'
            split at h
            · rename_i o hop
              obtain ⟨r', hr', rfl⟩ := res_more h
              intro a w hf hm
              have ho' := all_append ho
              have h1 := ih hs' _ _ r' hr' ho'.2 (fun e he => hg e (List.mem_append_right _ he)) hh
              simp only [sem]
              rw [wpOps_cons]
              exact opStep_sound hop ho'.1 (fun e he => hg e (List.mem_append_left _ he)) hf hm (fun a' w' hf' hm' => h1 a' w' hf' hm')
            · cases h
      | code p =>
        simp only [exec] at h
        split at h
        · rename_i hc
          intro a w hf hm
          simp only [sem, hc]
          exact wp_skip (ih hs k st r h ho hg hh a w hf hm)
        · rename_i c1 c2 hc
          intro a w hf hm
          have h1 := ih hs _ st r h ho hg hh a w hf hm
          simp only [sem, getCode_append, hc, getCode] at h1
          simp only [sem, hc]
          refine wp_seq (wp_mono h1 fun e a w h2 => ?_)
          have h3 := then_sem e a w h2
          simpa only [getCode_append, hc, getCode] using h3
        · rename_i id ops hc
          intro a w hf hm
          have h1 := ih hs _ st r h ho hg hh a w hf hm
          simp only [sem, hc, opsOf] at h1
          simp only [sem, hc]
          exact wp_region h1
        · rename_i c c1 c2 hc
          split at h
          · simp only [Option.some.injEq] at h
            subst h
            exact hh
          · rename_i h0 hs'
            split at h
            · rename_i b hb
              split at h
              · obtain ⟨r', hr', rfl⟩ := res_ask h
                intro a w hf hm
                have h1 := ih hs' _ st r' hr' ho.2 hg hh a w hf hm
                simp only [sem, getCode_append, hc, getCode] at h1
                simp only [sem, hc]
                have hbt : b = true := ho.1
                subst hbt
                exact wp_cond_true (hf.eval hb) h1
              · obtain ⟨r', hr', rfl⟩ := res_ask h
                intro a w hf hm
                have h1 := ih hs' _ st r' hr' ho.2 hg hh a w hf hm
                simp only [sem, getCode_append, hc, getCode] at h1
                simp only [sem, hc]
                have hbt : b = false := ho.1
                subst hbt
                exact wp_cond_false (hf.eval hb) h1
            · cases h
        · rename_i id c hc
          intro a w hf hm
          have h1 := ih hs _ st r h ho hg hh a w hf hm
          simp only [sem, getCode_append, hc, getCode] at h1
          simp only [sem, hc]
          exact wp_block (wp_mono h1 fun e a w h2 => blk_sem e a w h2)
        · rename_i id hc
          split at h
          · rename_i k' hk
            intro a w hf hm
            have h1 := ih hs k' st r h ho hg hh a w hf hm
            simp only [sem, hc]
            exact wp_exit (sem_unwind k k' hk a w h1)
          · cases h
        · simp only [Option.some.injEq] at h
          subst h
          exact hh
end
end Go.Proofs.Ytmeddeaphmpjcaa
