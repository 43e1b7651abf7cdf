/- The executor: a region that draws its order, whose operations read, or write in one row: one walk for all orders, in a stretch and in a round. Plain lemmas; no program. -/
import Derived.Test.YtmeddeaphmpjcaaEngV
namespace Go.Proofs.Ytmeddeaphmpjcaa
open Go.RowKit

abbrev OV := List Prop × List ((Nat × Nat) × (Nat × Nat)) × Value × List Bk × Nat
def opV (P : Program) (o : Oper) (st : St) (h : OH) : Option OV :=
  match known st.sl o with
  | true => match h.ov with
    | 0 => match runS P st.wn (execOp (rho st.sl) o) h.hs st.bk st.sz with
      | some ⟨.value v, bk, sz, es⟩ => some ([], es, v, bk, sz)
      | some ⟨.skip, bk, sz, es⟩ => some ([], es, undef, bk, sz)
      | _ => none
    | k + 1 => match ov P (rho st.sl) k o.op with
      | some (v, p) => some ([p], [], v, st.bk, st.sz)
      | none => none
  | false => none
def askV (p : Prop) : Option OV → Option OV
  | some (ob, r) => some (p :: ob, r)
  | none => none
def dstOf (ops : Array Oper) (i : Nat) : Option Nat := (ops[i]?).bind (·.dst)
def opG (P : Program) (ops : Array Oper) (st : St) (i : Nat) (h : OH) : Option OV :=
  match ops[i]? with
  | none => none
  | some o => match o.guard with
    | none => opV P o st h
    | some (j, want) => match dstOf ops j with
      | none => none
      | some t => match getS st.sl t with
        | some (.bool c) => match (h.dec == want) with
          | true => askV (c = h.dec) (opV P o st h)
          | false => some ([c = h.dec], [], undef, st.bk, st.sz)
        | some (.tuple _) => some ([], [], undef, st.bk, st.sz)
        | _ => none

section
variable {D : List Deferred} {F : Fence} {m : Nat} {P : Program} {n : Nat} {w0 : World} {S : Nat → Prop} {a : Act} {w : World}
theorem opV_sound (hF : ∀ f, F.fn f) {o : Oper} {st : St} {h : OH} {ob : List Prop} {es : List ((Nat × Nat) × (Nat × Nat))} {v : Value} {bk : List Bk} {sz : Nat} (he : opV P o st h = some (ob, es, v, bk, sz)) (ho : All ob) (hg : Good es) (hf : FrOk D n st.sl a) (hm : MemOk w0 S st.bk st.wn st.sz w)
    {K : Act → World → Prop} {Q : Exit → Act → World → Prop} (hK : ∀ w', MemOk w0 S bk st.wn sz w' → K (a.put o.dst v) w') : o.wpIn F m P a w K Q := by
  refine ⟨fun f _ => hF f, ?_⟩
  unfold opV at he
  split at he
  · rename_i hk
    have e : o.semAt F.round a.eval = execOp (rho st.sl) o := by rw [Oper.semAt_eq _ _ _ (known_noDefer hk)]; exact hf.rho hk
    rw [e]
    split at he
    · split at he
      · rename_i v' bk' sz' es' hr
        simp only [Option.some.injEq, Prod.mk.injEq] at he
        obtain ⟨rfl, rfl, rfl, rfl, rfl⟩ := he
        obtain ⟨w', h1, h2⟩ := runS_sound P _ _ _ _ w _ hr hg hm
        rw [h1]
        exact hK _ h2
      · rename_i bk' sz' es' hr
        simp only [Option.some.injEq, Prod.mk.injEq] at he
        obtain ⟨rfl, rfl, rfl, rfl, rfl⟩ := he
        obtain ⟨w', h1, h2⟩ := runS_sound P _ _ _ _ w _ hr hg hm
        rw [h1]
        exact hK _ h2
      · cases he
    · split at he
      · rename_i v' p hov
        simp only [Option.some.injEq, Prod.mk.injEq] at he
        obtain ⟨rfl, rfl, rfl, rfl, rfl⟩ := he
        rw [ov_sound hov ho.1 w]
        exact hK _ hm
      · cases he
  · cases he
theorem opG_sound (hF : ∀ f, F.fn f) {ops : Array Oper} {i : Nat} {st : St} {h : OH} {ob : List Prop} {es : List ((Nat × Nat) × (Nat × Nat))} {v : Value} {bk : List Bk} {sz : Nat} (he : opG P ops st i h = some (ob, es, v, bk, sz)) (ho : All ob) (hg : Good es) (hf : FrOk D n st.sl a) (hm : MemOk w0 S st.bk st.wn st.sz w)
    {K : Act → World → Prop} {Q : Exit → Act → World → Prop} (hK : ∀ w', MemOk w0 S bk st.wn sz w' → K (a.put (dstOf ops i) v) w') : wpOpIn F m P ops Q i K a w := by
  unfold opG at he
  split at he
  · cases he
  · rename_i o hoi
    have hd : dstOf ops i = o.dst := by simp [dstOf, hoi]
    rw [hd] at hK
    simp only [wpOpIn, hoi]
    split at he
    · rename_i hgd
      have hw : Region.wanted o (yielded ops a.tmps) = true := by simp [Region.wanted, hgd]
      rw [if_pos hw]
      exact opV_sound hF he ho hg hf hm hK
    · rename_i j want hgd
      split at he
      · cases he
      · rename_i t ht
        have ht' : (ops[j]?).bind (·.dst) = some t := ht
        split at he
        · rename_i c hc
          have hy : yielded ops a.tmps j = some c := by
            have := hf.val t _ hc
            simp [yielded, ht', this]
          split at he
          · rename_i hd
            cases hx : opV P o st h with
            | none => rw [hx] at he; cases he
            | some r =>
              obtain ⟨ob', r'⟩ := r
              rw [hx] at he
              simp only [askV, Option.some.injEq, Prod.mk.injEq] at he
              obtain ⟨rfl, rfl⟩ := he
              have hw : Region.wanted o (yielded ops a.tmps) = true := by
                have h1 : c = h.dec := ho.1
                have h2 : h.dec = want := by simpa using hd
                simp [Region.wanted, hgd, hy, h1, h2]
              rw [if_pos hw]
              exact opV_sound hF hx ho.2 hg hf hm hK
          · rename_i hd
            simp only [Option.some.injEq, Prod.mk.injEq] at he
            obtain ⟨rfl, rfl, rfl, rfl, rfl⟩ := he
            have hw : ¬ Region.wanted o (yielded ops a.tmps) = true := by
              have h1 : c = h.dec := ho.1
              have h2 : ¬ h.dec = want := by simpa using hd
              simp [Region.wanted, hgd, hy, h1, h2]
            rw [if_neg hw]
            exact ⟨fun f _ => hF f, hK _ hm⟩
        · rename_i vs hc
          have hy : yielded ops a.tmps j = none := by
            have := hf.val t _ hc
            simp [yielded, ht', this]
          have hw : ¬ Region.wanted o (yielded ops a.tmps) = true := by simp [Region.wanted, hgd, hy]
          rw [if_neg hw]
          simp only [Option.some.injEq, Prod.mk.injEq] at he
          obtain ⟨rfl, rfl, rfl, rfl, rfl⟩ := he
          exact ⟨fun f _ => hF f, hK _ hm⟩
        · cases he
end

/- all orders -/
def needsOf (ops : Array Oper) (i : Nat) : List Nat :=
  match ops[i]? with
  | some o => (o.after.toList.filter (Region.binds .any ·)).map (·.on)
  | none => []
def slB (ops : Array Oper) (vs : List Value) (sl0 : List (Nat × Value)) : List Nat → List (Nat × Value)
  | [] => sl0
  | k :: l => match dstOf ops k, vs[k]? with
    | some d, some v => (d, v) :: slB ops vs sl0 l
    | _, _ => slB ops vs sl0 l
def nodupN : List Nat → Bool
  | [] => true
  | x :: l => !l.any (Nat.beq x) && nodupN l
def stgOf (stg : List (Option Nat)) (i : Nat) : Option Nat := (stg[i]?).bind id
def eqO (x : Option Nat) (s : Nat) : Bool := match x with
  | some t => Nat.beq t s
  | none => false
def mixChk (n : Nat) (ops : Array Oper) (sl0 : List (Nat × Value)) (nv J : Nat) (stg : List (Option Nat)) : Bool :=
  nodupN (ops.toList.filterMap (·.dst)) && (ops.toList.filterMap (·.dst)).all (fun d => Nat.blt d n && !(sl0.any fun x => Nat.beq x.1 d)) && Nat.beq nv ops.size && Nat.beq stg.length ops.size
    && (List.range ops.size).all (fun i => (needsOf ops i).all (Nat.blt · i))
    && (List.range ops.size).all (fun i => match stgOf stg i with
      | none => true
      | some s => Nat.blt s J && (Nat.beq s 0 || (needsOf ops i).any (fun k => eqO (stgOf stg k) (s - 1))) && (List.range ops.size).all (fun k => !eqO (stgOf stg k) s || Nat.beq k i))
    && (Nat.beq J 0 || (List.range ops.size).any (fun i => eqO (stgOf stg i) (J - 1)))
def mixEnt (P : Program) (ops : Array Oper) (sl0 : List (Nat × Value)) (vs : List Value) (ms : List (List Bk)) (wn : List Wn) (sz : Nat) (stg : List (Option Nat)) (hs : List OH) (i j : Nat) : Option OV :=
  match stgOf stg i, hs[i]?, ms[j]? with
  | none, some h, some bk => opG P ops ⟨slB ops vs sl0 (needsOf ops i), bk, wn, sz⟩ i h
  | some s, some h, some bk => match Nat.beq j s with
    | true => opG P ops ⟨slB ops vs sl0 (needsOf ops i), bk, wn, sz⟩ i h
    | false => none
  | _, _, _ => none
def mixExp (vs : List Value) (ms : List (List Bk)) (sz : Nat) (stg : List (Option Nat)) (obs : List (List Prop)) (rss : List (List (Nat × Nat × Nat))) (i j : Nat) : Option OV :=
  match stgOf stg i, vs[i]?, obs[i]?, rss[i]? with
  | none, some v, some ob, some rs => match ms[j]? with
    | some bk => some (ob, dupR rs, v, bk, sz)
    | none => none
  | some s, some v, some ob, some rs => match Nat.beq j s, ms[j + 1]? with
    | true, some bk => some (ob, dupR rs, v, bk, sz)
    | _, _ => none
  | _, _, _, _ => none
def mixL (f : Nat → Nat → Option OV) (N J : Nat) : List (List (Option OV)) := (List.range N).map fun i => (List.range (J + 1)).map fun j => f i j
def MixOk (P : Program) (ops : Array Oper) (sl0 : List (Nat × Value)) (vs : List Value) (ms : List (List Bk)) (wn : List Wn) (sz : Nat) (stg : List (Option Nat)) (hs : List OH) (obs : List (List Prop)) (rss : List (List (Nat × Nat × Nat))) (J : Nat) : Prop := mixL (mixEnt P ops sl0 vs ms wn sz stg hs) ops.size J = mixL (mixExp vs ms sz stg obs rss) ops.size J
theorem mixL_eq {f g : Nat → Nat → Option OV} {N J : Nat} (h : mixL f N J = mixL g N J) {i j : Nat} (hi : i < N) (hj : j ≤ J) : f i j = g i j := by
  have h1 := congrArg (fun l => l[i]?) h
  simp only [mixL, List.getElem?_map, List.getElem?_range hi, Option.map_some, Option.some.injEq] at h1
  have h2 := congrArg (fun l => l[j]?) h1
  simpa only [List.getElem?_map, List.getElem?_range (show j < J + 1 by omega), Option.map_some, Option.some.injEq] using h2

section
variable {D : List Deferred} {F : Fence} {m : Nat} {P : Program} {n : Nat} {w0 : World} {S : Nat → Prop}
theorem nodupN_get : ∀ {l : List Nat}, nodupN l = true → ∀ {i j x : Nat}, l[i]? = some x → l[j]? = some x → i = j
  | [], _, i, j, x, hi, _ => by simp at hi
  | y :: l, h, i, j, x, hi, hj => by
    simp only [nodupN, Bool.and_eq_true, Bool.not_eq_true', List.any_eq_false] at h
    cases i <;> cases j
    · rfl
    · rename_i j
      simp only [List.getElem?_cons_zero, Option.some.injEq] at hi
      simp only [List.getElem?_cons_succ] at hj
      subst hi
      exact absurd (Nat.beq_refl _) (h.1 y (List.mem_of_getElem? hj))
    · rename_i i
      simp only [List.getElem?_cons_zero, Option.some.injEq] at hj
      simp only [List.getElem?_cons_succ] at hi
      subst hj
      exact absurd (Nat.beq_refl _) (h.1 y (List.mem_of_getElem? hi))
    · simp only [List.getElem?_cons_succ] at hi hj
      rw [nodupN_get h.2 hi hj]
theorem filterMap_dst : ∀ {l : List Oper}, nodupN (l.filterMap (·.dst)) = true → ∀ {i j : Nat} {o o' : Oper} {d : Nat}, l[i]? = some o → l[j]? = some o' → o.dst = some d → o'.dst = some d → i = j
  | [], _, i, j, o, o', d, hi, _, _, _ => by simp at hi
  | y :: l, h, i, j, o, o', d, hi, hj, ho, ho' => by
    have hin : ∀ {k : Nat} {q : Oper}, l[k]? = some q → q.dst = some d → d ∈ l.filterMap (·.dst) := fun hk hq => List.mem_filterMap.2 ⟨_, List.mem_of_getElem? hk, hq⟩
    have htail : nodupN (l.filterMap (·.dst)) = true := by
      cases hy : y.dst with
      | none => simpa [List.filterMap_cons, hy] using h
      | some e =>
        rw [List.filterMap_cons_some hy] at h
        simp only [nodupN, Bool.and_eq_true] at h
        exact h.2
    have hhead : y.dst = some d → d ∉ l.filterMap (·.dst) := fun hy hd => by
      rw [List.filterMap_cons_some hy] at h
      simp only [nodupN, Bool.and_eq_true, Bool.not_eq_true', List.any_eq_false] at h
      exact absurd (Nat.beq_refl _) (h.1 d hd)
    cases i <;> cases j
    · rfl
    · simp only [List.getElem?_cons_zero, Option.some.injEq] at hi
      simp only [List.getElem?_cons_succ] at hj
      subst hi
      exact absurd (hin hj ho') (hhead ho)
    · simp only [List.getElem?_cons_zero, Option.some.injEq] at hj
      simp only [List.getElem?_cons_succ] at hi
      subst hj
      exact absurd (hin hi ho) (hhead ho')
    · simp only [List.getElem?_cons_succ] at hi hj
      rw [filterMap_dst htail hi hj ho ho']
structure MixI (D : List Deferred) (n : Nat) (ops : Array Oper) (sl0 : List (Nat × Value)) (vs : List Value) (stg : List (Option Nat)) (J : Nat) (ls : Array Bool) (j : Nat) (a : Act) : Prop where
  base : FrOk D n sl0 a
  size : ls.size = ops.size
  vals : ∀ i d v, ls.getD i false = true → dstOf ops i = some d → vs[i]? = some v → a.tmps[d]? = some v
  stage : ∀ i s, stgOf stg i = some s → (ls.getD i false = true ↔ s < j)
  le : j ≤ J
theorem mixI_slB {ops : Array Oper} {sl0 : List (Nat × Value)} {vs : List Value} {stg : List (Option Nat)} {J j : Nat} {ls : Array Bool} {a : Act} (h : MixI D n ops sl0 vs stg J ls j a) :
    ∀ (l : List Nat), (∀ k ∈ l, ls.getD k false = true) → FrOk D n (slB ops vs sl0 l) a
  | [], _ => h.base
  | k :: l, hl => by
    have ih := mixI_slB h l (fun x hx => hl x (List.mem_cons_of_mem _ hx))
    simp only [slB]
    split
    · rename_i d v hd hv
      refine ⟨ih.size, ih.df, fun i u hi => ?_⟩
      simp only [getS] at hi
      split at hi
      · rename_i he
        have he' : d = i := Nat.eq_of_beq_eq_true he
        subst he'
        simp only [Option.some.injEq] at hi
        subst hi
        exact h.vals k d v (hl k (List.mem_cons_self ..)) hd hv
      · exact ih.val i u hi
    · exact ih
theorem getD_of_false {ls : Array Bool} {i : Nat} (h : ls.getD i true = false) : i < ls.size ∧ ls[i]? = some false := by
  rcases Nat.lt_or_ge i ls.size with h' | h'
  · refine ⟨h', ?_⟩
    rw [Array.getElem?_eq_getElem h']
    simpa [Array.getD, h'] using h
  · simp [Array.getD, Nat.not_lt.2 h'] at h
theorem count_set {ls : Array Bool} {i : Nat} (h : ls[i]? = some false) : (ls.setIfInBounds i true).toList.count false + 1 = ls.toList.count false := by
  have hi := (Array.getElem?_eq_some_iff.1 h).1
  have hv := (Array.getElem?_eq_some_iff.1 h).2
  have hl : i < ls.toList.length := by simpa using hi
  have e : (ls.setIfInBounds i true).toList = ls.toList.set i true := by simp
  rw [e, List.count_set hl]
  have hv' : ls.toList[i] = false := by simpa using hv
  have hpos : 0 < ls.toList.count false := List.count_pos_iff.2 (hv' ▸ List.getElem_mem hl)
  rw [hv']
  simp only [beq_self_eq_true, if_true]
  have e2 : (true == false) = false := rfl
  rw [e2]
  simp only [Bool.false_eq_true, if_false]
  omega
theorem anyMix (hF : ∀ f, F.fn f) {ops : Array Oper} {sl0 : List (Nat × Value)} {vs : List Value} {ms : List (List Bk)} {wn : List Wn} {sz : Nat} {stg : List (Option Nat)} {hs : List OH} {obs : List (List Prop)} {rss : List (List (Nat × Nat × Nat))} {J : Nat} {Q : Exit → Act → World → Prop}
    (hc : mixChk n ops sl0 vs.length J stg = true) (hrun : mixL (mixEnt P ops sl0 vs ms wn sz stg hs) ops.size J = mixL (mixExp vs ms sz stg obs rss) ops.size J) (hJ : ms.length = J + 1) (hlo : obs.length = ops.size) (hlr : rss.length = ops.size) (ho : ∀ ob ∈ obs, All ob)
    (hQ : ∀ a w bk, ms[J]? = some bk → FrOk D n (slB ops vs sl0 (List.range ops.size)) a → MemOk w0 S bk wn sz w → Q .normal a w) :
    ∀ (f : Nat) (ls : Array Bool) (j : Nat) (a : Act) (w : World) (bk : List Bk), ls.toList.count false ≤ f → MixI D n ops sl0 vs stg J ls j a → ms[j]? = some bk → MemOk w0 S bk wn sz w → wpAnyIn F m P .any ops Q f ls a w := by
  simp only [mixChk, Bool.and_eq_true] at hc
  obtain ⟨⟨⟨⟨⟨⟨c1, c2⟩, c3⟩, c7⟩, c4⟩, c5⟩, c6⟩ := hc
  have hvs : vs.length = ops.size := Nat.eq_of_beq_eq_true c3
  rw [List.all_eq_true] at c2 c4 c5
  have hlow : ∀ i, i < ops.size → ∀ k ∈ needsOf ops i, k < i := fun i hi k hk => by
    have := List.all_eq_true.1 (c4 i (List.mem_range.2 hi)) k hk
    simpa [Nat.blt_eq] using this
  have hready : ∀ (ls : Array Bool) (i : Nat), i ∈ Region.ready .any ops ls ↔ ls.getD i true = false ∧ i < ops.size ∧ ∀ k ∈ needsOf ops i, ls.getD k false = true := by
    intro ls i
    rw [mem_ready]
    constructor
    · rintro ⟨h0, o, hoi, h1⟩
      refine ⟨h0, (Array.getElem?_eq_some_iff.1 hoi).1, fun k hk => ?_⟩
      simp only [needsOf, hoi, List.mem_map, List.mem_filter] at hk
      obtain ⟨e, ⟨he, hb⟩, rfl⟩ := hk
      exact h1 e (by simpa using he) hb
    · rintro ⟨h0, h1, h2⟩
      refine ⟨h0, ops[i], Array.getElem?_eq_getElem h1, fun e he hb => h2 _ ?_⟩
      simp only [needsOf, Array.getElem?_eq_getElem h1, List.mem_map, List.mem_filter]
      exact ⟨e, ⟨by simpa using he, hb⟩, rfl⟩
  -- where nothing is ready, all has come up
  have hall : ∀ (ls : Array Bool), ls.size = ops.size → Region.ready .any ops ls = [] → ∀ i, i < ops.size → ls.getD i false = true := by
    intro ls hsz hr i
    induction i using Nat.strongRecOn with
    | _ i ih =>
      intro hi
      cases hv : ls.getD i false with
      | true => rfl
      | false =>
        have h0 : ls.getD i true = false := by simpa [Array.getD, hsz, hi] using hv
        have : i ∈ Region.ready .any ops ls := (hready ls i).2 ⟨h0, hi, fun k hk => ih k (hlow i hi k hk) (Nat.lt_trans (hlow i hi k hk) hi)⟩
        rw [hr] at this
        cases this
  have hfin : ∀ (ls : Array Bool) (j : Nat) (a : Act) (w : World) (bk : List Bk), Region.ready .any ops ls = [] → MixI D n ops sl0 vs stg J ls j a → ms[j]? = some bk → MemOk w0 S bk wn sz w → Q .normal a w := by
    intro ls j a w bk hr hI hb hm
    have hA := hall ls hI.size hr
    have hjJ : j = J := by
      rcases Nat.eq_zero_or_pos J with h0 | hpos
      · have := hI.le
        omega
      · simp only [Bool.or_eq_true, List.any_eq_true] at c6
        rcases c6 with c6 | ⟨i, hi, hs⟩
        · have := Nat.eq_of_beq_eq_true c6
          omega
        · have hi' := List.mem_range.1 hi
          unfold eqO at hs
          split at hs
          · rename_i t ht
            have e := Nat.eq_of_beq_eq_true hs
            subst e
            have := (hI.stage i _ ht).1 (hA i hi')
            have := hI.le
            omega
          · cases hs
    subst hjJ
    exact hQ a w bk hb (mixI_slB hI _ fun k hk => hA k (List.mem_range.1 hk)) hm
  intro f
  induction f with
  | zero =>
    intro ls j a w bk hcnt hI hb hm
    have hr : Region.ready .any ops ls = [] := by
      rw [List.eq_nil_iff_forall_not_mem]
      intro i hi
      have h1 := getD_of_false ((hready ls i).1 hi).1
      have := count_set h1.2
      omega
    exact ⟨hr, hfin ls j a w bk hr hI hb hm⟩
  | succ f ih =>
    intro ls j a w bk hcnt hI hb hm
    refine ⟨fun hr => hfin ls j a w bk hr hI hb hm, fun i hi => ?_⟩
    obtain ⟨h0, hi', hneed⟩ := (hready ls i).1 hi
    obtain ⟨_, hls⟩ := getD_of_false h0
    have hcnt' := count_set hls
    have hoi : ops[i]? = some ops[i] := Array.getElem?_eq_getElem hi'
    have hsl := mixI_slB hI (needsOf ops i) hneed
    have hE := mixL_eq hrun hi' hI.le
    have hvi : vs[i]? = some vs[i] := List.getElem?_eq_getElem (by omega)
    have hob : obs[i]? = some obs[i] := List.getElem?_eq_getElem (by omega)
    have hrs : rss[i]? = some rss[i] := List.getElem?_eq_getElem (by omega)
    -- the new knowledge, at whatever stage
    have hnew : ∀ j', j' ≤ J → (∀ k s, stgOf stg k = some s → ((ls.setIfInBounds i true).getD k false = true ↔ s < j')) → MixI D n ops sl0 vs stg J (ls.setIfInBounds i true) j' (a.put (dstOf ops i) vs[i]) := by
      intro j' hle hst
      refine ⟨?_, by simp [hI.size], fun k d v hk hd hv => ?_, hst, hle⟩
      · cases hdi : dstOf ops i with
        | none => exact hI.base
        | some d =>
          have hd' : ops[i].dst = some d := by simpa [dstOf, hoi] using hdi
          have hmem : d ∈ ops.toList.filterMap (·.dst) := List.mem_filterMap.2 ⟨ops[i], by simp, hd'⟩
          have h3 := c2 d hmem
          simp only [Bool.and_eq_true, Bool.not_eq_true', List.any_eq_false] at h3
          refine ⟨by simp [Act.put, hI.base.size], hI.base.df, fun k v hk => ?_⟩
          have hne : d ≠ k := by
            rintro rfl
            have : ∀ (sl : List (Nat × Value)), getS sl d = some v → ∃ x ∈ sl, Nat.beq x.1 d = true := by
              intro sl
              induction sl with
              | nil => intro h; cases h
              | cons x sl ih2 =>
                intro h
                obtain ⟨y, u⟩ := x
                simp only [getS] at h
                split at h
                · rename_i he
                  exact ⟨_, List.mem_cons_self .., he⟩
                · obtain ⟨x, hx, hx2⟩ := ih2 h
                  exact ⟨x, List.mem_cons_of_mem _ hx, hx2⟩
            obtain ⟨x, hx, hx2⟩ := this sl0 hk
            exact h3.2 x hx hx2
          simp only [Act.put]
          rw [Array.getElem?_setIfInBounds_ne hne]
          exact hI.base.val k v hk
      · by_cases hik : k = i
        · subst hik
          rw [hd]
          have hv' : v = vs[k] := by
            rw [hvi] at hv
            exact (Option.some.inj hv).symm
          subst hv'
          have hd' : ops[k].dst = some d := by simpa [dstOf, hoi] using hd
          have hmem : d ∈ ops.toList.filterMap (·.dst) := List.mem_filterMap.2 ⟨ops[k], by simp, hd'⟩
          have h3 := c2 d hmem
          simp only [Bool.and_eq_true] at h3
          have hlt : d < n := by simpa [Nat.blt_eq] using h3.1
          have hs := hI.base.size
          simp [Act.put, hs, hlt]
        · have hk' : ls.getD k false = true := by rwa [getD_set_ne false (Ne.symm hik)] at hk
          have h4 := hI.vals k d v hk' hd hv
          cases hdi : dstOf ops i with
          | none => exact h4
          | some e =>
            have hne : e ≠ d := by
              rintro rfl
              have hkl : k < ops.size := by
                unfold dstOf at hd
                rcases Nat.lt_or_ge k ops.size with h' | h'
                · exact h'
                · rw [Array.getElem?_eq_none h'] at hd
                  cases hd
              have h5 : ops[k].dst = some e := by simpa [dstOf, Array.getElem?_eq_getElem hkl] using hd
              have h6 : ops[i].dst = some e := by simpa [dstOf, hoi] using hdi
              exact hik (filterMap_dst c1 (by simp [Array.getElem?_eq_getElem hkl]) (by simp [hoi]) h5 h6)
            simp only [Act.put]
            rw [Array.getElem?_setIfInBounds_ne hne]
            exact h4
    have hsame : stgOf stg i = none → ∀ k s, stgOf stg k = some s → ((ls.setIfInBounds i true).getD k false = true ↔ s < j) := by
      intro hn k s hk
      have hik : i ≠ k := by
        rintro rfl
        rw [hn] at hk
        cases hk
      rw [getD_set_ne false hik]
      exact hI.stage k s hk
    unfold mixEnt mixExp at hE
    cases hst : stgOf stg i with
    | none =>
      rw [hst, hvi, hob, hrs, hb] at hE
      simp only at hE
      cases hh : hs[i]? with
      | none => rw [hh] at hE; cases hE
      | some h =>
        rw [hh] at hE
        exact opG_sound hF hE (ho _ (List.getElem_mem _)) (dupR_good _) hsl hm (fun w' hm' => ih _ j _ w' bk (by omega) (hnew j hI.le (hsame hst)) hb hm')
    | some s =>
      have h5 := c5 i (List.mem_range.2 hi')
      rw [hst] at h5
      simp only [Bool.and_eq_true, Bool.or_eq_true, List.any_eq_true, List.all_eq_true] at h5
      obtain ⟨⟨h51, h52⟩, h53⟩ := h5
      have hsJ : s < J := by simpa [Nat.blt_eq] using h51
      have hge : ¬ s < j := by
        rw [← hI.stage i s hst]
        simp [Array.getD, hI.size, hi']
        simpa [Array.getElem?_eq_some_iff, hI.size, hi'] using hls
      have hle : s ≤ j := by
        rcases h52 with h52 | ⟨k, hk, hk2⟩
        · have := Nat.eq_of_beq_eq_true h52
          omega
        · unfold eqO at hk2
          split at hk2
          · rename_i t ht
            have e := Nat.eq_of_beq_eq_true hk2
            subst e
            have := (hI.stage k _ ht).1 (hneed k hk)
            omega
          · cases hk2
      obtain rfl : s = j := by omega
      have hb' : ms[s + 1]? = some ms[s + 1] := List.getElem?_eq_getElem (by omega)
      rw [hst, hvi, hob, hrs, hb] at hE
      simp only [Nat.beq_refl, hb'] at hE
      cases hh : hs[i]? with
      | none => rw [hh] at hE; cases hE
      | some h =>
        simp only [hh, Nat.beq_refl] at hE
        refine opG_sound hF hE (ho _ (List.getElem_mem _)) (dupR_good _) hsl hm (fun w' hm' => ih _ (s + 1) _ w' _ (by omega) (hnew (s + 1) (by omega) fun k t hk => ?_) hb' hm')
        by_cases hik : i = k
        · subst hik
          rw [hst] at hk
          cases hk
          simp [Array.getD, hI.size, hi']
        · rw [getD_set_ne false hik, hI.stage k t hk]
          have hne : t ≠ s := by
            rintro rfl
            have hkl : k < ops.size := by
              have hl := Nat.eq_of_beq_eq_true c7
              rcases Nat.lt_or_ge k ops.size with h' | h'
              · exact h'
              · unfold stgOf at hk
                rw [List.getElem?_eq_none (by omega)] at hk
                cases hk
            have := h53 k (List.mem_range.2 hkl)
            simp only [eqO, hk, Nat.beq_refl, Bool.not_true] at this
            exact hik (Nat.eq_of_beq_eq_true (by simpa using this)).symm
          omega
theorem mixI_start {ops : Array Oper} {sl0 : List (Nat × Value)} {vs : List Value} {stg : List (Option Nat)} {J : Nat} {a : Act} (h : FrOk D n sl0 a) : MixI D n ops sl0 vs stg J (Array.replicate ops.size false) 0 a := by
  have e : ∀ i, (Array.replicate ops.size false).getD i false = false := fun i => by
    simp only [Array.getD]
    split
    · simp
    · rfl
  exact ⟨h, by simp, fun i d v hi => (by rw [e] at hi; cases hi), fun i s _ => (by rw [e]; exact ⟨fun h => (by cases h), fun h => (by omega)⟩), Nat.zero_le _⟩
theorem all_map {l : List (List Prop)} : All (l.map All) → ∀ ob ∈ l, All ob := by
  induction l with
  | nil => intro _ ob h; cases h
  | cons x l ih =>
    intro h ob hob
    rcases List.mem_cons.1 hob with rfl | hob
    · exact h.1
    · exact ih h.2 ob hob
theorem holdsR_mix (hF : ∀ f, F.fn f) {body : Code} {Q : Exit → Act → World → Prop} {p : List Nat} {k : List KI} {st : St} {vs : List Value} {ms : List (List Bk)} {stg : List (Option Nat)} {hs : List OH} {obs : List (List Prop)} {rss : List (List (Nat × Nat × Nat))} {J : Nat} (ks : List Nat) {sl' : List (Nat × Value)} {bk' : List Bk}
    (hc : isDraw (getCode body p) = true) (hmx : P.follows .mixedOrders = true) (h1 : mixChk n (opsOf (getCode body p)) st.sl vs.length J stg = true)
    (h2 : mixL (mixEnt P (opsOf (getCode body p)) st.sl vs ms st.wn st.sz stg hs) (opsOf (getCode body p)).size J = mixL (mixExp vs ms st.sz stg obs rss) (opsOf (getCode body p)).size J)
    (h3 : ms.length = J + 1 ∧ obs.length = (opsOf (getCode body p)).size ∧ rss.length = (opsOf (getCode body p)).size) (ho : All (obs.map All)) (h0 : ms[0]? = some st.bk) (hJ : ms[J]? = some bk')
    (hsl : keepS (slB (opsOf (getCode body p)) vs st.sl (List.range (opsOf (getCode body p)).size)) ks = sl')
    (hh : HoldsR F m D P body n w0 S Q k ⟨sl', bk', st.wn, st.sz⟩) : HoldsR F m D P body n w0 S Q (.code p :: k) st := by
  intro a w hf hm
  obtain ⟨id, hc⟩ := draw_of hc
  subst hsl
  simp only [semR]
  rw [hc]
  refine wpIn_region_any hmx ?_
  refine anyMix hF h1 h2 h3.1 h3.2.1 h3.2.2 (all_map ho) ?_ _ _ 0 a _ st.bk (by simp) (mixI_start hf) h0 ⟨hm.size, hm.blk, hm.own, hm.nd, hm.kept.drew, hm.win⟩
  intro a' w' bk hb hf' hm'
  rw [hJ] at hb
  cases hb
  exact hh a' w' ⟨hf'.size, hf'.df, fun i v hi => hf'.val i v (getS_keepS ks i v hi)⟩ hm'
theorem holds_mix {body : Code} {Q : Exit → Act → World → Prop} {p : List Nat} {k : List KI} {st : St} {vs : List Value} {ms : List (List Bk)} {stg : List (Option Nat)} {hs : List OH} {obs : List (List Prop)} {rss : List (List (Nat × Nat × Nat))} {J : Nat} (ks : List Nat) {sl' : List (Nat × Value)} {bk' : List Bk}
    (hc : isDraw (getCode body p) = true) (hmx : P.follows .mixedOrders = true) (h1 : mixChk n (opsOf (getCode body p)) st.sl vs.length J stg = true)
    (h2 : mixL (mixEnt P (opsOf (getCode body p)) st.sl vs ms st.wn st.sz stg hs) (opsOf (getCode body p)).size J = mixL (mixExp vs ms st.sz stg obs rss) (opsOf (getCode body p)).size J)
    (h3 : ms.length = J + 1 ∧ obs.length = (opsOf (getCode body p)).size ∧ rss.length = (opsOf (getCode body p)).size) (ho : All (obs.map All)) (h0 : ms[0]? = some st.bk) (hJ : ms[J]? = some bk')
    (hsl : keepS (slB (opsOf (getCode body p)) vs st.sl (List.range (opsOf (getCode body p)).size)) ks = sl')
    (hh : Holds D P body n w0 S Q k ⟨sl', bk', st.wn, st.sz⟩) : Holds D P body n w0 S Q (.code p :: k) st := by
  intro a w hf hm
  obtain ⟨id, hc⟩ := draw_of hc
  subst hsl
  simp only [sem]
  rw [hc]
  refine (wpIn_wide (n := 5)).1 (wpIn_region_any hmx ?_)
  refine anyMix (fun _ => trivial) h1 h2 h3.1 h3.2.1 h3.2.2 (all_map ho) ?_ _ _ 0 a _ st.bk (by simp) (mixI_start hf) h0 ⟨hm.size, hm.blk, hm.own, hm.nd, hm.kept.drew, hm.win⟩
  intro a' w' bk hb hf' hm'
  rw [hJ] at hb
  cases hb
  exact hh a' w' ⟨hf'.size, hf'.df, fun i v hi => hf'.val i v (getS_keepS ks i v hi)⟩ hm'
end
end Go.Proofs.Ytmeddeaphmpjcaa
