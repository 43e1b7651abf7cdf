/- The executor: an append in a drawn region, whose slice is used behind it. Plain lemmas; no program. -/
import Derived.Test.YtmeddeaphmpjcaaEngJ
import Derived.Test.YtmeddeaphmpjcaaOwnR
import Derived.ArgAppend
namespace Go.Proofs.Ytmeddeaphmpjcaa
open Go.RowKit

/-- what was laid into a new block (operation kb), and a full slice with it behind (operations ki, kj) -/
def CApp (kb ki kj z0 L : Nat) (l : List Value) (e : TypeId) (z N : Nat) (cs : List Value) : Nat → Value → World → Prop := fun k v w =>
  CBlk kb z0 e L l k v w ∨ ((k = ki ∨ k = kj) ∧ ∃ g c, v = .slice (some ⟨g, 0, none⟩) N c ∧ z0 ≤ g ∧ OwnR w z0 e z (some ⟨g, 0, none⟩) N c cs)
theorem capp_stable {kb ki kj z0 L : Nat} {l : List Value} {e : TypeId} {z N : Nat} {cs : List Value} {bk : List Bk} (hz : ∀ b ∈ bk, b.g < z0) : ∀ k v w w', CApp kb ki kj z0 L l e z N cs k v w → Kept (Turned bk) w w' → CApp kb ki kj z0 L l e z N cs k v w' :=
  fun k v w w' h hk => h.imp (fun h => cblk_stable hz k v w w' h hk) (fun ⟨h1, g, c, h2, h3, h4⟩ => ⟨h1, g, c, h2, h3, h4.kept hk (fun x ⟨a, ha, hx⟩ ⟨b, hb, _, he⟩ => by
    simp only [Option.some.injEq] at ha
    subst ha
    have := hz b hb
    simp only at hx
    omega)⟩)
section
variable {P : Program} {D : List Deferred} {body : Code} {n : Nat} {w0 : World} {S : Nat → Prop} {Q : Exit → Act → World → Prop}
variable {ops : Array Oper} {sl0 : List (Nat × Value)} {vs : List (Option Value)} {ms : List (List Bk)} {wn : List Wn} {z0 : Nat} {stg : List (Option Nat)} {J : Nat}
theorem cert_newK {bk0 : List Bk} (hrow : rowsOf ms = List.replicate (J + 1) (bk0.map fun x => (x.g, x.rw))) {i ki kj : Nat} {h : OH} {ob : List Prop} {rs : List (Nat × Nat × Nat)} {e L z N : Nat} {l cs : List Value} (hs : stgOf stg i = none) (hv : vkOf vs i = none)
    (he : ∀ sz, (List.range (J + 1)).map (regEnt P ops sl0 vs ms wn sz i h) = (List.range (J + 1)).map (fun j => (ms[j]?).map fun bk => (ob, dupR rs, Value.slice (some ⟨sz, 0, none⟩) L L, bk ++ [⟨sz, e, true, l⟩], sz + 1))) (ho : All ob) :
    CertG (wpOp P ops Q) D n ops sl0 stg J (MG w0 S ms wn z0) (Turned bk0) (PvG vs (CApp i ki kj z0 L l e z N cs)) i := by
  intro j a w K hj _ _ hf hk hm hK
  obtain ⟨bk, hb, hz, hM⟩ := hm
  have h1 := congrArg (fun l => l[j]?) (he w.heap.size)
  simp only [List.getElem?_map, List.getElem?_range (show j < J + 1 by omega), Option.map_some, Option.some.injEq, regEnt, hb] at h1
  have hT := turned_same (rows_at hrow hb)
  refine opG_soundW (w0 := w) (S := Turned bk) h1 ho (dupR_good _) (knows_slG hf _ hk) hM.again (fun w' hm' => ?_)
  have hB := hm'.blk ⟨w.heap.size, e, true, l⟩ (by simp)
  have hm3 := hm'.less
  have hm2 : MemOk w (Turned bk) bk wn w'.heap.size w' := by rw [hm'.size]; exact hm3
  refine hK _ w' ?_ (hT ▸ hm'.kept) ⟨bk, ?_, Nat.le_trans hz hm'.kept.size, hM.onto hm2 rfl⟩
  · simp only [PvG, hv]
    exact .inl ⟨rfl, _, hz, rfl, hB⟩
  · unfold nextG
    rw [hs]
    exact hb
/-- the append: the old slice is full -/
theorem cert_app {bk0 : List Bk} {i kj k0 k d0 d q g0 n0 L z by_ : Nat} {t ty e e0 : TypeId} {rw0 : Bool} {cs0 l : List Value} {zv : Value} (hn0 : k0 ∈ needsOf ops i) (hd0 : dstOf ops k0 = some d0) (hv0 : vkOf vs k0 = some (.slice (some ⟨g0, 0, none⟩) n0 n0))
    (hn : k ∈ needsOf ops i) (hd : dstOf ops k = some d) (hvk : vkOf vs k = none) (hki : k ≠ i ∧ k ≠ kj) (hs : stgOf stg i = none) (hv : vkOf vs i = none)
    (hda : ∀ g, dstAt ops [(d0, .slice (some ⟨g0, 0, none⟩) n0 n0), (d, .slice (some ⟨g, 0, none⟩) L L)] i = some (dstOf ops i))
    (hse : ∀ g, semAt ops [(d0, .slice (some ⟨g0, 0, none⟩) n0 n0), (d, .slice (some ⟨g, 0, none⟩) L L)] i = some (asV (Builtin.append_ #[t, t] ty #[.slice (some ⟨g0, 0, none⟩) n0 n0, .slice (some ⟨g, 0, none⟩) L L])))
    (ht : P.underlying t = some (.slice e)) (hi : (P.info? e).map (fun i => (i.zero, i.size, i.bytes)) = some (some zv, z, by_)) (hzz : zv.cells.size = z) (hz0 : 0 < z)
    (hms : ∀ (j : Nat) (bk : List Bk), ms[j]? = some bk → bk[q]? = some (⟨g0, e0, rw0, cs0⟩ : Bk)) (hl0 : cs0.length = n0 * z) (hl : l.length = L * z) (hL : 0 < L) (hN : n0 + L ≤ 100000) (hby : by_ ≤ 1000) :
    CertG (wpOp P ops Q) D n ops sl0 stg J (MG w0 S ms wn z0) (Turned bk0) (PvG vs (CApp k i kj z0 L l e z (n0 + L) (cs0 ++ l))) i := by
  refine cert_op fun j a w _ _ _ hf hk hm => ?_
  obtain ⟨v, hv1, hv2⟩ := hk k hn d hd
  obtain ⟨u, hu1, hu2⟩ := hk k0 hn0 d0 hd0
  simp only [PvG, hv0] at hu2
  subst hu2
  simp only [PvG, hvk] at hv2
  rcases hv2 with ⟨_, g, hg, rfl, hB⟩ | ⟨h1, _⟩
  · obtain ⟨bk, hb, hz, hM⟩ := hm
    have hB0 := hM.at_ q (hms j bk hb)
    obtain ⟨inf, hi1, hi2⟩ := Option.map_eq_some_iff.1 hi
    simp only [Prod.mk.injEq] at hi2
    obtain ⟨hiz, his, hib⟩ := hi2
    obtain ⟨v', w', r1, r2, r3⟩ := run_append_arg_grows (P := P) w t ty e inf zv z by_ ht hi1 hiz his hib hzz hz0 ⟨g0, 0, none⟩ n0 n0 cs0 hl0 (fun j u hj => by rw [add_norm, Nat.zero_add]; exact hB0.at_ hj) ⟨g, 0, none⟩ L L l hl (fun j u hj => by rw [add_norm, Nat.zero_add]; exact hB.at_ hj)
      (by omega) (by simp only [maxLen]; omega) (Nat.le_trans (Nat.mul_le_mul hN hby) (by decide))
    have hK : Kept (fun _ => False) w w' := ⟨r3.os, r3.tape, r3.output, r3.size, fun k hk _ => r3.block k hk (by simp)⟩
    refine ⟨_, _, v', w', ⟨hf.size, hf.df, fun p u hq => ?_⟩, hda g, hse g, r1, ?_, hK.mono (fun _ _ h => h.elim), ⟨bk, ?_, Nat.le_trans hz hK.size, (hM.same hK).2⟩⟩
    · simp only [getS] at hq
      split at hq
      · rename_i he
        have he' : d0 = p := Nat.eq_of_beq_eq_true he
        subst he'
        simp only [Option.some.injEq] at hq
        subst hq
        exact hu1
      · split at hq
        · rename_i he
          have he' : d = p := Nat.eq_of_beq_eq_true he
          subst he'
          simp only [Option.some.injEq] at hq
          subst hq
          exact hv1
        · cases hq
    · simp only [PvG, hv]
      rcases r2.2 with ⟨_, hx⟩ | ⟨g', cap', cur, rfl, hr⟩
      · omega
      · have h0 : OwnR w' w.heap.size e z (some ⟨g', 0, none⟩) (n0 + L) cap' (cs0 ++ l) := r2
        exact .inr ⟨.inl rfl, g', cap', rfl, Nat.le_trans hz hr.1, h0.below hz⟩
    · unfold nextG
      rw [hs]
      exact hb
  · exact absurd h1 (by omega)
/-- what was appended is assigned -/
theorem cert_asg {bk0 : List Bk} {i k d kb L z N : Nat} {e : TypeId} {l cs : List Value} (hn : k ∈ needsOf ops i) (hd : dstOf ops k = some d) (hvk : vkOf vs k = none) (hkb : k ≠ kb) (hs : stgOf stg i = none) (hv : vkOf vs i = none)
    (hda : ∀ v, dstAt ops [(d, v)] i = some (dstOf ops i)) (hse : ∀ v, semAt ops [(d, v)] i = some (asV (pure v))) :
    CertG (wpOp P ops Q) D n ops sl0 stg J (MG w0 S ms wn z0) (Turned bk0) (PvG vs (CApp kb k i z0 L l e z N cs)) i := by
  refine cert_op fun j a w _ _ _ hf hk hm => ?_
  obtain ⟨v, hv1, hv2⟩ := hk k hn d hd
  simp only [PvG, hvk] at hv2
  rcases hv2 with ⟨h1, _⟩ | ⟨_, hC⟩
  · exact absurd h1 hkb
  · refine ⟨_, _, v, w, ⟨hf.size, hf.df, fun p u hq => ?_⟩, hda v, hse v, rfl, ?_, Kept.refl _ _, ?_⟩
    · simp only [getS] at hq
      split at hq
      · rename_i he
        have he' : d = p := Nat.eq_of_beq_eq_true he
        subst he'
        simp only [Option.some.injEq] at hq
        subst hq
        exact hv1
      · cases hq
    · simp only [PvG, hv]
      exact .inr ⟨.inr rfl, hC⟩
    · unfold nextG
      rw [hs]
      exact hm
/-- a drawn region of which one unknown value is used behind it -/
theorem holds_mixV {p : List Nat} {k : List KI} {st : St} {vs : List (Option Value)} (C : Nat → Value → World → Prop) {ms : List (List Bk)} {stg : List (Option Nat)} {J : Nat} (ks : List Nat) {sl' : List (Nat × Value)} {bk' : List Bk} (iu du : Nat)
    (hc : isDraw (getCode body p) = true) (hmx : P.follows .mixedOrders = true) (h1 : mixChk n (opsOf (getCode body p)) [] (opsOf (getCode body p)).size J stg = true)
    (hst : ∀ k v w w', C k v w → Kept (Turned st.bk) w w' → C k v w')
    (hcert : ∀ i, i < (opsOf (getCode body p)).size → CertG (wpOp P (opsOf (getCode body p)) (sem P body Q k)) D n (opsOf (getCode body p)) (slI (opsOf (getCode body p)) st.sl i) stg J (MG w0 S ms st.wn st.sz) (Turned st.bk) (PvG vs C) i)
    (h0 : ms[0]? = some st.bk) (hJ : ms[J]? = some bk') (hwn : st.wn = []) (hiu : iu < (opsOf (getCode body p)).size) (hdu : dstOf (opsOf (getCode body p)) iu = some du) (hvu : vkOf vs iu = none)
    (hsl : keepS (slG (opsOf (getCode body p)) vs (slE (opsOf (getCode body p)) st.sl) (List.range (opsOf (getCode body p)).size)) ks = sl')
    (hh : ∀ v W, C iu v W → st.sz ≤ W.heap.size → MemOk w0 S bk' [] W.heap.size W → Holds D P body n W (Turned bk') Q k ⟨(du, v) :: sl', bk', [], W.heap.size⟩) : Holds D P body n w0 S Q (.code p :: k) st := by
  intro a w hf hm
  obtain ⟨id, hc⟩ := draw_of hc
  subst hsl
  simp only [sem]
  rw [hc]
  refine wp_region_any hmx ?_
  rw [wpAny_anyG]
  have e : ∀ i, (Array.replicate (opsOf (getCode body p)).size false).getD i false = false := fun i => by
    simp only [Array.getD]
    split
    · simp
    · rfl
  refine anyMixG h1 (fun k v w w' hv hk => ?_) hcert ?_ _ _ 0 a _ (by simp) ⟨hf.size, hf.df, fun q v hq _ => hf.val q v hq, fun k hk => (by rw [e] at hk; cases hk), by simp, fun i d hi => (by rw [e] at hi; cases hi), fun i s _ => (by rw [e]; exact ⟨fun h => (by cases h), fun h => (by omega)⟩), Nat.zero_le _, st.bk, h0, Nat.le_of_eq hm.size.symm, rfl, hm.blk, hm.own, hm.nd, hm.kept.drew, hm.win⟩
  · unfold PvG at *
    split at hv
    · exact hv
    · exact hst _ _ _ _ hv hk
  · intro a' w' hM hf' hk'
    obtain ⟨bk, hb, hz, hM⟩ := hM
    rw [hJ] at hb
    cases hb
    have h2 := knows_slG hf' _ hk'
    obtain ⟨v, hv1, hv2⟩ := hk' iu (List.mem_range.2 hiu) du hdu
    simp only [PvG, hvu] at hv2
    rw [hwn] at hM
    refine hh v w' hv2 hz hM a' w' ⟨h2.size, h2.df, fun i u hi => ?_⟩ hM.again
    simp only [getS] at hi
    split at hi
    · rename_i he
      have he' : du = i := Nat.eq_of_beq_eq_true he
      subst he'
      simp only [Option.some.injEq] at hi
      subst hi
      exact hv1
    · exact h2.val i u (getS_keepS ks i u hi)
end
end Go.Proofs.Ytmeddeaphmpjcaa
