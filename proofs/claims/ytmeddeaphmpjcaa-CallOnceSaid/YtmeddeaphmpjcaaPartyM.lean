/- Layer 14: a party's calls as one thing of the world, told apart from all else by its types. Plain lemmas; no program. -/
import Derived.Test.YtmeddeaphmpjcaaAgainM
namespace Go.Proofs.Ytmeddeaphmpjcaa
open Go.RowKit
theorem tyIn_one {w : World} {e e' : TypeId} {x : Nat} (h : TyIn w e x) (h' : TyIn w e' x) : e = e' := by
  obtain ⟨cur, fz, h⟩ := h
  obtain ⟨cur', fz', h'⟩ := h'
  rw [h] at h'
  cases h'
  rfl
theorem blk_ty {w : World} {g : Nat} {t : TypeId} {cs : List Value} (h : Blk w g t cs) : TyIn w t g := ⟨_, _, h⟩
/-- which blocks are of some types -/
def TysIn (es : List TypeId) (w : World) (y : Nat) : Prop := ∃ e, es.contains e = true ∧ TyIn w e y
theorem tysIn_not {es : List TypeId} {e : TypeId} {w : World} {y : Nat} (hn : es.contains e = false) (h : TyIn w e y) : ¬ TysIn es w y := fun ⟨e', h1, h2⟩ => by
  rw [tyIn_one h2 h, hn] at h1
  cases h1
theorem own_tys {w : World} {base : Nat} {e : TypeId} {z : Nat} {A : Option Addr} {n cp : Nat} {cs : List Value} (h : OwnR w base e z A n cp cs) : ∀ y, ownS A y → TysIn [e] w y := fun y hy => ⟨e, by simp, h.ty y hy⟩
theorem turned_tys {w0 w : World} {S : Nat → Prop} {bk : List Bk} {wn : List Wn} {sz : Nat} (hm : MemOk w0 S bk wn sz w) : ∀ y, Turned bk y → TysIn ((bk.filter (·.rw)).map (·.t)) w y := by
  rintro y ⟨b, hb, hr, rfl⟩
  exact ⟨b.t, by simpa using ⟨b, ⟨hb, hr⟩, rfl⟩, blk_ty (hm.blk b hb)⟩
theorem OwnR.keptT {w w' : World} {base : Nat} {e : TypeId} {z : Nat} {A : Option Addr} {n cp : Nat} {cs : List Value} {T : Nat → Prop} {es : List TypeId} (h : OwnR w base e z A n cp cs) (hk : Kept T w w') (hT : ∀ y, T y → TysIn es w y) (hn : es.contains e = false) : OwnR w' base e z A n cp cs :=
  h.kept hk (fun y hy ht => tysIn_not hn (h.ty y hy) (hT y ht))
theorem off_tys {w0 w : World} {S T : Nat → Prop} {bk : List Bk} {wn : List Wn} {sz : Nat} {es : List TypeId} (hm : MemOk w0 S bk wn sz w) (hT : ∀ y, T y → TysIn es w y) (hn : bk.all (fun b => !es.contains b.t) = true) : ∀ b ∈ bk, ¬ T b.g := fun b hb ht =>
  tysIn_not (by simpa using List.all_eq_true.1 hn b hb) (blk_ty (hm.blk b hb)) (hT _ ht)
/-- numbers within their bounds -/
structure OkC (c : CM) : Prop where
  few : c.opn.length ≤ 8
  last : 0 ≤ c.last
  asked : ∀ o ∈ c.opn, 0 ≤ o.asked ∧ o.asked ≤ 1099511627776
  sent : ∀ o ∈ c.opn, 0 ≤ o.sent ∧ o.sent ≤ 1099511627776
theorem within_bd (n : Int) : 0 ≤ within14 n ∧ within14 n ≤ 1099511627776 := by
  unfold within14 minZ maxZ
  split <;> split <;> omega
theorem within_id {n : Int} (h : 0 ≤ n ∧ n ≤ 1099511627776) : within14 n = n := by
  unfold within14 minZ maxZ
  split <;> split <;> omega
def PartyAt (tC tO : TypeId) (w : World) (base cb : Nat) (c : CM) : Prop := base ≤ cb ∧ OkC c ∧ CallAt tC tO w base cb c
/-- what a party's call may change -/
def PartyT (tC tO : TypeId) (base : Nat) (w : World) (y : Nat) : Prop := base ≤ y ∧ TysIn [tC, tO] w y
section
variable {tC tO : TypeId} {w w' : World} {base cb : Nat} {c : CM} {T : Nat → Prop} {es : List TypeId}
theorem PartyAt.keptT (h : PartyAt tC tO w base cb c) (hk : Kept T w w') (hT : ∀ y, T y → TysIn es w y) (hn : es.contains tC = false) (hn' : es.contains tO = false) : PartyAt tC tO w' base cb c := by
  obtain ⟨h1, h2, A, cp, h3, h4⟩ := h
  exact ⟨h1, h2, A, cp, h3.kept hk (fun ht => tysIn_not hn (blk_ty h3) (hT _ ht)), h4.keptT hk hT hn'⟩
theorem PartyAt.below {base' : Nat} (h : PartyAt tC tO w base cb c) (hb : base' ≤ base) : PartyAt tC tO w base' cb c := by
  obtain ⟨h1, h2, A, cp, h3, h4⟩ := h
  exact ⟨Nat.le_trans hb h1, h2, A, cp, h3, h4.below hb⟩
theorem party_T {A : Option Addr} {n cp : Nat} {cs cs' : List Value} (hb : base ≤ cb) (h3 : Blk w cb tC cs) (h4 : OwnR w base tO 13 A n cp cs') : ∀ y, y = cb ∨ ownS A y → PartyT tC tO base w y := by
  rintro y (rfl | h)
  · exact ⟨hb, tC, by simp, blk_ty h3⟩
  · exact ⟨(h4.own y h).1, tO, by simp, h4.ty y h⟩
end
theorem askC_ok {c : CM} {now to : Int} {q : AskM} (h : OkC c) (hl : c.opn.length < 8) : OkC (askC c now to q) := by
  have hw := within_bd now
  refine ⟨by simp [askC]; omega, by have := h.last; simp only [askC]; omega, fun o ho => ?_, fun o ho => ?_⟩
  · simp only [askC, List.mem_append, List.mem_singleton] at ho
    rcases ho with ho | rfl
    · exact h.asked o ho
    · exact hw
  · simp only [askC, List.mem_append, List.mem_singleton] at ho
    rcases ho with ho | rfl
    · exact h.sent o ho
    · exact hw
theorem erase_ok {c : CM} {x : Nat} (h : OkC c) : OkC { c with opn := c.opn.eraseIdx x } :=
  ⟨by have := h.few; have := List.length_eraseIdx_le c.opn x; simp only; omega, h.last, fun o ho => h.asked o (List.mem_of_mem_eraseIdx ho), fun o ho => h.sent o (List.mem_of_mem_eraseIdx ho)⟩
theorem again_ok {c : CM} {now : Int} (h : OkC c) (hn : 0 ≤ now ∧ now ≤ 1099511627776) : OkC { c with opn := againS now c.opn } := by
  refine ⟨by simp only [againS, List.length_map]; exact h.few, h.last, fun o ho => ?_, fun o ho => ?_⟩
  · simp only [againS, List.mem_map] at ho
    obtain ⟨o', h1, rfl⟩ := ho
    split <;> exact h.asked o' h1
  · simp only [againS, List.mem_map] at ho
    obtain ⟨o', h1, rfl⟩ := ho
    split
    · exact hn
    · exact h.sent o' h1
/-- no open call is answered -/
def missC (lf lid : Int) (l : List OneM) : Prop := ∀ o ∈ l, ¬ (o.id = lid ∧ o.to = lf)
theorem miss_hit {lf lid : Int} {l : List OneM} {x : Nat} {o : OneM} (h : missC lf lid l) (ho : l[x]? = some o) (hk : ((o.id == lid) && (o.to == lf)) = true) : False := by
  simp only [Bool.and_eq_true, beq_iff_eq] at hk
  exact h o (List.mem_of_getElem? ho) hk
/-- the call that is answered, where ids are given once -/
theorem hit_at {lf lid : Int} {Kp R : List OneM} {o : OneM} (h1 : o.id = lid) (h2 : o.to = lf) (hK : ∀ o' ∈ Kp, o'.id ≠ lid) :
    (∀ x o', (Kp ++ o :: R)[x]? = some o' → ((o'.id == lid) && (o'.to == lf)) = true → meantL (fun o => (o.id == lid) && (o.to == lf)) (Kp ++ o :: R) x = [] → x = Kp.length ∧ o' = o) ∧
      meantL (fun o => (o.id == lid) && (o.to == lf)) (Kp ++ o :: R) (Kp ++ o :: R).length ≠ [] := by
  have hg : (Kp ++ o :: R)[Kp.length]? = some o := by simp
  have hok : ((o.id == lid) && (o.to == lf)) = true := by simp [h1, h2]
  constructor
  · intro x o' hx hk hm
    have hlt := (List.getElem?_eq_some_iff.1 hx).1
    rcases Nat.lt_trichotomy x Kp.length with h | h | h
    · rw [List.getElem?_append_left h] at hx
      simp only [Bool.and_eq_true, beq_iff_eq] at hk
      exact absurd hk.1 (hK o' (List.mem_of_getElem? hx))
    · subst h
      rw [hg] at hx
      exact ⟨rfl, (Option.some.inj hx).symm⟩
    · have h5 : Kp.length ∈ meantL (fun o => (o.id == lid) && (o.to == lf)) (Kp ++ o :: R) x := by
        unfold meantL
        rw [List.mem_filter, List.mem_range]
        refine ⟨h, ?_⟩
        rw [hg]
        exact hok
      rw [hm] at h5
      cases h5
  · intro hm
    have h5 := (meantL_mem (ok := fun o => (o.id == lid) && (o.to == lf)) hg).2 hok
    rw [hm] at h5
    cases h5
theorem erase_at (Kp R : List OneM) (o : OneM) : (Kp ++ o :: R).eraseIdx Kp.length = Kp ++ R := by
  rw [List.eraseIdx_append_of_length_le (Nat.le_refl _)]
  simp
end Go.Proofs.Ytmeddeaphmpjcaa
