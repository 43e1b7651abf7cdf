/- Plain laws of the keeper, and the contract of pick at a named answer. -/
import Derived.Test.YtieeeijaojdbfaaGrantF
namespace Go.Proofs.Ytieeeijaojdbfaa
open Go.RowKit

theorem pick_is (c n v : Int) (h : pickZ c n = v) (w : World) (h1 : 1 ≤ n) (h2 : n ≤ 9223372036854775807) (h3 : -9223372036854775808 ≤ c) (h4 : c ≤ 9223372036854775807) :
    Calls Try.prog 10 #[.int .i64 c, .int .i64 n] w fun e w' => e = .returned (.int .i64 v) ∧ w = w' := h ▸ pick_any c n w h1 h2 h3 h4

/-- numbers of a raw ask are ints -/
structure RawOk (x : AskM) : Prop where
  kind : -9223372036854775808 ≤ x.kind ∧ x.kind ≤ 9223372036854775807
  stripe : -9223372036854775808 ≤ x.stripe ∧ x.stripe ≤ 9223372036854775807
  seq : -9223372036854775808 ≤ x.seq ∧ x.seq ≤ 9223372036854775807
  node : -9223372036854775808 ≤ x.node ∧ x.node ≤ 9223372036854775807

def askF (x : AskM) (ep : Int) : AskM :=
  if pickZ x.kind 3 = 0 then ⟨8, pickZ x.stripe 3, 0, 0, 0, 0, 0, 0, ⟨#[]⟩⟩
  else if pickZ x.kind 3 = 1 then ⟨9, pickZ x.stripe 3, max 1 (ep - pickZ x.seq 3 / 2), 0, 0, pickZ x.node 6, 0, 0, ⟨#[]⟩⟩
  else ⟨10, pickZ x.stripe 3, max 1 (ep - pickZ x.seq 3 / 2), 0, 0, 0, 0, 0, ⟨#[]⟩⟩

theorem leaseF_ep (l : LeaseM) (now fr : Int) (h : 0 ≤ l.ep ∧ l.ep ≤ 16777215) : 0 ≤ (leaseF l now fr).2.ep ∧ (leaseF l now fr).2.ep ≤ 16777215 := by
  unfold leaseF
  split
  · exact h
  · split
    · exact h
    · dsimp only; omega
theorem outF_ep (l : LeaseM) (now fr qe qn : Int) (h : 0 ≤ l.ep ∧ l.ep ≤ 16777215) : 0 ≤ (outF l now fr qe qn).2.ep ∧ (outF l now fr qe qn).2.ep ≤ 16777215 := by
  unfold outF
  split
  · exact h
  · split
    · exact h
    · split
      · exact h
      · dsimp only; omega
theorem inF_ep (l : LeaseM) (fr qe : Int) (h : 0 ≤ l.ep ∧ l.ep ≤ 16777215) : 0 ≤ (inF l fr qe).2.ep ∧ (inF l fr qe).2.ep ≤ 16777215 := by
  unfold inF
  split
  · exact h
  · exact h
theorem ans1_ep (l : LeaseM) (now fr : Int) (q : AskM) (h : 0 ≤ l.ep ∧ l.ep ≤ 16777215) : 0 ≤ (ans1 l now fr q).2.ep ∧ (ans1 l now fr q).2.ep ≤ 16777215 := by
  have : (ans1 l now fr q).2 = (ansL l now fr q).2 := by unfold ans1; dsimp only; split <;> rfl
  rw [this]
  unfold ansL
  split
  · exact leaseF_ep l now fr h
  · split
    · exact outF_ep l now fr _ _ h
    · split
      · exact inF_ep l fr _ h
      · exact h
theorem ansF_ep (ls : List LeaseM) (now fr : Int) (q : AskM) (h : ∀ l ∈ ls, 0 ≤ l.ep ∧ l.ep ≤ 16777215) : ∀ l ∈ (ansF ls now fr q).2, 0 ≤ l.ep ∧ l.ep ≤ 16777215 := by
  unfold ansF
  split
  · split
    · exact h
    · rename_i l hl
      intro x hx
      rcases List.mem_or_eq_of_mem_set hx with hx | rfl
      · exact h x hx
      · exact ans1_ep l now fr q (h l (List.mem_of_getElem? hl))
  · exact h

/-- an ask with a new id: what is answered, and what becomes of the keeper -/
theorem doF_new (K : KeepM) (now fr id : Int) (q : AskM) (hfr : fr = 200 ∨ fr = 201) (h1 : 1 ≤ id) (h2 : id ≤ 1099511627776) (h3 : K.i0 < id) (h4 : K.i1 < id) (hn : 0 ≤ now) (hn2 : now ≤ 1099511627776) :
    ∃ K', doF K now fr id q = (K', (ansF K.ls now fr q).1, true) ∧ K'.ls = (ansF K.ls now fr q).2 ∧ K'.i0 ≤ id ∧ K'.i1 ≤ id := by
  have hc := clampT_id now hn hn2
  have a1 : ¬ (fr < 200 ∨ fr ≥ 202 ∨ id < 1 ∨ id > 1099511627776) := by omega
  unfold doF
  rw [if_neg a1, hc]
  rcases hfr with rfl | rfl
  · rw [if_pos rfl, if_neg (by omega), if_pos (by omega)]
    exact ⟨_, rfl, rfl, by dsimp only; omega, by dsimp only; omega⟩
  · rw [if_neg (by omega), if_neg (by omega), if_pos (by omega)]
    exact ⟨_, rfl, rfl, by dsimp only; omega, by dsimp only; omega⟩

/-- what an ask of a stripe that there is can come to -/
def Cat (was l : LeaseM) (s : SayM) (q : AskM) (fr now : Int) : Prop :=
  (s = badS ∧ l = was) ∨ (s = ⟨7, was.ep, was.ou⟩ ∧ l = was ∧ q.kind = 8) ∨ (s = ⟨2, was.ep, was.ou⟩ ∧ l = was ∧ (q.kind = 9 ∨ q.kind = 10)) ∨ (s = ⟨4, was.ep, was.ou⟩ ∧ l = was ∧ q.kind = 9) ∨
  (q.kind = 8 ∧ s = ⟨1, was.ep + 1, was.ou⟩ ∧ l = ⟨was.ep + 1, fr, now + 30, was.ou⟩) ∨
  (q.kind = 9 ∧ was.ho = fr ∧ q.epoch = was.ep ∧ (was.ou = -1 ∨ was.ou = q.node) ∧ s = ⟨1, was.ep + 1, q.node⟩ ∧ l = ⟨was.ep + 1, was.ho, now + 30, q.node⟩) ∨
  (q.kind = 10 ∧ was.ho = fr ∧ q.epoch = was.ep ∧ s = ⟨1, was.ep, -1⟩ ∧ l = ⟨was.ep, was.ho, was.un, -1⟩)
theorem cat_bad (was : LeaseM) (q : AskM) (fr now : Int) : Cat was was badS q fr now := .inl ⟨rfl, rfl⟩
theorem ans1_cat (was : LeaseM) (now fr : Int) (q : AskM) : Cat was (ans1 was now fr q).2 (ans1 was now fr q).1 q fr now := by
  unfold ans1 ansL
  by_cases h8 : q.kind = 8
  · simp only [if_pos h8]
    unfold leaseF
    by_cases h1 : was.ho ≠ 0 ∧ was.ho ≠ fr ∧ now < was.un
    · simp only [if_pos h1]
      exact .inr (.inl ⟨rfl, rfl, h8⟩)
    · simp only [if_neg h1]
      by_cases h2 : was.ep = 16777215
      · simp only [if_pos h2]
        exact cat_bad _ _ _ _
      · simp only [if_neg h2]
        exact .inr (.inr (.inr (.inr (.inl ⟨h8, rfl, rfl⟩))))
  · simp only [if_neg h8]
    by_cases h9 : q.kind = 9
    · simp only [if_pos h9]
      unfold outF
      by_cases h1 : was.ho ≠ fr ∨ was.ep ≠ q.epoch
      · simp only [if_pos h1]
        exact .inr (.inr (.inl ⟨rfl, rfl, .inl h9⟩))
      · simp only [if_neg h1]
        by_cases h2 : was.ou ≠ -1 ∧ was.ou ≠ q.node
        · simp only [if_pos h2]
          exact .inr (.inr (.inr (.inl ⟨rfl, rfl, h9⟩)))
        · simp only [if_neg h2]
          by_cases h3 : was.ep = 16777215
          · simp only [if_pos h3]
            exact cat_bad _ _ _ _
          · simp only [if_neg h3]
            exact .inr (.inr (.inr (.inr (.inr (.inl ⟨h9, by omega, by omega, by omega, rfl, rfl⟩)))))
    · simp only [if_neg h9]
      by_cases h10 : q.kind = 10
      · simp only [if_pos h10]
        unfold inF
        by_cases h1 : was.ho ≠ fr ∨ was.ep ≠ q.epoch
        · simp only [if_pos h1]
          exact .inr (.inr (.inl ⟨rfl, rfl, .inr h10⟩))
        · simp only [if_neg h1]
          exact .inr (.inr (.inr (.inr (.inr (.inr ⟨h10, by omega, by omega, rfl, rfl⟩)))))
      · simp only [if_neg h10]
        exact cat_bad _ _ _ _
theorem leaseOf_some (K : KeepM) (i : Nat) (l : LeaseM) (h : K.ls[i]? = some l) : leaseOf K i = (l, true) := by
  have : ¬ (i : Int) < 0 := by omega
  simp [leaseOf, h, this]

/-- one step of a script: an ask with a new id of a stripe that there is -/
theorem do_step (K : KeepM) (ho : KeepOk K) (i : Nat) (was : LeaseM) (hi : K.ls[i]? = some was) (now fr id : Int) (q : AskM) (hq : q.stripe = i) (hfr : fr = 200 ∨ fr = 201) (h1 : 1 ≤ id) (h2 : id ≤ 1099511627776) (h3 : K.i0 < id) (h4 : K.i1 < id) (hn : 0 ≤ now) (hn2 : now ≤ 1099511627776) :
    ∃ K' s l, doF K now fr id q = (K', s, true) ∧ leaseOf K' i = (l, true) ∧ KeepOk K' ∧ K'.ls.length = K.ls.length ∧ K'.i0 ≤ id ∧ K'.i1 ≤ id ∧ Cat was l s q fr now ∧ K'.ls = K.ls.set i l := by
  obtain ⟨K', e1, e2, e3, e4⟩ := doF_new K now fr id q hfr h1 h2 h3 h4 hn hn2
  have hlen : K'.ls.length = K.ls.length := by rw [e2]; exact length_ansF _ _ _ _
  have hok : KeepOk K' := ⟨by rw [hlen]; exact ho.n1, by rw [hlen]; exact ho.n8, by rw [e2]; exact ansF_ep _ _ _ _ ho.ep⟩
  by_cases hr : rightAsk q = true
  · have e : ansF K.ls now fr q = ((ans1 was now fr q).1, K.ls.set i (ans1 was now fr q).2) := by simp [ansF, hr, hq, hi]
    rw [e] at e1 e2
    refine ⟨K', _, _, e1, leaseOf_some K' i _ (by rw [e2]; exact set_get hi _), hok, hlen, e3, e4, ans1_cat was now fr q, e2⟩
  · have e : ansF K.ls now fr q = (badS, K.ls) := by simp [ansF, hr]
    rw [e] at e1 e2
    exact ⟨K', _, was, e1, leaseOf_some K' i _ (by rw [e2]; exact hi), hok, hlen, e3, e4, cat_bad _ _ _ _, by rw [e2, set_self hi]⟩
end Go.Proofs.Ytieeeijaojdbfaa
