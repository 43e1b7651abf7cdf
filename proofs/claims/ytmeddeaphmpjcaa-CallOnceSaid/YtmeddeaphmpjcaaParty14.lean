/- Layer 14: the calls' contracts, over a party's calls as one thing. -/
import Derived.Test.YtmeddeaphmpjcaaLate14
import Derived.Test.YtmeddeaphmpjcaaAgain14
import Derived.Test.YtmeddeaphmpjcaaAnswer14
import Derived.Test.YtmeddeaphmpjcaaPartyM
namespace Go.Proofs.Ytmeddeaphmpjcaa
open Go.RowKit

theorem new_party (frm k : Int) (w : World) : Calls Try.prog 7 #[.int .i64 frm, .int .i64 k] w (fun e w' => ∃ cb, e = .returned (.pointer (some ⟨cb, 0, none⟩)) ∧ PartyAt 59 61 w' w.heap.size cb ⟨frm, within14 k, []⟩ ∧ Kept (fun _ => False) w w') := by
  refine (callNew_any frm k w).mono fun e w' he => ?_
  obtain ⟨cb, h1, h2, h3, h4⟩ := he
  exact ⟨cb, h1, ⟨h2, ⟨by simp, (within_bd k).1, fun o ho => (by cases ho), fun o ho => (by cases ho)⟩, none, 0, h3, OwnR.nil _ _ _ _⟩, h4⟩
theorem ask_party {w : World} {base cb : Nat} {c : CM} (now to_ : Int) (q : AskM) (h : PartyAt 59 61 w base cb c) (hb : base ≤ w.heap.size) (hok : c.opn.length < 8 ∧ c.last < 1099511627776 ∧ 0 ≤ to_ ∧ to_ < 202) :
    Calls Try.prog 9 #[.pointer (some ⟨cb, 0, none⟩), .int .i64 now, .int .i64 to_, .agg #[.int .i64 q.kind, .int .i64 q.stripe, .int .i64 q.epoch, .int .i64 q.seq, .int .i64 q.mask, .int .i64 q.node, .int .i64 q.oe, .int .i64 q.os, .string q.block]] w (fun e w' => e = .returned (.tuple #[.agg #[.int .i64 c.frm, .int .i64 to_, .int .i64 (c.last + 1), .bool false, .int .i64 q.kind, .int .i64 q.stripe, .int .i64 q.epoch, .int .i64 q.seq, .int .i64 q.mask, .int .i64 q.node, .int .i64 q.oe, .int .i64 q.os, .string q.block, .int .i64 0, .int .i64 0, .int .i64 0, .bool false, .int .i64 0, .int .i64 0, .int .i64 0, .string ⟨#[]⟩, .bool false, .int .i64 0, .int .i64 0, .int .i64 0, .string ⟨#[]⟩], .bool true]) ∧ PartyAt 59 61 w' base cb (askC c now to_ q) ∧ Kept (PartyT 59 61 base w) w w') := by
  obtain ⟨h1, h2, A, cp, h3, h4⟩ := h
  have hne : ¬ ownS A cb := fun hx => absurd (tyIn_one (h4.ty cb hx) (blk_ty h3)) (by decide)
  refine (ask_ok c.frm c.last now to_ A c.opn.length cp cb base q c.opn rfl hok h2.last w h3 h4 hb hne).mono fun e w' he => ?_
  obtain ⟨A', cp', e1, e2, e3, _, e5⟩ := he
  refine ⟨e1, ⟨h1, askC_ok h2 hok.1, A', cp', ?_, ?_⟩, e5.mono (fun y _ hy => party_T h1 h3 h4 y hy)⟩
  · simpa [askC] using e2
  · simpa [askC] using e3
theorem ask_full {w : World} {base cb : Nat} {c : CM} (now to_ : Int) (q : AskM) (h : PartyAt 59 61 w base cb c) (hok : ¬ (c.opn.length < 8 ∧ c.last < 1099511627776 ∧ 0 ≤ to_ ∧ to_ < 202)) :
    Calls Try.prog 9 #[.pointer (some ⟨cb, 0, none⟩), .int .i64 now, .int .i64 to_, .agg #[.int .i64 q.kind, .int .i64 q.stripe, .int .i64 q.epoch, .int .i64 q.seq, .int .i64 q.mask, .int .i64 q.node, .int .i64 q.oe, .int .i64 q.os, .string q.block]] w (RetK (.tuple #[.agg #[.int .i64 0, .int .i64 0, .int .i64 0, .bool false, .int .i64 0, .int .i64 0, .int .i64 0, .int .i64 0, .int .i64 0, .int .i64 0, .int .i64 0, .int .i64 0, .string ⟨#[]⟩, .int .i64 0, .int .i64 0, .int .i64 0, .bool false, .int .i64 0, .int .i64 0, .int .i64 0, .string ⟨#[]⟩, .bool false, .int .i64 0, .int .i64 0, .int .i64 0, .string ⟨#[]⟩], .bool false]) w) := by
  obtain ⟨h1, h2, A, cp, h3, h4⟩ := h
  exact ask_bad c.frm c.last now to_ A c.opn.length cp cb q hok w h3
theorem drop_party {w : World} {base cb : Nat} {c : CM} (h : PartyAt 59 61 w base cb c) :
    Calls Try.prog 16 #[.pointer (some ⟨cb, 0, none⟩)] w (fun e w' => e = .returned (.tuple #[]) ∧ PartyAt 59 61 w' base cb { c with opn := [] } ∧ Kept (PartyT 59 61 base w) w w') := by
  obtain ⟨h1, h2, A, cp, h3, h4⟩ := h
  refine (drop_any c.frm c.last A c.opn.length cp cb w h3).mono fun e w' he => ?_
  obtain ⟨e1, e2, e3⟩ := he
  exact ⟨e1, ⟨h1, ⟨by simp, h2.last, fun o ho => (by cases ho), fun o ho => (by cases ho)⟩, none, 0, e2, OwnR.nil _ _ _ _⟩, e3.mono (fun y _ hy => party_T h1 h3 h4 y (.inl hy))⟩
theorem open_party {w : World} {base cb : Nat} {c : CM} (h : PartyAt 59 61 w base cb c) : Calls Try.prog 14 #[.pointer (some ⟨cb, 0, none⟩)] w (RetK (.int .i64 (c.opn.length : Int)) w) := by
  obtain ⟨h1, h2, A, cp, h3, h4⟩ := h
  exact open14_any c.frm c.last A c.opn.length cp cb w h3
theorem answer_party {w : World} {base cb : Nat} {c : CM} (lf lid : Int) (h : PartyAt 59 61 w base cb c) :
    Calls Try.prog 10 #[.pointer (some ⟨cb, 0, none⟩), .agg #[.int .i64 lf, .int .i64 c.frm, .int .i64 lid, .bool true, .int .i64 0, .int .i64 0, .int .i64 0, .int .i64 0, .int .i64 0, .int .i64 0, .int .i64 0, .int .i64 0, .string ⟨#[]⟩, .int .i64 0, .int .i64 0, .int .i64 0, .bool false, .int .i64 0, .int .i64 0, .int .i64 0, .string ⟨#[]⟩, .bool false, .int .i64 0, .int .i64 0, .int .i64 0, .string ⟨#[]⟩]] w (fun e w' => (e = .returned (.tuple #[.agg #[.int .i64 0, .int .i64 0, .int .i64 0, .int .i64 0, .int .i64 0, .int .i64 0, .int .i64 0, .int .i64 0, .string ⟨#[]⟩], .bool false]) ∧ meantL (fun o : OneM => (o.id == lid) && (o.to == lf)) c.opn c.opn.length = [] ∧ Kept (fun _ => False) w w') ∨
      ∃ x o, (c.opn[x]? = some o ∧ (fun o : OneM => (o.id == lid) && (o.to == lf)) o = true ∧ meantL (fun o : OneM => (o.id == lid) && (o.to == lf)) c.opn x = []) ∧ e = .returned (.tuple #[.agg #[.int .i64 o.q.kind, .int .i64 o.q.stripe, .int .i64 o.q.epoch, .int .i64 o.q.seq, .int .i64 o.q.mask, .int .i64 o.q.node, .int .i64 o.q.oe, .int .i64 o.q.os, .string o.q.block], .bool true]) ∧ PartyAt 59 61 w' base cb { c with opn := c.opn.eraseIdx x } ∧ Kept (PartyT 59 61 base w) w w') := by
  obtain ⟨h1, h2, A, cp, h3, h4⟩ := h
  refine (answer_any c.frm c.last lf lid A c.opn.length cp cb base c.opn rfl (by have := h2.few; omega) w h3 h4).mono fun e w' he => ?_
  rcases he with he | ⟨x, o, e1, e2, e3, e4, e5⟩
  · exact .inl he
  · have hx := (List.getElem?_eq_some_iff.1 e1.1).1
    have hle : (c.opn.eraseIdx x).length = c.opn.length - 1 := by rw [List.length_eraseIdx, if_pos hx]
    exact .inr ⟨x, o, e1, e2, ⟨h1, erase_ok h2, A, cp, by simp only [hle]; exact e3, by simp only [hle]; exact e4⟩, e5.mono (fun y _ hy => party_T h1 h3 h4 y hy)⟩
theorem miss_party {w : World} {base cb : Nat} {c : CM} (lf lid : Int) (h : PartyAt 59 61 w base cb c) (hm : missC lf lid c.opn) :
    Calls Try.prog 10 #[.pointer (some ⟨cb, 0, none⟩), .agg #[.int .i64 lf, .int .i64 c.frm, .int .i64 lid, .bool true, .int .i64 0, .int .i64 0, .int .i64 0, .int .i64 0, .int .i64 0, .int .i64 0, .int .i64 0, .int .i64 0, .string ⟨#[]⟩, .int .i64 0, .int .i64 0, .int .i64 0, .bool false, .int .i64 0, .int .i64 0, .int .i64 0, .string ⟨#[]⟩, .bool false, .int .i64 0, .int .i64 0, .int .i64 0, .string ⟨#[]⟩]] w (RetK (.tuple #[.agg #[.int .i64 0, .int .i64 0, .int .i64 0, .int .i64 0, .int .i64 0, .int .i64 0, .int .i64 0, .int .i64 0, .string ⟨#[]⟩], .bool false]) w) := by
  refine (answer_party lf lid h).mono fun e w' he => ?_
  rcases he with ⟨h1, _, h2⟩ | ⟨x, o, ⟨h1, h2, _⟩, _⟩
  · exact ⟨h1, h2⟩
  · exact (miss_hit hm h1 h2).elim
theorem hit_party {w : World} {base cb : Nat} {c : CM} {Kp R : List OneM} {o : OneM} (h : PartyAt 59 61 w base cb c) (hc : c.opn = Kp ++ o :: R) (hK : ∀ o' ∈ Kp, o'.id ≠ o.id) :
    Calls Try.prog 10 #[.pointer (some ⟨cb, 0, none⟩), .agg #[.int .i64 o.to, .int .i64 c.frm, .int .i64 o.id, .bool true, .int .i64 0, .int .i64 0, .int .i64 0, .int .i64 0, .int .i64 0, .int .i64 0, .int .i64 0, .int .i64 0, .string ⟨#[]⟩, .int .i64 0, .int .i64 0, .int .i64 0, .bool false, .int .i64 0, .int .i64 0, .int .i64 0, .string ⟨#[]⟩, .bool false, .int .i64 0, .int .i64 0, .int .i64 0, .string ⟨#[]⟩]] w (fun e w' => e = .returned (.tuple #[.agg #[.int .i64 o.q.kind, .int .i64 o.q.stripe, .int .i64 o.q.epoch, .int .i64 o.q.seq, .int .i64 o.q.mask, .int .i64 o.q.node, .int .i64 o.q.oe, .int .i64 o.q.os, .string o.q.block], .bool true]) ∧ PartyAt 59 61 w' base cb { c with opn := Kp ++ R } ∧ Kept (PartyT 59 61 base w) w w') := by
  have hh := hit_at (lf := o.to) (lid := o.id) (R := R) rfl rfl hK
  refine (answer_party o.to o.id h).mono fun e w' he => ?_
  rw [hc] at he
  rcases he with ⟨_, h2, _⟩ | ⟨x, o', ⟨h1, h2, h3⟩, h4, h5, h6⟩
  · exact absurd h2 hh.2
  · obtain ⟨rfl, rfl⟩ := hh.1 x o' h1 h2 h3
    rw [erase_at] at h5
    exact ⟨h4, h5, h6⟩
theorem again_party {w : World} {base cb : Nat} {c : CM} (now : Int) (h : PartyAt 59 61 w base cb c) :
    Calls Try.prog 11 #[.pointer (some ⟨cb, 0, none⟩), .int .i64 now] w (fun e w' => ∃ Al cl, e = .returned (.slice Al (againL (within14 now) c.opn).length cl) ∧ OwnR w' w.heap.size 37 26 Al (againL (within14 now) c.opn).length cl (lettersC c.frm (againL (within14 now) c.opn)) ∧ PartyAt 59 61 w' base cb { c with opn := againS (within14 now) c.opn } ∧ Kept (PartyT 59 61 base w) w w') := by
  obtain ⟨h1, h2, A, cp, h3, h4⟩ := h
  have hw := within_bd now
  refine (again_any c.frm c.last now A c.opn.length cp cb base c.opn rfl (by have := h2.few; omega) (fun j o ho => by have := h2.sent o (List.mem_of_getElem? ho); omega) w h3 h4).mono fun e w' he => ?_
  obtain ⟨Al, cl, e1, e2, e3, e4⟩ := he
  have hne : ¬ ownS A cb := fun hx => absurd (tyIn_one (h4.ty cb hx) (blk_ty h3)) (by decide)
  have hle : (againS (within14 now) c.opn).length = c.opn.length := by simp [againS]
  exact ⟨Al, cl, e1, e2, ⟨h1, again_ok h2 hw, A, cp, by simp only [hle]; exact h3.kept e4 hne, by simp only [hle]; exact e3⟩, e4.mono (fun y _ hy => party_T h1 h3 h4 y (.inr hy))⟩
theorem late_party {w : World} {base cb : Nat} {c : CM} (now : Int) (h : PartyAt 59 61 w base cb c) :
    Calls Try.prog 13 #[.pointer (some ⟨cb, 0, none⟩), .int .i64 now] w (fun e w' => ∃ Al cl ys, e = .returned (.slice Al (List.length ys) cl) ∧ OwnR w' w.heap.size 3 1 Al (List.length ys) cl (i64s ys) ∧ lateM (within14 now) c.opn ys ∧ Kept (fun _ => False) w w') := by
  obtain ⟨h1, h2, A, cp, h3, h4⟩ := h
  have hw := within_bd now
  exact late_any c.frm c.last now A c.opn.length cp cb base c.opn rfl (by have := h2.few; omega) (fun j o ho => by have := h2.asked o (List.mem_of_getElem? ho); omega) w h3 h4
end Go.Proofs.Ytmeddeaphmpjcaa
