/- The walk over rule.Right: it tells what the plain function rightAsk tells. -/
import Derived.Test.YtieeeijaojdbfaaGrantB
namespace Go.Proofs.Ytieeeijaojdbfaa
open Go.RowKit

/-- v is handed back, and nothing that was there has turned -/
def Ret (v : Value) (w : World) (e : Ending) (w' : World) : Prop := e = .returned v ∧ Kept (fun _ => False) w w'

set_option maxHeartbeats 400000 in
theorem right_k1 (q : AskM) (w : World) (hk : q.kind = 1) (hs0 : 0 ≤ q.stripe) (hs1 : q.stripe ≤ 7) :
    Calls Try.prog 18 #[.agg #[.int .i64 q.kind, .int .i64 q.stripe, .int .i64 q.epoch, .int .i64 q.seq, .int .i64 q.mask, .int .i64 q.node, .int .i64 q.oe, .int .i64 q.os, .string q.block]] w
     (Ret (.bool (rightAsk q)) w) := by
  obtain ⟨kind, stripe, epoch, seq, mask, node, oe, os, block⟩ := q
  dsimp only at hk hs0 hs1 ⊢
  subst hk
  go_enter Try.func18, Try.ntmps18
  go_wp2_with (go_at_call 22; refine (within_any _ _ _ _).mono ?_; rintro e w' ⟨rfl, rfl⟩)
  all_goals
    go_ret
    refine ⟨ret_bool ?_, by (repeat (first | (with_reducible (exact Kept.refl _ _)) | (with_reducible (refine Kept.drewN ?_ _)) | (with_reducible (refine Kept.drew ?_)) | (with_reducible (refine Kept.alloc ?_ _)) | ((with_reducible (refine Kept.cellPut ?_ ?_ _)); (focus (first | (intro _; rfl; done) | (intro _; exact .inl rfl) | (intro _; exact .inr rfl) | (intro h; exfalso; dsimp only at h; omega) | (intro h; exfalso; simp at h; omega))))))⟩
    simp only [rightAsk]
    simp_all <;> omega

set_option maxHeartbeats 400000 in
theorem right_k2 (q : AskM) (w : World) (hk : q.kind = 2) (hs0 : 0 ≤ q.stripe) (hs1 : q.stripe ≤ 7) :
    Calls Try.prog 18 #[.agg #[.int .i64 q.kind, .int .i64 q.stripe, .int .i64 q.epoch, .int .i64 q.seq, .int .i64 q.mask, .int .i64 q.node, .int .i64 q.oe, .int .i64 q.os, .string q.block]] w
     (Ret (.bool (rightAsk q)) w) := by
  obtain ⟨kind, stripe, epoch, seq, mask, node, oe, os, block⟩ := q
  dsimp only at hk hs0 hs1 ⊢
  subst hk
  go_enter Try.func18, Try.ntmps18
  go_wp2_with (go_at_call 22; refine (within_any _ _ _ _).mono ?_; rintro e w' ⟨rfl, rfl⟩)
  all_goals
    go_ret
    refine ⟨ret_bool ?_, by (repeat (first | (with_reducible (exact Kept.refl _ _)) | (with_reducible (refine Kept.drewN ?_ _)) | (with_reducible (refine Kept.drew ?_)) | (with_reducible (refine Kept.alloc ?_ _)) | ((with_reducible (refine Kept.cellPut ?_ ?_ _)); (focus (first | (intro _; rfl; done) | (intro _; exact .inl rfl) | (intro _; exact .inr rfl) | (intro h; exfalso; dsimp only at h; omega) | (intro h; exfalso; simp at h; omega))))))⟩
    simp only [rightAsk]
    simp_all <;> omega

set_option maxHeartbeats 400000 in
theorem right_k3 (q : AskM) (w : World) (hk : q.kind = 3) (hs0 : 0 ≤ q.stripe) (hs1 : q.stripe ≤ 7) :
    Calls Try.prog 18 #[.agg #[.int .i64 q.kind, .int .i64 q.stripe, .int .i64 q.epoch, .int .i64 q.seq, .int .i64 q.mask, .int .i64 q.node, .int .i64 q.oe, .int .i64 q.os, .string q.block]] w
     (Ret (.bool (rightAsk q)) w) := by
  obtain ⟨kind, stripe, epoch, seq, mask, node, oe, os, block⟩ := q
  dsimp only at hk hs0 hs1 ⊢
  subst hk
  go_enter Try.func18, Try.ntmps18
  go_wp2_with (go_at_call 22; refine (within_any _ _ _ _).mono ?_; rintro e w' ⟨rfl, rfl⟩)
  all_goals
    go_ret
    refine ⟨ret_bool ?_, by (repeat (first | (with_reducible (exact Kept.refl _ _)) | (with_reducible (refine Kept.drewN ?_ _)) | (with_reducible (refine Kept.drew ?_)) | (with_reducible (refine Kept.alloc ?_ _)) | ((with_reducible (refine Kept.cellPut ?_ ?_ _)); (focus (first | (intro _; rfl; done) | (intro _; exact .inl rfl) | (intro _; exact .inr rfl) | (intro h; exfalso; dsimp only at h; omega) | (intro h; exfalso; simp at h; omega))))))⟩
    simp only [rightAsk]
    simp_all <;> omega

set_option maxHeartbeats 400000 in
theorem right_k4 (q : AskM) (w : World) (hk : q.kind = 4) (hs0 : 0 ≤ q.stripe) (hs1 : q.stripe ≤ 7) :
    Calls Try.prog 18 #[.agg #[.int .i64 q.kind, .int .i64 q.stripe, .int .i64 q.epoch, .int .i64 q.seq, .int .i64 q.mask, .int .i64 q.node, .int .i64 q.oe, .int .i64 q.os, .string q.block]] w
     (Ret (.bool (rightAsk q)) w) := by
  obtain ⟨kind, stripe, epoch, seq, mask, node, oe, os, block⟩ := q
  dsimp only at hk hs0 hs1 ⊢
  subst hk
  go_enter Try.func18, Try.ntmps18
  go_wp2_with (go_at_call 22; refine (within_any _ _ _ _).mono ?_; rintro e w' ⟨rfl, rfl⟩)
  all_goals
    go_ret
    refine ⟨ret_bool ?_, by (repeat (first | (with_reducible (exact Kept.refl _ _)) | (with_reducible (refine Kept.drewN ?_ _)) | (with_reducible (refine Kept.drew ?_)) | (with_reducible (refine Kept.alloc ?_ _)) | ((with_reducible (refine Kept.cellPut ?_ ?_ _)); (focus (first | (intro _; rfl; done) | (intro _; exact .inl rfl) | (intro _; exact .inr rfl) | (intro h; exfalso; dsimp only at h; omega) | (intro h; exfalso; simp at h; omega))))))⟩
    simp only [rightAsk]
    simp_all <;> omega

set_option maxHeartbeats 400000 in
theorem right_k5 (q : AskM) (w : World) (hk : q.kind = 5) (hs0 : 0 ≤ q.stripe) (hs1 : q.stripe ≤ 7) :
    Calls Try.prog 18 #[.agg #[.int .i64 q.kind, .int .i64 q.stripe, .int .i64 q.epoch, .int .i64 q.seq, .int .i64 q.mask, .int .i64 q.node, .int .i64 q.oe, .int .i64 q.os, .string q.block]] w
     (Ret (.bool (rightAsk q)) w) := by
  obtain ⟨kind, stripe, epoch, seq, mask, node, oe, os, block⟩ := q
  dsimp only at hk hs0 hs1 ⊢
  subst hk
  go_enter Try.func18, Try.ntmps18
  go_wp2_with (go_at_call 22; refine (within_any _ _ _ _).mono ?_; rintro e w' ⟨rfl, rfl⟩)
  all_goals
    go_ret
    refine ⟨ret_bool ?_, by (repeat (first | (with_reducible (exact Kept.refl _ _)) | (with_reducible (refine Kept.drewN ?_ _)) | (with_reducible (refine Kept.drew ?_)) | (with_reducible (refine Kept.alloc ?_ _)) | ((with_reducible (refine Kept.cellPut ?_ ?_ _)); (focus (first | (intro _; rfl; done) | (intro _; exact .inl rfl) | (intro _; exact .inr rfl) | (intro h; exfalso; dsimp only at h; omega) | (intro h; exfalso; simp at h; omega))))))⟩
    simp only [rightAsk]
    simp_all <;> omega

set_option maxHeartbeats 400000 in
theorem right_k6 (q : AskM) (w : World) (hk : q.kind = 6) (hs0 : 0 ≤ q.stripe) (hs1 : q.stripe ≤ 7) :
    Calls Try.prog 18 #[.agg #[.int .i64 q.kind, .int .i64 q.stripe, .int .i64 q.epoch, .int .i64 q.seq, .int .i64 q.mask, .int .i64 q.node, .int .i64 q.oe, .int .i64 q.os, .string q.block]] w
     (Ret (.bool (rightAsk q)) w) := by
  obtain ⟨kind, stripe, epoch, seq, mask, node, oe, os, block⟩ := q
  dsimp only at hk hs0 hs1 ⊢
  subst hk
  go_enter Try.func18, Try.ntmps18
  go_wp2_with (go_at_call 22; refine (within_any _ _ _ _).mono ?_; rintro e w' ⟨rfl, rfl⟩)
  all_goals
    go_ret
    refine ⟨ret_bool ?_, by (repeat (first | (with_reducible (exact Kept.refl _ _)) | (with_reducible (refine Kept.drewN ?_ _)) | (with_reducible (refine Kept.drew ?_)) | (with_reducible (refine Kept.alloc ?_ _)) | ((with_reducible (refine Kept.cellPut ?_ ?_ _)); (focus (first | (intro _; rfl; done) | (intro _; exact .inl rfl) | (intro _; exact .inr rfl) | (intro h; exfalso; dsimp only at h; omega) | (intro h; exfalso; simp at h; omega))))))⟩
    simp only [rightAsk]
    simp_all <;> omega

set_option maxHeartbeats 400000 in
theorem right_k7 (q : AskM) (w : World) (hk : q.kind = 7) (hs0 : 0 ≤ q.stripe) (hs1 : q.stripe ≤ 7) :
    Calls Try.prog 18 #[.agg #[.int .i64 q.kind, .int .i64 q.stripe, .int .i64 q.epoch, .int .i64 q.seq, .int .i64 q.mask, .int .i64 q.node, .int .i64 q.oe, .int .i64 q.os, .string q.block]] w
     (Ret (.bool (rightAsk q)) w) := by
  obtain ⟨kind, stripe, epoch, seq, mask, node, oe, os, block⟩ := q
  dsimp only at hk hs0 hs1 ⊢
  subst hk
  go_enter Try.func18, Try.ntmps18
  go_wp2_with (go_at_call 22; refine (within_any _ _ _ _).mono ?_; rintro e w' ⟨rfl, rfl⟩)
  all_goals
    go_ret
    refine ⟨ret_bool ?_, by (repeat (first | (with_reducible (exact Kept.refl _ _)) | (with_reducible (refine Kept.drewN ?_ _)) | (with_reducible (refine Kept.drew ?_)) | (with_reducible (refine Kept.alloc ?_ _)) | ((with_reducible (refine Kept.cellPut ?_ ?_ _)); (focus (first | (intro _; rfl; done) | (intro _; exact .inl rfl) | (intro _; exact .inr rfl) | (intro h; exfalso; dsimp only at h; omega) | (intro h; exfalso; simp at h; omega))))))⟩
    simp only [rightAsk]
    simp_all <;> omega

set_option maxHeartbeats 400000 in
theorem right_k8 (q : AskM) (w : World) (hk : q.kind = 8) (hs0 : 0 ≤ q.stripe) (hs1 : q.stripe ≤ 7) :
    Calls Try.prog 18 #[.agg #[.int .i64 q.kind, .int .i64 q.stripe, .int .i64 q.epoch, .int .i64 q.seq, .int .i64 q.mask, .int .i64 q.node, .int .i64 q.oe, .int .i64 q.os, .string q.block]] w
     (Ret (.bool (rightAsk q)) w) := by
  obtain ⟨kind, stripe, epoch, seq, mask, node, oe, os, block⟩ := q
  dsimp only at hk hs0 hs1 ⊢
  subst hk
  go_enter Try.func18, Try.ntmps18
  go_wp2_with (go_at_call 22; refine (within_any _ _ _ _).mono ?_; rintro e w' ⟨rfl, rfl⟩)
  all_goals
    go_ret
    refine ⟨ret_bool ?_, by (repeat (first | (with_reducible (exact Kept.refl _ _)) | (with_reducible (refine Kept.drewN ?_ _)) | (with_reducible (refine Kept.drew ?_)) | (with_reducible (refine Kept.alloc ?_ _)) | ((with_reducible (refine Kept.cellPut ?_ ?_ _)); (focus (first | (intro _; rfl; done) | (intro _; exact .inl rfl) | (intro _; exact .inr rfl) | (intro h; exfalso; dsimp only at h; omega) | (intro h; exfalso; simp at h; omega))))))⟩
    simp only [rightAsk]
    simp_all <;> omega

set_option maxHeartbeats 400000 in
theorem right_k9 (q : AskM) (w : World) (hk : q.kind = 9) (hs0 : 0 ≤ q.stripe) (hs1 : q.stripe ≤ 7) :
    Calls Try.prog 18 #[.agg #[.int .i64 q.kind, .int .i64 q.stripe, .int .i64 q.epoch, .int .i64 q.seq, .int .i64 q.mask, .int .i64 q.node, .int .i64 q.oe, .int .i64 q.os, .string q.block]] w
     (Ret (.bool (rightAsk q)) w) := by
  obtain ⟨kind, stripe, epoch, seq, mask, node, oe, os, block⟩ := q
  dsimp only at hk hs0 hs1 ⊢
  subst hk
  go_enter Try.func18, Try.ntmps18
  go_wp2_with (go_at_call 22; refine (within_any _ _ _ _).mono ?_; rintro e w' ⟨rfl, rfl⟩)
  all_goals
    go_ret
    refine ⟨ret_bool ?_, by (repeat (first | (with_reducible (exact Kept.refl _ _)) | (with_reducible (refine Kept.drewN ?_ _)) | (with_reducible (refine Kept.drew ?_)) | (with_reducible (refine Kept.alloc ?_ _)) | ((with_reducible (refine Kept.cellPut ?_ ?_ _)); (focus (first | (intro _; rfl; done) | (intro _; exact .inl rfl) | (intro _; exact .inr rfl) | (intro h; exfalso; dsimp only at h; omega) | (intro h; exfalso; simp at h; omega))))))⟩
    simp only [rightAsk]
    simp_all <;> omega

set_option maxHeartbeats 400000 in
theorem right_k10 (q : AskM) (w : World) (hk : q.kind = 10) (hs0 : 0 ≤ q.stripe) (hs1 : q.stripe ≤ 7) :
    Calls Try.prog 18 #[.agg #[.int .i64 q.kind, .int .i64 q.stripe, .int .i64 q.epoch, .int .i64 q.seq, .int .i64 q.mask, .int .i64 q.node, .int .i64 q.oe, .int .i64 q.os, .string q.block]] w
     (Ret (.bool (rightAsk q)) w) := by
  obtain ⟨kind, stripe, epoch, seq, mask, node, oe, os, block⟩ := q
  dsimp only at hk hs0 hs1 ⊢
  subst hk
  go_enter Try.func18, Try.ntmps18
  go_wp2_with (go_at_call 22; refine (within_any _ _ _ _).mono ?_; rintro e w' ⟨rfl, rfl⟩)
  all_goals
    go_ret
    refine ⟨ret_bool ?_, by (repeat (first | (with_reducible (exact Kept.refl _ _)) | (with_reducible (refine Kept.drewN ?_ _)) | (with_reducible (refine Kept.drew ?_)) | (with_reducible (refine Kept.alloc ?_ _)) | ((with_reducible (refine Kept.cellPut ?_ ?_ _)); (focus (first | (intro _; rfl; done) | (intro _; exact .inl rfl) | (intro _; exact .inr rfl) | (intro h; exfalso; dsimp only at h; omega) | (intro h; exfalso; simp at h; omega))))))⟩
    simp only [rightAsk]
    simp_all <;> omega

set_option maxHeartbeats 400000 in
theorem right_kx (q : AskM) (w : World) (hk : q.kind < 1 ∨ 10 < q.kind) (hs0 : 0 ≤ q.stripe) (hs1 : q.stripe ≤ 7) :
    Calls Try.prog 18 #[.agg #[.int .i64 q.kind, .int .i64 q.stripe, .int .i64 q.epoch, .int .i64 q.seq, .int .i64 q.mask, .int .i64 q.node, .int .i64 q.oe, .int .i64 q.os, .string q.block]] w
     (Ret (.bool (rightAsk q)) w) := by
  have hF : rightAsk q = false := by
    have : decide (1 ≤ q.kind ∧ q.kind ≤ 10) = false := by simp; omega
    simp [rightAsk, this]
  rw [hF]
  clear hF
  obtain ⟨kind, stripe, epoch, seq, mask, node, oe, os, block⟩ := q
  dsimp only at hk hs0 hs1 ⊢
  have k1 : (kind == 1) = false := by simp; omega
  have k2 : (kind == 2) = false := by simp; omega
  have k3 : (kind == 3) = false := by simp; omega
  have k4 : (kind == 4) = false := by simp; omega
  have k5 : (kind == 5) = false := by simp; omega
  have k6 : (kind == 6) = false := by simp; omega
  have k7 : (kind == 7) = false := by simp; omega
  have k8 : (kind == 8) = false := by simp; omega
  have k9 : (kind == 9) = false := by simp; omega
  have k10 : (kind == 10) = false := by simp; omega
  have k8' : (kind != 8) = true := by simp; omega
  clear hk
  go_enter Try.func18, Try.ntmps18
  go_wp2_with (go_at_call 22; refine (within_any _ _ _ _).mono ?_; rintro e w' ⟨rfl, rfl⟩)
  all_goals
    go_ret
    exact ⟨rfl, by (repeat (first | (with_reducible (exact Kept.refl _ _)) | (with_reducible (refine Kept.drewN ?_ _)) | (with_reducible (refine Kept.drew ?_)) | (with_reducible (refine Kept.alloc ?_ _)) | ((with_reducible (refine Kept.cellPut ?_ ?_ _)); (focus (first | (intro _; rfl; done) | (intro _; exact .inl rfl) | (intro _; exact .inr rfl) | (intro h; exfalso; dsimp only at h; omega) | (intro h; exfalso; simp at h; omega))))))⟩

set_option maxHeartbeats 400000 in
theorem right_bad (q : AskM) (w : World) (hs : ¬ (0 ≤ q.stripe ∧ q.stripe ≤ 7)) :
    Calls Try.prog 18 #[.agg #[.int .i64 q.kind, .int .i64 q.stripe, .int .i64 q.epoch, .int .i64 q.seq, .int .i64 q.mask, .int .i64 q.node, .int .i64 q.oe, .int .i64 q.os, .string q.block]] w
     (Ret (.bool (rightAsk q)) w) := by
  have hF : rightAsk q = false := by
    have : decide (0 ≤ q.stripe ∧ q.stripe ≤ 7) = false := by simp at hs ⊢; omega
    simp only [rightAsk, this, Bool.false_and]
  rw [hF]
  clear hF
  have h2 : (decide ((0 : Int) ≤ q.stripe) && decide (q.stripe ≤ 7)) = false := by simp at hs ⊢; omega
  clear hs
  have H2 := Lib.hid h2
  clear h2
  go_enter Try.func18, Try.ntmps18
  go_wp2_with (go_at_call 22; refine (within_any _ _ _ _).mono ?_; rintro e w' ⟨rfl, rfl⟩; rw [H2.out])
  go_ret
  exact ⟨rfl, by (repeat (first | (with_reducible (exact Kept.refl _ _)) | (with_reducible (refine Kept.drewN ?_ _)) | (with_reducible (refine Kept.drew ?_)) | (with_reducible (refine Kept.alloc ?_ _)) | ((with_reducible (refine Kept.cellPut ?_ ?_ _)); (focus (first | (intro _; rfl; done) | (intro _; exact .inl rfl) | (intro _; exact .inr rfl) | (intro h; exfalso; dsimp only at h; omega) | (intro h; exfalso; simp at h; omega))))))⟩

theorem right_any (q : AskM) (w : World) :
    Calls Try.prog 18 #[.agg #[.int .i64 q.kind, .int .i64 q.stripe, .int .i64 q.epoch, .int .i64 q.seq, .int .i64 q.mask, .int .i64 q.node, .int .i64 q.oe, .int .i64 q.os, .string q.block]] w
     (Ret (.bool (rightAsk q)) w) := by
  by_cases hs : 0 ≤ q.stripe ∧ q.stripe ≤ 7
  · obtain ⟨h0, h1⟩ := hs
    by_cases hk : q.kind < 1 ∨ 10 < q.kind
    · exact right_kx q w hk h0 h1
    · have : q.kind = 1 ∨ q.kind = 2 ∨ q.kind = 3 ∨ q.kind = 4 ∨ q.kind = 5 ∨ q.kind = 6 ∨ q.kind = 7 ∨ q.kind = 8 ∨ q.kind = 9 ∨ q.kind = 10 := by omega
      rcases this with h | h | h | h | h | h | h | h | h | h
      · exact right_k1 q w h h0 h1
      · exact right_k2 q w h h0 h1
      · exact right_k3 q w h h0 h1
      · exact right_k4 q w h h0 h1
      · exact right_k5 q w h h0 h1
      · exact right_k6 q w h h0 h1
      · exact right_k7 q w h h0 h1
      · exact right_k8 q w h h0 h1
      · exact right_k9 q w h h0 h1
      · exact right_k10 q w h h0 h1
  · exact right_bad q w hs

theorem right_is (b : Bool) (q : AskM) (h : rightAsk q = b) (w : World) :
    Calls Try.prog 18 #[.agg #[.int .i64 q.kind, .int .i64 q.stripe, .int .i64 q.epoch, .int .i64 q.seq, .int .i64 q.mask, .int .i64 q.node, .int .i64 q.oe, .int .i64 q.os, .string q.block]] w
     (Ret (.bool b) w) := h ▸ right_any q w
end Go.Proofs.Ytieeeijaojdbfaa
