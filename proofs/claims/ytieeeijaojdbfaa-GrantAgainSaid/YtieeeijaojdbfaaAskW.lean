/- The walk over Ask: a raw ask of the keeper. -/
import Derived.Test.YtieeeijaojdbfaaGrantG
namespace Go.Proofs.Ytieeeijaojdbfaa
open Go.RowKit



set_option maxHeartbeats 800000 in
theorem ask_0 (x : AskM) (ep : Int) (S : Int) (w : World) (hx : RawOk x) (_h0 : 0 ≤ ep) (_h1 : ep ≤ 16777215) (hK : pickZ x.kind 3 = 0) (hS : pickZ x.stripe 3 = S) (_S0 : 0 ≤ S) (_S1 : S < 3) :
    Calls Try.prog 13 #[.agg #[.int .i64 x.kind, .int .i64 x.stripe, .int .i64 x.epoch, .int .i64 x.seq, .int .i64 x.mask, .int .i64 x.node, .int .i64 x.oe, .int .i64 x.os, .string x.block], .int .i64 ep] w (Ret (.agg #[.int .i64 8, .int .i64 S, .int .i64 0, .int .i64 0, .int .i64 0, .int .i64 0, .int .i64 0, .int .i64 0, .string ⟨#[]⟩]) w) := by
  have cK := Lib.hid (fun W => pick_is x.kind 3 0 hK W (by omega) (by omega) hx.kind.1 hx.kind.2)
  have cS := Lib.hid (fun W => pick_is x.stripe 3 S hS W (by omega) (by omega) hx.stripe.1 hx.stripe.2)
  clear hK hS hx
  have nw := Nat.lt_irrefl w.heap.size
  go_enter Try.func13, Try.ntmps13
  go_wp2_with fail
  go_region_held3 (fun w' => w'.cell? ⟨w.heap.size, 0, none⟩ = some (.int .i64 x.kind) ∧ w'.cell? ⟨w.heap.size, 1, none⟩ = some (.int .i64 x.stripe)) (((try dsimp only); (repeat' apply And.intro) <;> (first | (go_keep; done) | (simp (disch := ((try simp only [World.size_alloc, World.size_drew, World.size_setCell, World.heap_drewN]); try omega)) [*, World.cell?_alloc_lt]; done))))
   (first
    | (go_at_call_of 10 x.kind; refine (cK.out _).mono ?_; rintro e w' ⟨rfl, rfl⟩)
    | (go_at_call_of 10 x.stripe; refine (cS.out _).mono ?_; rintro e w' ⟨rfl, rfl⟩))
  all_goals
    go_wp2
    refine bodyPost_ret (v := .agg #[.int .i64 8, .int .i64 S, .int .i64 0, .int .i64 0, .int .i64 0, .int .i64 0, .int .i64 0, .int .i64 0, .string ⟨#[]⟩]) (by simp [results, Try.results13, go_sem, *]) rfl ?_
    exact ⟨rfl, by (repeat (first | (with_reducible (exact Kept.refl _ _)) | (with_reducible (refine Kept.drewN ?_ _)) | (with_reducible (refine Kept.drew ?_)) | (with_reducible (refine Kept.alloc ?_ _)) | ((with_reducible (refine Kept.cellPut ?_ ?_ _)); (focus (first | (intro _; rfl; done) | (intro _; exact .inl rfl) | (intro _; exact .inr rfl) | (intro h; exfalso; dsimp only at h; omega) | (intro h; exfalso; simp at h; omega))))))⟩

set_option maxHeartbeats 800000 in
theorem ask_1a (x : AskM) (ep : Int) (S Q N : Int) (w : World) (hx : RawOk x) (h0 : 0 ≤ ep) (h1 : ep ≤ 16777215) (hK : pickZ x.kind 3 = 1) (hS : pickZ x.stripe 3 = S) (hQ : pickZ x.seq 3 = Q) (hN : pickZ x.node 6 = N) (Q0 : 0 ≤ Q) (Q1 : Q < 3) (hE : ep - Q / 2 ≤ 1) (_S0 : 0 ≤ S) (_S1 : S < 3) :
    Calls Try.prog 13 #[.agg #[.int .i64 x.kind, .int .i64 x.stripe, .int .i64 x.epoch, .int .i64 x.seq, .int .i64 x.mask, .int .i64 x.node, .int .i64 x.oe, .int .i64 x.os, .string x.block], .int .i64 ep] w (Ret (.agg #[.int .i64 9, .int .i64 S, .int .i64 1, .int .i64 0, .int .i64 0, .int .i64 N, .int .i64 0, .int .i64 0, .string ⟨#[]⟩]) w) := by
  have cK := Lib.hid (fun W => pick_is x.kind 3 1 hK W (by omega) (by omega) hx.kind.1 hx.kind.2)
  have cS := Lib.hid (fun W => pick_is x.stripe 3 S hS W (by omega) (by omega) hx.stripe.1 hx.stripe.2)
  have cQ := Lib.hid (fun W => pick_is x.seq 3 Q hQ W (by omega) (by omega) hx.seq.1 hx.seq.2)
  have cN := Lib.hid (fun W => pick_is x.node 6 N hN W (by omega) (by omega) hx.node.1 hx.node.2)
  clear hK hS hQ hN hx
  have nw := Nat.lt_irrefl w.heap.size
  go_enter Try.func13, Try.ntmps13
  go_wp2_with fail
  go_region_held3 (fun w' => w'.cell? ⟨w.heap.size, 0, none⟩ = some (.int .i64 x.kind) ∧ w'.cell? ⟨w.heap.size, 1, none⟩ = some (.int .i64 x.stripe)) (((try dsimp only); (repeat' apply And.intro) <;> (first | (go_keep; done) | (simp (disch := ((try simp only [World.size_alloc, World.size_drew, World.size_setCell, World.heap_drewN]); try omega)) [*, World.cell?_alloc_lt]; done))))
   (first
    | (go_at_call_of 10 x.kind; refine (cK.out _).mono ?_; rintro e w' ⟨rfl, rfl⟩)
    | (go_at_call_of 10 x.stripe; refine (cS.out _).mono ?_; rintro e w' ⟨rfl, rfl⟩))
  all_goals
    go_wp2_with fail
    refine (cQ.out _).mono ?_
    rintro e w' ⟨rfl, rfl⟩
    go_wp2_with fail
    refine (cN.out _).mono ?_
    rintro e w' ⟨rfl, rfl⟩
    go_wp2_with fail
    refine bodyPost_ret (v := .agg #[.int .i64 9, .int .i64 S, .int .i64 1, .int .i64 0, .int .i64 0, .int .i64 N, .int .i64 0, .int .i64 0, .string ⟨#[]⟩]) (by simp [results, Try.results13, go_sem, *]) rfl ?_
    exact ⟨rfl, by (repeat (first | (with_reducible (exact Kept.refl _ _)) | (with_reducible (refine Kept.drewN ?_ _)) | (with_reducible (refine Kept.drew ?_)) | (with_reducible (refine Kept.alloc ?_ _)) | ((with_reducible (refine Kept.cellPut ?_ ?_ _)); (focus (first | (intro _; rfl; done) | (intro _; exact .inl rfl) | (intro _; exact .inr rfl) | (intro h; exfalso; dsimp only at h; omega) | (intro h; exfalso; simp at h; omega))))))⟩

set_option maxHeartbeats 800000 in
theorem ask_1b (x : AskM) (ep : Int) (S Q N : Int) (w : World) (hx : RawOk x) (h0 : 0 ≤ ep) (h1 : ep ≤ 16777215) (hK : pickZ x.kind 3 = 1) (hS : pickZ x.stripe 3 = S) (hQ : pickZ x.seq 3 = Q) (hN : pickZ x.node 6 = N) (Q0 : 0 ≤ Q) (Q1 : Q < 3) (hE : 1 < ep - Q / 2) (_S0 : 0 ≤ S) (_S1 : S < 3) :
    Calls Try.prog 13 #[.agg #[.int .i64 x.kind, .int .i64 x.stripe, .int .i64 x.epoch, .int .i64 x.seq, .int .i64 x.mask, .int .i64 x.node, .int .i64 x.oe, .int .i64 x.os, .string x.block], .int .i64 ep] w (Ret (.agg #[.int .i64 9, .int .i64 S, .int .i64 (ep - Q / 2), .int .i64 0, .int .i64 0, .int .i64 N, .int .i64 0, .int .i64 0, .string ⟨#[]⟩]) w) := by
  have cK := Lib.hid (fun W => pick_is x.kind 3 1 hK W (by omega) (by omega) hx.kind.1 hx.kind.2)
  have cS := Lib.hid (fun W => pick_is x.stripe 3 S hS W (by omega) (by omega) hx.stripe.1 hx.stripe.2)
  have cQ := Lib.hid (fun W => pick_is x.seq 3 Q hQ W (by omega) (by omega) hx.seq.1 hx.seq.2)
  have cN := Lib.hid (fun W => pick_is x.node 6 N hN W (by omega) (by omega) hx.node.1 hx.node.2)
  clear hK hS hQ hN hx
  have nw := Nat.lt_irrefl w.heap.size
  go_enter Try.func13, Try.ntmps13
  go_wp2_with fail
  go_region_held3 (fun w' => w'.cell? ⟨w.heap.size, 0, none⟩ = some (.int .i64 x.kind) ∧ w'.cell? ⟨w.heap.size, 1, none⟩ = some (.int .i64 x.stripe)) (((try dsimp only); (repeat' apply And.intro) <;> (first | (go_keep; done) | (simp (disch := ((try simp only [World.size_alloc, World.size_drew, World.size_setCell, World.heap_drewN]); try omega)) [*, World.cell?_alloc_lt]; done))))
   (first
    | (go_at_call_of 10 x.kind; refine (cK.out _).mono ?_; rintro e w' ⟨rfl, rfl⟩)
    | (go_at_call_of 10 x.stripe; refine (cS.out _).mono ?_; rintro e w' ⟨rfl, rfl⟩))
  all_goals
    go_wp2_with fail
    refine (cQ.out _).mono ?_
    rintro e w' ⟨rfl, rfl⟩
    go_wp2_with fail
    refine (cN.out _).mono ?_
    rintro e w' ⟨rfl, rfl⟩
    go_wp2_with fail
    refine bodyPost_ret (v := .agg #[.int .i64 9, .int .i64 S, .int .i64 ((ep - Q / 2)), .int .i64 0, .int .i64 0, .int .i64 N, .int .i64 0, .int .i64 0, .string ⟨#[]⟩]) (by simp [results, Try.results13, go_sem, *]) rfl ?_
    exact ⟨rfl, by (repeat (first | (with_reducible (exact Kept.refl _ _)) | (with_reducible (refine Kept.drewN ?_ _)) | (with_reducible (refine Kept.drew ?_)) | (with_reducible (refine Kept.alloc ?_ _)) | ((with_reducible (refine Kept.cellPut ?_ ?_ _)); (focus (first | (intro _; rfl; done) | (intro _; exact .inl rfl) | (intro _; exact .inr rfl) | (intro h; exfalso; dsimp only at h; omega) | (intro h; exfalso; simp at h; omega))))))⟩

set_option maxHeartbeats 800000 in
theorem ask_2a (x : AskM) (ep : Int) (S Q : Int) (w : World) (hx : RawOk x) (h0 : 0 ≤ ep) (h1 : ep ≤ 16777215) (hK : pickZ x.kind 3 = 2) (hS : pickZ x.stripe 3 = S) (hQ : pickZ x.seq 3 = Q) (Q0 : 0 ≤ Q) (Q1 : Q < 3) (hE : ep - Q / 2 ≤ 1) (_S0 : 0 ≤ S) (_S1 : S < 3) :
    Calls Try.prog 13 #[.agg #[.int .i64 x.kind, .int .i64 x.stripe, .int .i64 x.epoch, .int .i64 x.seq, .int .i64 x.mask, .int .i64 x.node, .int .i64 x.oe, .int .i64 x.os, .string x.block], .int .i64 ep] w (Ret (.agg #[.int .i64 10, .int .i64 S, .int .i64 1, .int .i64 0, .int .i64 0, .int .i64 0, .int .i64 0, .int .i64 0, .string ⟨#[]⟩]) w) := by
  have cK := Lib.hid (fun W => pick_is x.kind 3 2 hK W (by omega) (by omega) hx.kind.1 hx.kind.2)
  have cS := Lib.hid (fun W => pick_is x.stripe 3 S hS W (by omega) (by omega) hx.stripe.1 hx.stripe.2)
  have cQ := Lib.hid (fun W => pick_is x.seq 3 Q hQ W (by omega) (by omega) hx.seq.1 hx.seq.2)
  clear hK hS hQ hx
  have nw := Nat.lt_irrefl w.heap.size
  go_enter Try.func13, Try.ntmps13
  go_wp2_with fail
  go_region_held3 (fun w' => w'.cell? ⟨w.heap.size, 0, none⟩ = some (.int .i64 x.kind) ∧ w'.cell? ⟨w.heap.size, 1, none⟩ = some (.int .i64 x.stripe)) (((try dsimp only); (repeat' apply And.intro) <;> (first | (go_keep; done) | (simp (disch := ((try simp only [World.size_alloc, World.size_drew, World.size_setCell, World.heap_drewN]); try omega)) [*, World.cell?_alloc_lt]; done))))
   (first
    | (go_at_call_of 10 x.kind; refine (cK.out _).mono ?_; rintro e w' ⟨rfl, rfl⟩)
    | (go_at_call_of 10 x.stripe; refine (cS.out _).mono ?_; rintro e w' ⟨rfl, rfl⟩))
  all_goals
    go_wp2_with fail
    refine (cQ.out _).mono ?_
    rintro e w' ⟨rfl, rfl⟩
    go_wp2_with fail
    refine bodyPost_ret (v := .agg #[.int .i64 10, .int .i64 S, .int .i64 1, .int .i64 0, .int .i64 0, .int .i64 0, .int .i64 0, .int .i64 0, .string ⟨#[]⟩]) (by simp [results, Try.results13, go_sem, *]) rfl ?_
    exact ⟨rfl, by (repeat (first | (with_reducible (exact Kept.refl _ _)) | (with_reducible (refine Kept.drewN ?_ _)) | (with_reducible (refine Kept.drew ?_)) | (with_reducible (refine Kept.alloc ?_ _)) | ((with_reducible (refine Kept.cellPut ?_ ?_ _)); (focus (first | (intro _; rfl; done) | (intro _; exact .inl rfl) | (intro _; exact .inr rfl) | (intro h; exfalso; dsimp only at h; omega) | (intro h; exfalso; simp at h; omega))))))⟩

set_option maxHeartbeats 800000 in
theorem ask_2b (x : AskM) (ep : Int) (S Q : Int) (w : World) (hx : RawOk x) (h0 : 0 ≤ ep) (h1 : ep ≤ 16777215) (hK : pickZ x.kind 3 = 2) (hS : pickZ x.stripe 3 = S) (hQ : pickZ x.seq 3 = Q) (Q0 : 0 ≤ Q) (Q1 : Q < 3) (hE : 1 < ep - Q / 2) (_S0 : 0 ≤ S) (_S1 : S < 3) :
    Calls Try.prog 13 #[.agg #[.int .i64 x.kind, .int .i64 x.stripe, .int .i64 x.epoch, .int .i64 x.seq, .int .i64 x.mask, .int .i64 x.node, .int .i64 x.oe, .int .i64 x.os, .string x.block], .int .i64 ep] w (Ret (.agg #[.int .i64 10, .int .i64 S, .int .i64 (ep - Q / 2), .int .i64 0, .int .i64 0, .int .i64 0, .int .i64 0, .int .i64 0, .string ⟨#[]⟩]) w) := by
  have cK := Lib.hid (fun W => pick_is x.kind 3 2 hK W (by omega) (by omega) hx.kind.1 hx.kind.2)
  have cS := Lib.hid (fun W => pick_is x.stripe 3 S hS W (by omega) (by omega) hx.stripe.1 hx.stripe.2)
  have cQ := Lib.hid (fun W => pick_is x.seq 3 Q hQ W (by omega) (by omega) hx.seq.1 hx.seq.2)
  clear hK hS hQ hx
  have nw := Nat.lt_irrefl w.heap.size
  go_enter Try.func13, Try.ntmps13
  go_wp2_with fail
  go_region_held3 (fun w' => w'.cell? ⟨w.heap.size, 0, none⟩ = some (.int .i64 x.kind) ∧ w'.cell? ⟨w.heap.size, 1, none⟩ = some (.int .i64 x.stripe)) (((try dsimp only); (repeat' apply And.intro) <;> (first | (go_keep; done) | (simp (disch := ((try simp only [World.size_alloc, World.size_drew, World.size_setCell, World.heap_drewN]); try omega)) [*, World.cell?_alloc_lt]; done))))
   (first
    | (go_at_call_of 10 x.kind; refine (cK.out _).mono ?_; rintro e w' ⟨rfl, rfl⟩)
    | (go_at_call_of 10 x.stripe; refine (cS.out _).mono ?_; rintro e w' ⟨rfl, rfl⟩))
  all_goals
    go_wp2_with fail
    refine (cQ.out _).mono ?_
    rintro e w' ⟨rfl, rfl⟩
    go_wp2_with fail
    refine bodyPost_ret (v := .agg #[.int .i64 10, .int .i64 S, .int .i64 ((ep - Q / 2)), .int .i64 0, .int .i64 0, .int .i64 0, .int .i64 0, .int .i64 0, .string ⟨#[]⟩]) (by simp [results, Try.results13, go_sem, *]) rfl ?_
    exact ⟨rfl, by (repeat (first | (with_reducible (exact Kept.refl _ _)) | (with_reducible (refine Kept.drewN ?_ _)) | (with_reducible (refine Kept.drew ?_)) | (with_reducible (refine Kept.alloc ?_ _)) | ((with_reducible (refine Kept.cellPut ?_ ?_ _)); (focus (first | (intro _; rfl; done) | (intro _; exact .inl rfl) | (intro _; exact .inr rfl) | (intro h; exfalso; dsimp only at h; omega) | (intro h; exfalso; simp at h; omega))))))⟩

theorem ask_any (x : AskM) (ep : Int) (w : World) (hx : RawOk x) (h0 : 0 ≤ ep) (h1 : ep ≤ 16777215) :
    Calls Try.prog 13 #[.agg #[.int .i64 x.kind, .int .i64 x.stripe, .int .i64 x.epoch, .int .i64 x.seq, .int .i64 x.mask, .int .i64 x.node, .int .i64 x.oe, .int .i64 x.os, .string x.block], .int .i64 ep] w (Ret (.agg #[.int .i64 (askF x ep).kind, .int .i64 (askF x ep).stripe, .int .i64 (askF x ep).epoch, .int .i64 0, .int .i64 0, .int .i64 (askF x ep).node, .int .i64 0, .int .i64 0, .string ⟨#[]⟩]) w) := by
  have bK := pickZ_bd x.kind 3 (by omega)
  have bS := pickZ_bd x.stripe 3 (by omega)
  have bQ := pickZ_bd x.seq 3 (by omega)
  have : pickZ x.kind 3 = 0 ∨ pickZ x.kind 3 = 1 ∨ pickZ x.kind 3 = 2 := by omega
  rcases this with hK | hK | hK
  · have e : askF x ep = ⟨8, pickZ x.stripe 3, 0, 0, 0, 0, 0, 0, ⟨#[]⟩⟩ := by simp [askF, hK]
    rw [e]
    exact ask_0 x ep _ w hx h0 h1 hK rfl bS.1 bS.2
  · have e : askF x ep = ⟨9, pickZ x.stripe 3, max 1 (ep - pickZ x.seq 3 / 2), 0, 0, pickZ x.node 6, 0, 0, ⟨#[]⟩⟩ := by simp [askF, hK]
    rw [e]
    by_cases hE : ep - pickZ x.seq 3 / 2 ≤ 1
    · have e1 : max 1 (ep - pickZ x.seq 3 / 2) = 1 := by omega
      rw [e1]
      exact ask_1a x ep _ _ _ w hx h0 h1 hK rfl rfl rfl bQ.1 bQ.2 hE bS.1 bS.2
    · have e1 : max 1 (ep - pickZ x.seq 3 / 2) = ep - pickZ x.seq 3 / 2 := by omega
      rw [e1]
      exact ask_1b x ep _ _ _ w hx h0 h1 hK rfl rfl rfl bQ.1 bQ.2 (by omega) bS.1 bS.2
  · have e : askF x ep = ⟨10, pickZ x.stripe 3, max 1 (ep - pickZ x.seq 3 / 2), 0, 0, 0, 0, 0, ⟨#[]⟩⟩ := by simp [askF, hK]
    rw [e]
    by_cases hE : ep - pickZ x.seq 3 / 2 ≤ 1
    · have e1 : max 1 (ep - pickZ x.seq 3 / 2) = 1 := by omega
      rw [e1]
      exact ask_2a x ep _ _ w hx h0 h1 hK rfl rfl bQ.1 bQ.2 hE bS.1 bS.2
    · have e1 : max 1 (ep - pickZ x.seq 3 / 2) = ep - pickZ x.seq 3 / 2 := by omega
      rw [e1]
      exact ask_2b x ep _ _ w hx h0 h1 hK rfl rfl bQ.1 bQ.2 (by omega) bS.1 bS.2
end Go.Proofs.Ytieeeijaojdbfaa
