/- The walk over GrantHeld: true, whatever the numbers. -/
import Derived.Test.YtieeeijaojdbfaaGrantF
namespace Go.Proofs.Ytieeeijaojdbfaa
open Go.RowKit

theorem pick_is (c n v : Int) (h : pickZ c n = v) (w : World) (h1 : 1 ≤ n) (h2 : n ≤ 9223372036854775807) (h3 : -9223372036854775808 ≤ c) (h4 : c ≤ 9223372036854775807) :
    Calls Try.prog 10 #[.int .i64 c, .int .i64 n] w fun e w' => e = .returned (.int .i64 v) ∧ w = w' := h ▸ pick_any c n w h1 h2 h3 h4

def kG (G a : Int) : KeepM := if a = 200 then ⟨[⟨1, 200, G + 30, -1⟩], 1, 0, ⟨1, 1, -1⟩, ⟨0, 0, 0⟩⟩ else ⟨[⟨1, 201, G + 30, -1⟩], 0, 1, ⟨0, 0, 0⟩, ⟨1, 1, -1⟩⟩
theorem heldA (G a : Int) (ha : a = 200 ∨ a = 201) (h0 : 0 ≤ G) (h1 : G < 1000) : doF (newK 1) G a 1 qL = (kG G a, ⟨1, 1, -1⟩, true) := by
  have hc := clampT_id G h0 (by omega)
  rcases ha with rfl | rfl
  · simp [doF, ansF, r_qL, hc]; simp [newK, qL, ans1, ansL, leaseF, kG]
  · simp [doF, ansF, r_qL, hc]; simp [newK, qL, ans1, ansL, leaseF, kG]
theorem heldOk (G a : Int) : KeepOk (kG G a) := by
  unfold kG
  split
  · exact ⟨by simp, by simp, by simp⟩
  · exact ⟨by simp, by simp, by simp⟩
theorem heldB (G L a : Int) (ha : a = 200 ∨ a = 201) (h0 : 0 ≤ G) (h1 : G < 1000) (hL : 0 ≤ L) (hL2 : L < 30) : ∃ k, doF (kG G a) (G + L) (401 - a) 1 qL = (k, ⟨7, 1, -1⟩, true) := by
  have hc := clampT_id (G + L) (by omega) (by omega)
  have hn : L < 30 := hL2
  rcases ha with rfl | rfl
  · simp [doF, ansF, r_qL, hc, kG]; simp [qL, ans1, ansL, leaseF, hn]
  · simp [doF, ansF, r_qL, hc, kG]; simp [qL, ans1, ansL, leaseF, hn]
theorem heldC (G L a : Int) (ha : a = 200 ∨ a = 201) (h0 : 0 ≤ G) (h1 : G < 1000) (hL : 30 ≤ L) (hL2 : L < 60) : ∃ k, doF (kG G a) (G + L) (401 - a) 1 qL = (k, ⟨1, 2, -1⟩, true) := by
  have hc := clampT_id (G + L) (by omega) (by omega)
  have hn : ¬ L < 30 := by omega
  rcases ha with rfl | rfl
  · simp [doF, ansF, r_qL, hc, kG]; simp [qL, ans1, ansL, leaseF, hn]
  · simp [doF, ansF, r_qL, hc, kG]; simp [qL, ans1, ansL, leaseF, hn]

set_option maxHeartbeats 1600000 in
theorem held_any (given later who : Int) (w : World) (g3 : -9223372036854775808 ≤ given) (g4 : given ≤ 9223372036854775807) (l3 : -9223372036854775808 ≤ later) (l4 : later ≤ 9223372036854775807) (p3 : -9223372036854775808 ≤ who) (p4 : who ≤ 9223372036854775807) :
    Calls Try.prog 3 #[.int .i64 given, .int .i64 later, .int .i64 who] w fun e w' => e = .returned (.bool true) ∧ Kept (fun _ => False) w w' := by
  obtain ⟨G, hG⟩ : ∃ G, pickZ given 1000 = G := ⟨_, rfl⟩
  obtain ⟨L, hL⟩ : ∃ L, pickZ later 60 = L := ⟨_, rfl⟩
  obtain ⟨a, ha⟩ : ∃ a, 200 + pickZ who 2 = a := ⟨_, rfl⟩
  have bG := pickZ_bd given 1000 (by omega)
  have bL := pickZ_bd later 60 (by omega)
  have bP := pickZ_bd who 2 (by omega)
  rw [hG] at bG
  rw [hL] at bL
  obtain ⟨G0, G1⟩ := bG
  obtain ⟨L0, L1⟩ := bL
  have ha' : a = 200 ∨ a = 201 := by omega
  have cG := Lib.hid (fun W => pick_is given 1000 G hG W (by omega) (by omega) g3 g4)
  have cL := Lib.hid (fun W => pick_is later 60 L hL W (by omega) (by omega) l3 l4)
  have cP := Lib.hid (fun W => pick_is who 2 (a - 200) (by omega) W (by omega) (by omega) p3 p4)
  have dA := Lib.hid (heldA G a ha' G0 G1)
  clear hG hL ha bP
  by_cases h30 : L < 30
  · obtain ⟨k, hk⟩ := heldB G L a ha' G0 G1 L0 h30
    have dB := Lib.hid hk
    clear hk
    rcases ha' with rfl | rfl
    · go_enter Try.func3, Try.ntmps3
      go_wp2_with fail
      refine (awake_any _).mono ?_
      rintro e w1 ⟨rfl, hk1⟩
      go_wp2_with fail
      refine (new1 _).mono ?_
      rintro e w2 ⟨rfl, hK2, hk2⟩
      have hk := hk1.trans hk2 (fun _ _ h => h)
      have hk1z := hk1.size
      clear hk1 hk2
      go_wp2_with fail
      refine (cG.out _).mono ?_
      rintro e w' ⟨rfl, rfl⟩
      go_wp2_with fail
      refine (cL.out _).mono ?_
      rintro e w' ⟨rfl, rfl⟩
      go_wp2_with fail
      refine (cP.out _).mono ?_
      rintro e w' ⟨rfl, rfl⟩
      go_wp2_with fail
      refine (do_is (w1.heap.size + 1) w1.heap.size _ G 200 1 qL _ dA.out (newK_ok 1 (by decide) (by decide)) _ hK2).mono ?_
      rintro e w3 ⟨rfl, hK3, hk3⟩
      have z3 := hK3.kb.lt
      have hk' : Kept (fun _ => False) w w3 := hk.trans hk3 (by intro x hx h; have := hk1z; rcases h with h | h <;> omega)
      clear hk hk3 hK2
      go_wp2_with fail
      refine (do_is (w1.heap.size + 1) w1.heap.size _ (G + L) 201 1 qL _ dB.out (heldOk _ _) _ (keepAt_alloc hK3 _)).mono ?_
      rintro e w4 ⟨rfl, hK4, hk4⟩
      have b3 : Blk w4 w3.heap.size 33 [.int .i64 1, .int .i64 1, .int .i64 (-1), .bool false, .int .i64 0, .int .i64 0, .int .i64 0, .string ⟨#[]⟩, .bool false, .int .i64 0, .int .i64 0, .int .i64 0, .string ⟨#[]⟩] := Blk.kept (Blk.new _ _ _) hk4 (by intro h; rcases h with h | h <;> omega)
      have hk : Kept (fun _ => False) w w4 := (hk'.alloc _).trans hk4 (by intro x hx h; have := hk1z; rcases h with h | h <;> omega)
      have c3 := b3.cell
      have l3 := b3.lt
      clear hk' hk4 hK3 hK4
      go_wp2
      go_ret
      exact ⟨ret_bool (by simp; omega), by (repeat (first | (with_reducible (exact hk)) | (with_reducible (exact Kept.refl _ _)) | (with_reducible (refine Kept.drewN ?_ _)) | (with_reducible (refine Kept.drew ?_)) | (with_reducible (refine Kept.alloc ?_ _)) | ((with_reducible (refine Kept.cellPut ?_ ?_ _)); (focus (first | (intro _; rfl; done) | (intro _; exact .inl rfl) | (intro _; exact .inr rfl) | (intro h; exfalso; dsimp only at h; omega) | (intro h; exfalso; simp at h; omega))))))⟩
    · go_enter Try.func3, Try.ntmps3
      go_wp2_with fail
      refine (awake_any _).mono ?_
      rintro e w1 ⟨rfl, hk1⟩
      go_wp2_with fail
      refine (new1 _).mono ?_
      rintro e w2 ⟨rfl, hK2, hk2⟩
      have hk := hk1.trans hk2 (fun _ _ h => h)
      have hk1z := hk1.size
      clear hk1 hk2
      go_wp2_with fail
      refine (cG.out _).mono ?_
      rintro e w' ⟨rfl, rfl⟩
      go_wp2_with fail
      refine (cL.out _).mono ?_
      rintro e w' ⟨rfl, rfl⟩
      go_wp2_with fail
      refine (cP.out _).mono ?_
      rintro e w' ⟨rfl, rfl⟩
      go_wp2_with fail
      refine (do_is (w1.heap.size + 1) w1.heap.size _ G 201 1 qL _ dA.out (newK_ok 1 (by decide) (by decide)) _ hK2).mono ?_
      rintro e w3 ⟨rfl, hK3, hk3⟩
      have z3 := hK3.kb.lt
      have hk' : Kept (fun _ => False) w w3 := hk.trans hk3 (by intro x hx h; have := hk1z; rcases h with h | h <;> omega)
      clear hk hk3 hK2
      go_wp2_with fail
      refine (do_is (w1.heap.size + 1) w1.heap.size _ (G + L) 200 1 qL _ dB.out (heldOk _ _) _ (keepAt_alloc hK3 _)).mono ?_
      rintro e w4 ⟨rfl, hK4, hk4⟩
      have b3 : Blk w4 w3.heap.size 33 [.int .i64 1, .int .i64 1, .int .i64 (-1), .bool false, .int .i64 0, .int .i64 0, .int .i64 0, .string ⟨#[]⟩, .bool false, .int .i64 0, .int .i64 0, .int .i64 0, .string ⟨#[]⟩] := Blk.kept (Blk.new _ _ _) hk4 (by intro h; rcases h with h | h <;> omega)
      have hk : Kept (fun _ => False) w w4 := (hk'.alloc _).trans hk4 (by intro x hx h; have := hk1z; rcases h with h | h <;> omega)
      have c3 := b3.cell
      have l3 := b3.lt
      clear hk' hk4 hK3 hK4
      go_wp2
      go_ret
      exact ⟨ret_bool (by simp; omega), by (repeat (first | (with_reducible (exact hk)) | (with_reducible (exact Kept.refl _ _)) | (with_reducible (refine Kept.drewN ?_ _)) | (with_reducible (refine Kept.drew ?_)) | (with_reducible (refine Kept.alloc ?_ _)) | ((with_reducible (refine Kept.cellPut ?_ ?_ _)); (focus (first | (intro _; rfl; done) | (intro _; exact .inl rfl) | (intro _; exact .inr rfl) | (intro h; exfalso; dsimp only at h; omega) | (intro h; exfalso; simp at h; omega))))))⟩
  · obtain ⟨k, hk⟩ := heldC G L a ha' G0 G1 (by omega) L1
    have dB := Lib.hid hk
    clear hk
    rcases ha' with rfl | rfl
    · go_enter Try.func3, Try.ntmps3
      go_wp2_with fail
      refine (awake_any _).mono ?_
      rintro e w1 ⟨rfl, hk1⟩
      go_wp2_with fail
      refine (new1 _).mono ?_
      rintro e w2 ⟨rfl, hK2, hk2⟩
      have hk := hk1.trans hk2 (fun _ _ h => h)
      have hk1z := hk1.size
      clear hk1 hk2
      go_wp2_with fail
      refine (cG.out _).mono ?_
      rintro e w' ⟨rfl, rfl⟩
      go_wp2_with fail
      refine (cL.out _).mono ?_
      rintro e w' ⟨rfl, rfl⟩
      go_wp2_with fail
      refine (cP.out _).mono ?_
      rintro e w' ⟨rfl, rfl⟩
      go_wp2_with fail
      refine (do_is (w1.heap.size + 1) w1.heap.size _ G 200 1 qL _ dA.out (newK_ok 1 (by decide) (by decide)) _ hK2).mono ?_
      rintro e w3 ⟨rfl, hK3, hk3⟩
      have z3 := hK3.kb.lt
      have hk' : Kept (fun _ => False) w w3 := hk.trans hk3 (by intro x hx h; have := hk1z; rcases h with h | h <;> omega)
      clear hk hk3 hK2
      go_wp2_with fail
      refine (do_is (w1.heap.size + 1) w1.heap.size _ (G + L) 201 1 qL _ dB.out (heldOk _ _) _ (keepAt_alloc hK3 _)).mono ?_
      rintro e w4 ⟨rfl, hK4, hk4⟩
      have b3 : Blk w4 w3.heap.size 33 [.int .i64 1, .int .i64 1, .int .i64 (-1), .bool false, .int .i64 0, .int .i64 0, .int .i64 0, .string ⟨#[]⟩, .bool false, .int .i64 0, .int .i64 0, .int .i64 0, .string ⟨#[]⟩] := Blk.kept (Blk.new _ _ _) hk4 (by intro h; rcases h with h | h <;> omega)
      have hk : Kept (fun _ => False) w w4 := (hk'.alloc _).trans hk4 (by intro x hx h; have := hk1z; rcases h with h | h <;> omega)
      have c3 := b3.cell
      have l3 := b3.lt
      clear hk' hk4 hK3 hK4
      go_wp2
      go_ret
      exact ⟨ret_bool (by simp; omega), by (repeat (first | (with_reducible (exact hk)) | (with_reducible (exact Kept.refl _ _)) | (with_reducible (refine Kept.drewN ?_ _)) | (with_reducible (refine Kept.drew ?_)) | (with_reducible (refine Kept.alloc ?_ _)) | ((with_reducible (refine Kept.cellPut ?_ ?_ _)); (focus (first | (intro _; rfl; done) | (intro _; exact .inl rfl) | (intro _; exact .inr rfl) | (intro h; exfalso; dsimp only at h; omega) | (intro h; exfalso; simp at h; omega))))))⟩
    · go_enter Try.func3, Try.ntmps3
      go_wp2_with fail
      refine (awake_any _).mono ?_
      rintro e w1 ⟨rfl, hk1⟩
      go_wp2_with fail
      refine (new1 _).mono ?_
      rintro e w2 ⟨rfl, hK2, hk2⟩
      have hk := hk1.trans hk2 (fun _ _ h => h)
      have hk1z := hk1.size
      clear hk1 hk2
      go_wp2_with fail
      refine (cG.out _).mono ?_
      rintro e w' ⟨rfl, rfl⟩
      go_wp2_with fail
      refine (cL.out _).mono ?_
      rintro e w' ⟨rfl, rfl⟩
      go_wp2_with fail
      refine (cP.out _).mono ?_
      rintro e w' ⟨rfl, rfl⟩
      go_wp2_with fail
      refine (do_is (w1.heap.size + 1) w1.heap.size _ G 201 1 qL _ dA.out (newK_ok 1 (by decide) (by decide)) _ hK2).mono ?_
      rintro e w3 ⟨rfl, hK3, hk3⟩
      have z3 := hK3.kb.lt
      have hk' : Kept (fun _ => False) w w3 := hk.trans hk3 (by intro x hx h; have := hk1z; rcases h with h | h <;> omega)
      clear hk hk3 hK2
      go_wp2_with fail
      refine (do_is (w1.heap.size + 1) w1.heap.size _ (G + L) 200 1 qL _ dB.out (heldOk _ _) _ (keepAt_alloc hK3 _)).mono ?_
      rintro e w4 ⟨rfl, hK4, hk4⟩
      have b3 : Blk w4 w3.heap.size 33 [.int .i64 1, .int .i64 1, .int .i64 (-1), .bool false, .int .i64 0, .int .i64 0, .int .i64 0, .string ⟨#[]⟩, .bool false, .int .i64 0, .int .i64 0, .int .i64 0, .string ⟨#[]⟩] := Blk.kept (Blk.new _ _ _) hk4 (by intro h; rcases h with h | h <;> omega)
      have hk : Kept (fun _ => False) w w4 := (hk'.alloc _).trans hk4 (by intro x hx h; have := hk1z; rcases h with h | h <;> omega)
      have c3 := b3.cell
      have l3 := b3.lt
      clear hk' hk4 hK3 hK4
      go_wp2
      go_ret
      exact ⟨ret_bool (by simp; omega), by (repeat (first | (with_reducible (exact hk)) | (with_reducible (exact Kept.refl _ _)) | (with_reducible (refine Kept.drewN ?_ _)) | (with_reducible (refine Kept.drew ?_)) | (with_reducible (refine Kept.alloc ?_ _)) | ((with_reducible (refine Kept.cellPut ?_ ?_ _)); (focus (first | (intro _; rfl; done) | (intro _; exact .inl rfl) | (intro _; exact .inr rfl) | (intro h; exfalso; dsimp only at h; omega) | (intro h; exfalso; simp at h; omega))))))⟩
end Go.Proofs.Ytieeeijaojdbfaa
