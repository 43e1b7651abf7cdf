/- NetSent, walked. -/
import Derived.Test.YthndmmondlpghaaSentB
namespace Go.Proofs.Ythndmmondlpghaa
open Go.RowKit

set_option maxRecDepth 100000 in
set_option maxHeartbeats 4000000 in
theorem sent_any (A : Option Addr) (n cp : Nat) (acts : Nat → Act13) (w : World) (HA : Acts13At w A n acts) :
    Calls Try.prog 6 #[.slice A n cp] w (RetK (.bool true) w) := by
  refine calls_of_holds (S := (fun _ => False)) (l := [.slice A n cp]) (n := 199) Try.func6 (body_of (by kernel_rfl)) rfl (by simp) (MemOk.none w _) ?_
  refine holds_go _ _ (nse_s1 A n cp w) trivial ?_
  refine holds_callP (.bool true) (nse_c2 A n cp) trivial rfl (fun wx hm => awake13P wx) fun z2 hz2 => ?_
  replace hz2 : w.heap.size ≤ z2 := hz2
  refine holds_go _ _ (nse_s3 A n cp z2) trivial ?_
  refine holds_callW (w := w) (S' := (fun _ => False)) (Y := Nat × Nat) (fun (⟨nb, mb⟩ : Nat × Nat) => (nse_p nb 0)) (fun (⟨nb, mb⟩ : Nat × Nat) => []) (fun (⟨nb, mb⟩ : Nat × Nat) W_ => (z2 ≤ mb ∧ mb < nb) ∧ NetAt 43 W_ nb mb []) (fun (⟨nb, mb⟩ : Nat × Nat) => [(23, (nse_p nb 0)), (0, .slice A n cp), (2, .bool false), (3, .bool true)]) (nse_c4 A n cp) trivial (fun _ => rfl) (fun wx hm => ?_) (fun y W1 hX1 hm1 => ?_)
  · refine (new_net wx).mono fun e w' ⟨nb', mb', he, h1, h2, h3, h4⟩ => ?_
    have hs : wx.heap.size = z2 := hm.size
    exact ⟨(nb', mb'), he, ⟨⟨by omega, h2⟩, h3⟩, (hm.same h4).2⟩
  obtain ⟨nb, mb⟩ := y
  obtain ⟨hz_nb, hX1⟩ := hX1
  have hN1nb := hX1
  have hl_hN1nb := hN1nb.lt
  have hnT : ∀ xx, (xx = nb ∨ xx = mb) → ¬ Turned [] xx := by
    rintro xx hx2 ⟨b, hb, hr, he⟩
    simp at hb
  refine holds_go _ _ (nse_s5 A n cp nb W1) ⟨rfl, rfl, rfl, rfl, trivial⟩ ?_
  refine holds_ground [false, false, true, true] (bk' := [⟨W1.heap.size, 9, false, (nse_v2)⟩, ⟨W1.heap.size + 1, 22, false, [.slice (some ⟨W1.heap.size, 0, none⟩) 5 5]⟩, ⟨W1.heap.size + 2, 39, true, [.int .i64 0, .int .i64 0, .int .i64 0, .int .i64 0, .int .i64 0]⟩, ⟨W1.heap.size + 3, 3, true, [.int .i64 0]⟩]) rfl (fun W2 hm hm2' => ?_)
  have hm2 := MemOk.back2 hm1 hm2'
  have hN2nb := (hN1nb.kept hm.kept (hnT _ (by omega)) (hnT _ (by omega)))
  clear hnT
  have hl_hN2nb := hN2nb.lt
  have hgb2_0 := (hm2.at_ 0 rfl).lt
  replace hgb2_0 : W1.heap.size < W2.heap.size := hgb2_0
  have hgb2_1 := (hm2.at_ 1 rfl).lt
  replace hgb2_1 : W1.heap.size + 1 < W2.heap.size := hgb2_1
  have hgb2_2 := (hm2.at_ 2 rfl).lt
  replace hgb2_2 : W1.heap.size + 2 < W2.heap.size := hgb2_2
  have hgb2_3 := (hm2.at_ 3 rfl).lt
  replace hgb2_3 : W1.heap.size + 3 < W2.heap.size := hgb2_3
  have hnT : ∀ xx, (xx = nb ∨ xx = mb) → ¬ Turned [⟨W1.heap.size, 9, false, (nse_v2)⟩, ⟨W1.heap.size + 1, 22, false, [.slice (some ⟨W1.heap.size, 0, none⟩) 5 5]⟩, ⟨W1.heap.size + 2, 39, true, [.int .i64 0, .int .i64 0, .int .i64 0, .int .i64 0, .int .i64 0]⟩, ⟨W1.heap.size + 3, 3, true, [.int .i64 0]⟩] xx := by
    rintro xx hx2 ⟨b, hb, hr, he⟩
    simp at hb
    rcases hb with rfl | rfl | rfl | rfl <;> simp at he hr <;> omega
  refine holds_loopW (w := w) (S' := fun _ => False) (SentI A n cp nb mb W1) 150 (by kernel_rfl) (fun W3 hm => ⟨⟨0, [], 0, fun _ => 0, _, rfl, Nat.zero_le _, rfl, sent_new, (hN2nb.kept hm.kept (hnT _ (by omega)) (hnT _ (by omega))), rfl⟩, MemOk.back2 hm2 hm⟩) ?_
  rintro m2 _ W3 ⟨i, L, a, u, z2, hmi, hin, ha0, hR, hN3nb, rfl⟩ hm3 J hJ
  clear hnT
  have hl64 := hN3nb.srt
  have hu := hR.bd hl64.2
  have hnd : [W1.heap.size, W1.heap.size + 1, W1.heap.size + 2, W1.heap.size + 3].Nodup := hm3.nd
  have hl_hN3nb := hN3nb.lt
  have hgb3_0 := (hm3.at_ 0 rfl).lt
  replace hgb3_0 : W1.heap.size < W3.heap.size := hgb3_0
  have hgb3_1 := (hm3.at_ 1 rfl).lt
  replace hgb3_1 : W1.heap.size + 1 < W3.heap.size := hgb3_1
  have hgb3_2 := (hm3.at_ 2 rfl).lt
  replace hgb3_2 : W1.heap.size + 2 < W3.heap.size := hgb3_2
  have hgb3_3 := (hm3.at_ 3 rfl).lt
  replace hgb3_3 : W1.heap.size + 3 < W3.heap.size := hgb3_3
  have hnT : ∀ xx, (xx = nb ∨ xx = mb) → ¬ Turned [⟨W1.heap.size, 9, false, (nse_v2)⟩, ⟨W1.heap.size + 1, 22, false, [.slice (some ⟨W1.heap.size, 0, none⟩) 5 5]⟩, ⟨W1.heap.size + 2, 39, true, (intsU u)⟩, ⟨W1.heap.size + 3, 3, true, [.int .i64 a]⟩] xx := by
    rintro xx hx2 ⟨b, hb, hr, he⟩
    simp at hb
    rcases hb with rfl | rfl | rfl | rfl <;> simp at he hr <;> omega
  by_cases h1 : i < n
  rotate_left
  · skip
    refine holds_go _ _ (nse_s6 A n cp i nb W1 W3 J a u) ⟨decide_eq_false (by omega), decide_eq_false (by omega), decide_eq_false (by omega), rfl, trivial⟩ ?_
    refine holds_loop (SentK1 nb L W1 W3 a) L.length (by kernel_rfl) ⟨0, 0, u, _, rfl, Nat.zero_le _, hR, fun kq hq => absurd hq (Nat.not_lt_zero _), Nat.le_refl _, rfl⟩ ?_
    rintro m3 _ ⟨j, k, v, z3, hmj, hk5, hR3, hv0, hz3, rfl⟩ J2 hJ2
    have hv := hR3.bd (by rw [List.length_drop]; omega)
    by_cases h3 : j < L.length
    rotate_left
    · skip
      refine holds_go _ _ (nse_s7 j k nb W1 J2 a z3 v) ⟨decide_eq_false (by omega), trivial⟩ ?_
      refine holds_ret [] (by kernel_rfl) (nse_r8 W1 a v) ?_
      intro wx hm
      exact ⟨rfl, (MemOk.back2 hm3 hm).kept⟩
    obtain ⟨x, q, hq, hxq, hlk, hdr, hvq⟩ := hR3.head h3
    have hkq : k ≤ q := by
      refine Nat.not_lt.1 fun h => ?_
      have := hv0 q h
      omega
    refine holds_go _ _ (nse_s9 j k nb W1 J2 a z3 v) ⟨decide_eq_true (by omega), trivial⟩ ?_
    refine holds_loop (SentW1 j nb W1 W3 q a v) (q - k) (by kernel_rfl) ⟨k, _, by omega, hv0, by first | exact hz3 | omega, rfl⟩ ?_
    clear hkq hv0
    rintro m4 _ ⟨k, z4, hmk, hv0, hz4, rfl⟩ J4 hJ4
    refine holds_go _ _ (nse_s10 j k nb W1 J2 a z4 v J4) ⟨decide_eq_true (by omega), decide_eq_true (by omega), ⟨by omega, by omega⟩, trivial⟩ ?_
    refine holds_opRG (dst := (some 169)) (x := Instr.loadAt 3 (.pointer (some ⟨W1.heap.size + 2, 0 + (Int.toNat (k : Int)) * 1, none⟩))) (ob := (decide (((k : Int) : Int) < 5)) = true) (.int .i64 (v k)) (by kernel_rfl) (decide_eq_true (by omega)) (by kernel_rfl) rfl (fun wx hm => ?_) ?_
    · exact run_loadV (P := Try.prog) wx 3 (W1.heap.size + 2) (0 + k * 1) 39 _ _ (by kernel_rfl) (hm.at_ 2 rfl) (intsU_at (by omega))
    by_cases h4 : v k = 0
    · skip
      refine holds_go _ _ (nse_s12 j k nb W1 J2 a z4 v J4) ⟨decide_eq_true (by omega), decide_eq_true (by omega), beq_iff_eq.2 h4, in64 (by omega), trivial⟩ ?_
      have hkq : k < q := by
        refine Nat.lt_of_le_of_ne (by omega) fun e_ => ?_
        subst e_
        omega
      exact hJ4 (m4 - 1) _ (by omega) ⟨k + 1, z4, by omega, fun kq hkq2 => by rcases Nat.lt_or_eq_of_le (Nat.le_of_lt_succ hkq2) with h | h; exact hv0 kq h; exact h ▸ h4, by omega, by rw [cast_succ]⟩
    have hkq : k = q := hR3.first hl64.1 hq (by omega) hxq hdr h4
    subst hkq
    clear hJ4
    have hvk := hv k
    refine holds_go _ _ (nse_s13 j k nb W1 J2 a z4 v J4) ⟨decide_eq_true (by omega), decide_eq_true (by omega), beq_eq_false_iff_ne.2 h4, trivial⟩ ?_
    refine holds_callP (.tuple #[.string (tx5 k), .bool true]) (nse_c14 j k nb W1) trivial rfl (fun wx hm => by have h := look_net nb mb L (j : Int) wx (hN3nb.kept hm.kept (hnT _ (by omega)) (hnT _ (by omega))); rw [hlk, hxq] at h; exact h) fun z14 hz14 => ?_
    replace hz14 : z4 ≤ z14 := hz14
    refine holds_go _ _ (nse_s15 j k nb W1 J2 a v z14) ⟨rfl, rfl, rfl, decide_eq_false (by omega), decide_eq_false (by omega), decide_eq_false (by omega), decide_eq_false (by omega), ⟨by omega, by omega⟩, trivial⟩ ?_
    refine holds_opRG (dst := (some 191)) (x := Instr.loadAt 9 (.pointer (some ⟨W1.heap.size, 0 + k * 1, none⟩))) (ob := (decide (((k : Int) : Int) > 4)) = false) (.string (tx5 k)) (by kernel_rfl) (decide_eq_false (by omega)) (by kernel_rfl) rfl (fun wx hm => ?_) ?_
    · exact run_loadV (P := Try.prog) wx 9 W1.heap.size (0 + k * 1) 9 _ _ (by kernel_rfl) (hm.at_ 0 rfl) (tx5_at (by omega))
    refine holds_go _ _ (nse_s17 j k nb W1 J2 a v z14) ⟨decide_eq_false (by omega), decide_eq_false (by omega), (by rw [beq_self_eq_true _]; rfl), ⟨by omega, by omega⟩, trivial⟩ ?_
    refine holds_opR (dst := (some 196)) (x := Instr.loadAt 3 (.pointer (some ⟨W1.heap.size + 2, 0 + (Int.toNat (k : Int)) * 1, none⟩))) (.int .i64 (v k)) (by kernel_rfl) (by kernel_rfl) rfl (fun wx hm => ?_) ?_
    · exact run_loadV (P := Try.prog) wx 3 (W1.heap.size + 2) (0 + k * 1) 39 _ _ (by kernel_rfl) (hm.at_ 2 rfl) (intsU_at (by omega))
    refine holds_go _ _ (nse_s19 j k nb W1 J2 a v z14) ⟨in64 (by omega), ⟨by omega, by omega⟩, trivial⟩ ?_
    refine holds_opS (x := Instr.storeAt 3 (.pointer (some ⟨W1.heap.size + 2, 0 + (Int.toNat (k : Int)) * 1, none⟩)) (.int .i64 ((v k) - 1))) [⟨W1.heap.size, 9, false, (nse_v2)⟩, ⟨W1.heap.size + 1, 22, false, [.slice (some ⟨W1.heap.size, 0, none⟩) 5 5]⟩, ⟨W1.heap.size + 2, 39, true, (intsU (addU v k (-1)))⟩, ⟨W1.heap.size + 3, 3, true, [.int .i64 a]⟩] (by kernel_rfl) (by kernel_rfl) rfl (fun wx hm => ?_) (fun z20 hz20 => ?_)
    · exact store_u (P := Try.prog) (t := 3) (k := k) hm (i := 2) rfl hq (by rw [addU_at]; omega) (by kernel_rfl)
    replace hz20 : z14 ≤ z20 := hz20
    refine holds_go _ _ (nse_s21 j k nb W1 J2 a v z20) ⟨in64 (by omega), trivial⟩ ?_
    refine holds_prune [2, 4, 5, 6, 7, 18, 19] [true, true, true, true] ?_
    exact hJ2 (m3 - 1) _ (by omega) ⟨j + 1, k, addU v k (-1), z20, by omega, by omega, hR3.tail hq hxq hdr, fun kq h => by unfold addU; rw [if_neg (by omega)]; exact hv0 kq h, by omega, by rw [cast_succ]; rfl⟩
  by_cases h2 : i < 150
  rotate_left
  · skip
    refine holds_go _ _ (nse_s22 A n cp i nb W1 W3 J a u) ⟨decide_eq_true (by omega), decide_eq_true (by omega), decide_eq_true (by omega), decide_eq_false (by omega), trivial⟩ ?_
    refine holds_loop (SentK2 nb L W1 W3 a) L.length (by kernel_rfl) ⟨0, 0, u, _, rfl, Nat.zero_le _, hR, fun kq hq => absurd hq (Nat.not_lt_zero _), Nat.le_refl _, rfl⟩ ?_
    rintro m3 _ ⟨j, k, v, z3, hmj, hk5, hR3, hv0, hz3, rfl⟩ J2 hJ2
    have hv := hR3.bd (by rw [List.length_drop]; omega)
    by_cases h3 : j < L.length
    rotate_left
    · skip
      refine holds_go _ _ (nse_s23 j k nb W1 J2 a z3 v) ⟨decide_eq_false (by omega), trivial⟩ ?_
      refine holds_ret [] (by kernel_rfl) (nse_r24 W1 a v) ?_
      intro wx hm
      exact ⟨rfl, (MemOk.back2 hm3 hm).kept⟩
    obtain ⟨x, q, hq, hxq, hlk, hdr, hvq⟩ := hR3.head h3
    have hkq : k ≤ q := by
      refine Nat.not_lt.1 fun h => ?_
      have := hv0 q h
      omega
    refine holds_go _ _ (nse_s25 j k nb W1 J2 a z3 v) ⟨decide_eq_true (by omega), trivial⟩ ?_
    refine holds_loop (SentW2 j nb W1 W3 q a v) (q - k) (by kernel_rfl) ⟨k, _, by omega, hv0, by first | exact hz3 | omega, rfl⟩ ?_
    clear hkq hv0
    rintro m4 _ ⟨k, z4, hmk, hv0, hz4, rfl⟩ J4 hJ4
    refine holds_go _ _ (nse_s26 j k nb W1 J2 a z4 v J4) ⟨decide_eq_true (by omega), decide_eq_true (by omega), ⟨by omega, by omega⟩, trivial⟩ ?_
    refine holds_opRG (dst := (some 169)) (x := Instr.loadAt 3 (.pointer (some ⟨W1.heap.size + 2, 0 + (Int.toNat (k : Int)) * 1, none⟩))) (ob := (decide (((k : Int) : Int) < 5)) = true) (.int .i64 (v k)) (by kernel_rfl) (decide_eq_true (by omega)) (by kernel_rfl) rfl (fun wx hm => ?_) ?_
    · exact run_loadV (P := Try.prog) wx 3 (W1.heap.size + 2) (0 + k * 1) 39 _ _ (by kernel_rfl) (hm.at_ 2 rfl) (intsU_at (by omega))
    by_cases h4 : v k = 0
    · skip
      refine holds_go _ _ (nse_s28 j k nb W1 J2 a z4 v J4) ⟨decide_eq_true (by omega), decide_eq_true (by omega), beq_iff_eq.2 h4, in64 (by omega), trivial⟩ ?_
      have hkq : k < q := by
        refine Nat.lt_of_le_of_ne (by omega) fun e_ => ?_
        subst e_
        omega
      exact hJ4 (m4 - 1) _ (by omega) ⟨k + 1, z4, by omega, fun kq hkq2 => by rcases Nat.lt_or_eq_of_le (Nat.le_of_lt_succ hkq2) with h | h; exact hv0 kq h; exact h ▸ h4, by omega, by rw [cast_succ]⟩
    have hkq : k = q := hR3.first hl64.1 hq (by omega) hxq hdr h4
    subst hkq
    clear hJ4
    have hvk := hv k
    refine holds_go _ _ (nse_s29 j k nb W1 J2 a z4 v J4) ⟨decide_eq_true (by omega), decide_eq_true (by omega), beq_eq_false_iff_ne.2 h4, trivial⟩ ?_
    refine holds_callP (.tuple #[.string (tx5 k), .bool true]) (nse_c30 j k nb W1) trivial rfl (fun wx hm => by have h := look_net nb mb L (j : Int) wx (hN3nb.kept hm.kept (hnT _ (by omega)) (hnT _ (by omega))); rw [hlk, hxq] at h; exact h) fun z30 hz30 => ?_
    replace hz30 : z4 ≤ z30 := hz30
    refine holds_go _ _ (nse_s31 j k nb W1 J2 a v z30) ⟨rfl, rfl, rfl, decide_eq_false (by omega), decide_eq_false (by omega), decide_eq_false (by omega), decide_eq_false (by omega), ⟨by omega, by omega⟩, trivial⟩ ?_
    refine holds_opRG (dst := (some 191)) (x := Instr.loadAt 9 (.pointer (some ⟨W1.heap.size, 0 + k * 1, none⟩))) (ob := (decide (((k : Int) : Int) > 4)) = false) (.string (tx5 k)) (by kernel_rfl) (decide_eq_false (by omega)) (by kernel_rfl) rfl (fun wx hm => ?_) ?_
    · exact run_loadV (P := Try.prog) wx 9 W1.heap.size (0 + k * 1) 9 _ _ (by kernel_rfl) (hm.at_ 0 rfl) (tx5_at (by omega))
    refine holds_go _ _ (nse_s33 j k nb W1 J2 a v z30) ⟨decide_eq_false (by omega), decide_eq_false (by omega), (by rw [beq_self_eq_true _]; rfl), ⟨by omega, by omega⟩, trivial⟩ ?_
    refine holds_opR (dst := (some 196)) (x := Instr.loadAt 3 (.pointer (some ⟨W1.heap.size + 2, 0 + (Int.toNat (k : Int)) * 1, none⟩))) (.int .i64 (v k)) (by kernel_rfl) (by kernel_rfl) rfl (fun wx hm => ?_) ?_
    · exact run_loadV (P := Try.prog) wx 3 (W1.heap.size + 2) (0 + k * 1) 39 _ _ (by kernel_rfl) (hm.at_ 2 rfl) (intsU_at (by omega))
    refine holds_go _ _ (nse_s35 j k nb W1 J2 a v z30) ⟨in64 (by omega), ⟨by omega, by omega⟩, trivial⟩ ?_
    refine holds_opS (x := Instr.storeAt 3 (.pointer (some ⟨W1.heap.size + 2, 0 + (Int.toNat (k : Int)) * 1, none⟩)) (.int .i64 ((v k) - 1))) [⟨W1.heap.size, 9, false, (nse_v2)⟩, ⟨W1.heap.size + 1, 22, false, [.slice (some ⟨W1.heap.size, 0, none⟩) 5 5]⟩, ⟨W1.heap.size + 2, 39, true, (intsU (addU v k (-1)))⟩, ⟨W1.heap.size + 3, 3, true, [.int .i64 a]⟩] (by kernel_rfl) (by kernel_rfl) rfl (fun wx hm => ?_) (fun z36 hz36 => ?_)
    · exact store_u (P := Try.prog) (t := 3) (k := k) hm (i := 2) rfl hq (by rw [addU_at]; omega) (by kernel_rfl)
    replace hz36 : z30 ≤ z36 := hz36
    refine holds_go _ _ (nse_s37 j k nb W1 J2 a v z36) ⟨in64 (by omega), trivial⟩ ?_
    refine holds_prune [2, 4, 5, 6, 7, 18, 19] [true, true, true, true] ?_
    exact hJ2 (m3 - 1) _ (by omega) ⟨j + 1, k, addU v k (-1), z36, by omega, by omega, hR3.tail hq hxq hdr, fun kq h => by unfold addU; rw [if_neg (by omega)]; exact hv0 kq h, by omega, by rw [cast_succ]; rfl⟩
  obtain ⟨ha, b, o, rfl, hb, hc⟩ := HA i h1
  obtain ⟨C, hC⟩ : ∃ C, pickZ (acts i).what 6 = C := ⟨_, rfl⟩
  obtain ⟨D, hD⟩ : ∃ D, pickZ (acts i).at_ (1 + a) = D := ⟨_, rfl⟩
  obtain ⟨E, hE⟩ : ∃ E, pickZ (acts i).at_ 5 = E := ⟨_, rfl⟩
  have hDb : 0 ≤ D ∧ D ≤ a := by
    have h := pickZ_bd (acts i).at_ (1 + a) (by omega)
    rw [hD] at h
    omega
  have hEb : 0 ≤ E ∧ E < 5 := by
    have h := pickZ_bd (acts i).at_ 5 (by omega)
    rw [hE] at h
    omega
  have hblk : ∀ x, x < w.heap.size → ¬ Turned [⟨W1.heap.size, 9, false, (nse_v2)⟩, ⟨W1.heap.size + 1, 22, false, [.slice (some ⟨W1.heap.size, 0, none⟩) 5 5]⟩, ⟨W1.heap.size + 2, 39, true, (intsU u)⟩, ⟨W1.heap.size + 3, 3, true, [.int .i64 a]⟩] x := by
    rintro x hx ⟨b, hb, hr, he⟩
    simp at hb
    rcases hb with rfl | rfl | rfl | rfl <;> simp at he hr <;> omega
  have hgT := (hm3.at_ 0 rfl).lt
  have hcT := hm3.at_ 0 rfl
  have hnTx : ¬ Turned [⟨W1.heap.size, 9, false, (nse_v2)⟩, ⟨W1.heap.size + 1, 22, false, [.slice (some ⟨W1.heap.size, 0, none⟩) 5 5]⟩, ⟨W1.heap.size + 2, 39, true, (intsU u)⟩, ⟨W1.heap.size + 3, 3, true, [.int .i64 a]⟩] W1.heap.size := by
    rintro ⟨b, hb, hr, he⟩
    simp at hb
    rcases hb with rfl | rfl | rfl | rfl <;> simp at he hr
  refine holds_wins [⟨b, o + i * 4, (acts i).cells⟩, ⟨W1.heap.size, 0 + (Int.toNat E) * 1, [.string (tx5 (Int.toNat E))]⟩] (fun _ x hx => ?_) ?_
  · simp only [List.mem_cons, List.not_mem_nil, or_false] at hx
    rcases hx with rfl | rfl
    · exact ⟨hblk _ hb, win_kept hb hc rfl hm3.kept id⟩
    · refine ⟨hnTx, hgT, fun q v hv => ?_⟩
      match q, hv with
      | 0, hv =>
        simp only [List.getElem?_cons_zero, Option.some.injEq] at hv
        subst hv
        exact (hcT.cell _).trans (tx5_at (by omega))
      | q + 1, hv => simp at hv
  refine holds_go _ _ (nse_s38 n cp b o acts i E nb W1 W3 J a u) ⟨decide_eq_true (by omega), decide_eq_true (by omega), decide_eq_true (by omega), decide_eq_true (by omega), ⟨by omega, by omega⟩, in64 (by omega), trivial⟩ ?_
  refine holds_callP (.int .i64 D) (nse_c39 n cp b o acts i nb W1 W3 a) trivial rfl (fun wx hm => pick13 _ _ _ hD wx (by omega) (by omega) ha.at_) fun z39 hz39 => ?_
  replace hz39 : W3.heap.size + 1 ≤ z39 := hz39
  refine holds_go _ _ (nse_s40 n cp b o acts i D E nb W1 W3 J a u z39) trivial ?_
  by_cases hY : D < a
  · skip
    obtain ⟨x, hx, hx2⟩ := lookR_some (L := L) hDb.1 (by omega)
    obtain ⟨q, hq, rfl⟩ := hR.els x (List.mem_of_getElem? hx2)
    refine holds_callP (.tuple #[.string (tx5 q), .bool true]) (nse_c41 n cp b o i D nb W1 W3) trivial rfl (fun wx hm => by have h := look_net nb mb L D wx (hN3nb.kept hm.kept (hnT _ (by omega)) (hnT _ (by omega))); rw [hx] at h; exact h) fun z41 hz41 => ?_
    replace hz41 : z39 ≤ z41 := hz41
    refine holds_go _ _ (nse_s42 n cp b o acts i D E nb W1 W3 J q a u z41) ⟨(by rw [show (true == (decide ((D : Int) < a))) = true from (by rw [show ((decide ((D : Int) < a))) = true from decide_eq_true (by omega)]; rfl)]; rfl), trivial⟩ ?_
    refine holds_callP (.int .i64 C) (nse_c43 n cp b o acts i D nb W1 W3 q a) trivial rfl (fun wx hm => pick13 _ _ _ hC wx (by omega) (by omega) ha.what) fun z43 hz43 => ?_
    replace hz43 : z41 ≤ z43 := hz43
    by_cases hF : 64 ≤ a
    · skip
      have hFl : L.length = 64 := by omega
      rcases Bool.eq_false_or_eq_true (C == 0) with d0 | d0
      · skip
        refine holds_go _ _ (nse_s44 n cp b o acts i C D E nb W1 W3 J q a u z43) ⟨d0, d0, trivial⟩ ?_
        refine holds_quietG _ _ (by kernel_rfl) (by kernel_rfl) (by kernel_rfl) (nse_q45 n cp b o acts i E nb W1 W3 a u z43) ⟨(fun wx hm => pick13 _ _ _ hE wx (by omega) (by omega) ha.at_), ⟨by omega, by omega⟩, trivial⟩ fun z45 hz45 => ?_
        replace hz45 : z43 ≤ z45 := hz45
        refine holds_go _ _ (nse_s46 n cp b o acts i E nb W1 W3 J a u z45) trivial ?_
        have hnB : ∀ b ∈ ([⟨W1.heap.size, 9, false, (nse_v2)⟩, ⟨W1.heap.size + 1, 22, false, [.slice (some ⟨W1.heap.size, 0, none⟩) 5 5]⟩, ⟨W1.heap.size + 2, 39, true, (intsU u)⟩, ⟨W1.heap.size + 3, 3, true, [.int .i64 a]⟩, ⟨W3.heap.size, 36, true, (nse_v3 acts i)⟩] : List Bk), ¬ (b.g = nb ∨ b.g = mb) := by
          intro b hb hx2
          simp at hb
          rcases hb with rfl | rfl | rfl | rfl | rfl <;> simp at hx2 <;> omega
        refine holds_callW (w := w) (S' := (fun _ => False)) (Y := Nat) (fun _ => .bool false) (fun _ => [⟨W1.heap.size, 9, false, (nse_v2)⟩, ⟨W1.heap.size + 1, 22, false, [.slice (some ⟨W1.heap.size, 0, none⟩) 5 5]⟩, ⟨W1.heap.size + 2, 39, true, (intsU u)⟩, ⟨W1.heap.size + 3, 3, true, [.int .i64 a]⟩, ⟨W3.heap.size, 36, true, (nse_v3 acts i)⟩]) (fun _ W_ => NetAt 43 W_ nb mb (sendL L (tx5 (Int.toNat E)))) (fun _ => [(93, .bool false), (0, .slice (some ⟨b, o, none⟩) n cp), (2, .bool false), (4, (nse_p nb 0)), (5, (nse_p (W1.heap.size + 1) 0)), (6, (nse_p (W1.heap.size + 2) 0)), (7, (nse_p (W1.heap.size + 3) 0)), (8, .func (.func 24) #[] (List.toArray (nse_v1 W1))), (9, .int .i64 (i : Int)), (14, .bool (decide ((a : Int) ≥ 64))), (15, .string (tx5 (Int.toNat E))), (91, (nse_p nb 0)), (92, .string (tx5 (Int.toNat E)))]) (nse_c47 n cp b o i E nb W1 a) trivial (fun _ => rfl) (fun wx hm => ?_) (fun _ W4 hX4 hm4 => ?_)
        · refine (send_net nb mb L (tx5 (Int.toNat E)) wx (hN3nb.kept hm.kept (hnT _ (by omega)) (hnT _ (by omega)))).mono fun e w' ⟨h1, h2, h3⟩ => ?_
          rw [okS_full hFl] at h1
          exact ⟨0, h1, h2, (MemOk.back2 hm3 hm).offN (fun _ h => h) h3 (fun x h => .inr (by rcases h with h | h <;> omega)) (fun b hb h => hnB b hb (by rcases h with h | h <;> omega))⟩
        clear hnT hnB
        have hN4nb := hX4
        have hl_hN4nb := hN4nb.lt
        have hgb4_0 := (hm4.at_ 0 rfl).lt
        replace hgb4_0 : W1.heap.size < W4.heap.size := hgb4_0
        have hgb4_1 := (hm4.at_ 1 rfl).lt
        replace hgb4_1 : W1.heap.size + 1 < W4.heap.size := hgb4_1
        have hgb4_2 := (hm4.at_ 2 rfl).lt
        replace hgb4_2 : W1.heap.size + 2 < W4.heap.size := hgb4_2
        have hgb4_3 := (hm4.at_ 3 rfl).lt
        replace hgb4_3 : W1.heap.size + 3 < W4.heap.size := hgb4_3
        have hgb4_4 := (hm4.at_ 4 rfl).lt
        replace hgb4_4 : W3.heap.size < W4.heap.size := hgb4_4
        have hnT : ∀ xx, (xx = nb ∨ xx = mb) → ¬ Turned [⟨W1.heap.size, 9, false, (nse_v2)⟩, ⟨W1.heap.size + 1, 22, false, [.slice (some ⟨W1.heap.size, 0, none⟩) 5 5]⟩, ⟨W1.heap.size + 2, 39, true, (intsU u)⟩, ⟨W1.heap.size + 3, 3, true, [.int .i64 a]⟩, ⟨W3.heap.size, 36, true, (nse_v3 acts i)⟩] xx := by
          rintro xx hx2 ⟨b, hb, hr, he⟩
          simp at hb
          rcases hb with rfl | rfl | rfl | rfl | rfl <;> simp at he hr <;> omega
        refine holds_go _ _ (nse_s48 n cp b o acts i E nb W1 W3 W4 J a u) ⟨(by rw [show ((decide ((a : Int) ≥ 64))) = true from decide_eq_true (by omega)]; rfl), (by rw [show ((decide ((a : Int) ≥ 64))) = true from decide_eq_true (by omega)]; rfl), (by rw [show ((decide ((a : Int) ≥ 64))) = true from decide_eq_true (by omega)]; rfl), (by rw [decide_eq_true (by omega)]; rfl), (by rw [decide_eq_true (by omega)]; rfl), (by rw [decide_eq_true (by omega)]; rfl), (by rw [decide_eq_true (by omega)]; rfl), (by rw [show ((decide ((a : Int) ≥ 64))) = true from decide_eq_true (by omega)]; rfl), (by rw [decide_eq_true (by omega)]; rfl), (by rw [show ((decide ((a : Int) ≥ 64))) = true from decide_eq_true (by omega)]; rfl), rfl, trivial⟩ ?_
        have hlen : ((sendL L (tx5 (Int.toNat E))).length : Int) = a := by rw [sendL_full hFl]; omega
        refine holds_quietG _ _ (by kernel_rfl) (by kernel_rfl) (by kernel_rfl) (nse_q49 n cp b o acts i nb W1 W3 W4 a u) ⟨(fun wx hm => by have h := len_net nb mb (sendL L (tx5 (Int.toNat E))) wx (hN4nb.kept hm.2.kept (hnT _ (by omega)) (hnT _ (by omega))); rw [hlen] at h; exact h), trivial⟩ fun z49 hz49 => ?_
        replace hz49 : W4.heap.size ≤ z49 := hz49
        refine holds_go _ _ (nse_s50 n cp b o acts i nb W1 W3 J a u z49) ⟨by simp, in64 (by omega), trivial⟩ ?_
        refine holds_prune nse_n9 [true, true, true, true, false] ?_
        intro a_ w9 hf hm
        exact hJ (m2 - 1) _ a_ w9 (by omega) ⟨i + 1, (sendL L (tx5 (Int.toNat E))), a, u, _, by omega, by omega, hlen.symm, (sent_full hR hFl _), (hN4nb.kept hm.kept (hnT _ (by omega)) (hnT _ (by omega))), by rw [cast_succ]; rfl⟩ hf (MemOk.back2 hm4 hm)
      rcases Bool.eq_false_or_eq_true (C == 1) with d1 | d1
      · skip
        refine holds_go _ _ (nse_s51 n cp b o acts i C D E nb W1 W3 J q a u z43) ⟨d0, d1, d1, trivial⟩ ?_
        refine holds_quietG _ _ (by kernel_rfl) (by kernel_rfl) (by kernel_rfl) (nse_q52 n cp b o acts i E nb W1 W3 a u z43) ⟨(fun wx hm => pick13 _ _ _ hE wx (by omega) (by omega) ha.at_), ⟨by omega, by omega⟩, trivial⟩ fun z52 hz52 => ?_
        replace hz52 : z43 ≤ z52 := hz52
        refine holds_go _ _ (nse_s53 n cp b o acts i E nb W1 W3 J a u z52) trivial ?_
        have hnB : ∀ b ∈ ([⟨W1.heap.size, 9, false, (nse_v2)⟩, ⟨W1.heap.size + 1, 22, false, [.slice (some ⟨W1.heap.size, 0, none⟩) 5 5]⟩, ⟨W1.heap.size + 2, 39, true, (intsU u)⟩, ⟨W1.heap.size + 3, 3, true, [.int .i64 a]⟩, ⟨W3.heap.size, 36, true, (nse_v3 acts i)⟩] : List Bk), ¬ (b.g = nb ∨ b.g = mb) := by
          intro b hb hx2
          simp at hb
          rcases hb with rfl | rfl | rfl | rfl | rfl <;> simp at hx2 <;> omega
        refine holds_callW (w := w) (S' := (fun _ => False)) (Y := Nat) (fun _ => .bool false) (fun _ => [⟨W1.heap.size, 9, false, (nse_v2)⟩, ⟨W1.heap.size + 1, 22, false, [.slice (some ⟨W1.heap.size, 0, none⟩) 5 5]⟩, ⟨W1.heap.size + 2, 39, true, (intsU u)⟩, ⟨W1.heap.size + 3, 3, true, [.int .i64 a]⟩, ⟨W3.heap.size, 36, true, (nse_v3 acts i)⟩]) (fun _ W_ => NetAt 43 W_ nb mb (sendL L (tx5 (Int.toNat E)))) (fun _ => [(93, .bool false), (0, .slice (some ⟨b, o, none⟩) n cp), (2, .bool false), (4, (nse_p nb 0)), (5, (nse_p (W1.heap.size + 1) 0)), (6, (nse_p (W1.heap.size + 2) 0)), (7, (nse_p (W1.heap.size + 3) 0)), (8, .func (.func 24) #[] (List.toArray (nse_v1 W1))), (9, .int .i64 (i : Int)), (14, .bool (decide ((a : Int) ≥ 64))), (15, .string (tx5 (Int.toNat E))), (91, (nse_p nb 0)), (92, .string (tx5 (Int.toNat E)))]) (nse_c54 n cp b o i E nb W1 a) trivial (fun _ => rfl) (fun wx hm => ?_) (fun _ W4 hX4 hm4 => ?_)
        · refine (send_net nb mb L (tx5 (Int.toNat E)) wx (hN3nb.kept hm.kept (hnT _ (by omega)) (hnT _ (by omega)))).mono fun e w' ⟨h1, h2, h3⟩ => ?_
          rw [okS_full hFl] at h1
          exact ⟨0, h1, h2, (MemOk.back2 hm3 hm).offN (fun _ h => h) h3 (fun x h => .inr (by rcases h with h | h <;> omega)) (fun b hb h => hnB b hb (by rcases h with h | h <;> omega))⟩
        clear hnT hnB
        have hN4nb := hX4
        have hl_hN4nb := hN4nb.lt
        have hgb4_0 := (hm4.at_ 0 rfl).lt
        replace hgb4_0 : W1.heap.size < W4.heap.size := hgb4_0
        have hgb4_1 := (hm4.at_ 1 rfl).lt
        replace hgb4_1 : W1.heap.size + 1 < W4.heap.size := hgb4_1
        have hgb4_2 := (hm4.at_ 2 rfl).lt
        replace hgb4_2 : W1.heap.size + 2 < W4.heap.size := hgb4_2
        have hgb4_3 := (hm4.at_ 3 rfl).lt
        replace hgb4_3 : W1.heap.size + 3 < W4.heap.size := hgb4_3
        have hgb4_4 := (hm4.at_ 4 rfl).lt
        replace hgb4_4 : W3.heap.size < W4.heap.size := hgb4_4
        have hnT : ∀ xx, (xx = nb ∨ xx = mb) → ¬ Turned [⟨W1.heap.size, 9, false, (nse_v2)⟩, ⟨W1.heap.size + 1, 22, false, [.slice (some ⟨W1.heap.size, 0, none⟩) 5 5]⟩, ⟨W1.heap.size + 2, 39, true, (intsU u)⟩, ⟨W1.heap.size + 3, 3, true, [.int .i64 a]⟩, ⟨W3.heap.size, 36, true, (nse_v3 acts i)⟩] xx := by
          rintro xx hx2 ⟨b, hb, hr, he⟩
          simp at hb
          rcases hb with rfl | rfl | rfl | rfl | rfl <;> simp at he hr <;> omega
        refine holds_go _ _ (nse_s55 n cp b o acts i E nb W1 W3 W4 J a u) ⟨(by rw [show ((decide ((a : Int) ≥ 64))) = true from decide_eq_true (by omega)]; rfl), (by rw [show ((decide ((a : Int) ≥ 64))) = true from decide_eq_true (by omega)]; rfl), (by rw [show ((decide ((a : Int) ≥ 64))) = true from decide_eq_true (by omega)]; rfl), (by rw [decide_eq_true (by omega)]; rfl), (by rw [decide_eq_true (by omega)]; rfl), (by rw [decide_eq_true (by omega)]; rfl), (by rw [decide_eq_true (by omega)]; rfl), (by rw [show ((decide ((a : Int) ≥ 64))) = true from decide_eq_true (by omega)]; rfl), (by rw [decide_eq_true (by omega)]; rfl), (by rw [show ((decide ((a : Int) ≥ 64))) = true from decide_eq_true (by omega)]; rfl), rfl, trivial⟩ ?_
        have hlen : ((sendL L (tx5 (Int.toNat E))).length : Int) = a := by rw [sendL_full hFl]; omega
        refine holds_quietG _ _ (by kernel_rfl) (by kernel_rfl) (by kernel_rfl) (nse_q56 n cp b o acts i nb W1 W3 W4 a u) ⟨(fun wx hm => by have h := len_net nb mb (sendL L (tx5 (Int.toNat E))) wx (hN4nb.kept hm.2.kept (hnT _ (by omega)) (hnT _ (by omega))); rw [hlen] at h; exact h), trivial⟩ fun z56 hz56 => ?_
        replace hz56 : W4.heap.size ≤ z56 := hz56
        refine holds_go _ _ (nse_s57 n cp b o acts i nb W1 W3 J a u z56) ⟨by simp, in64 (by omega), trivial⟩ ?_
        refine holds_prune nse_n9 [true, true, true, true, false] ?_
        intro a_ w9 hf hm
        exact hJ (m2 - 1) _ a_ w9 (by omega) ⟨i + 1, (sendL L (tx5 (Int.toNat E))), a, u, _, by omega, by omega, hlen.symm, (sent_full hR hFl _), (hN4nb.kept hm.kept (hnT _ (by omega)) (hnT _ (by omega))), by rw [cast_succ]; rfl⟩ hf (MemOk.back2 hm4 hm)
      rcases Bool.eq_false_or_eq_true (C == 2) with d2 | d2
      · skip
        refine holds_go _ _ (nse_s58 n cp b o acts i C D E nb W1 W3 J q a u z43) ⟨d0, d1, d2, trivial⟩ ?_
        refine holds_quietG _ _ (by kernel_rfl) (by kernel_rfl) (by kernel_rfl) (nse_q59 n cp b o acts i E nb W1 W3 a u z43) ⟨(fun wx hm => pick13 _ _ _ hE wx (by omega) (by omega) ha.at_), ⟨by omega, by omega⟩, trivial⟩ fun z59 hz59 => ?_
        replace hz59 : z43 ≤ z59 := hz59
        refine holds_go _ _ (nse_s60 n cp b o acts i E nb W1 W3 J a u z59) trivial ?_
        have hnB : ∀ b ∈ ([⟨W1.heap.size, 9, false, (nse_v2)⟩, ⟨W1.heap.size + 1, 22, false, [.slice (some ⟨W1.heap.size, 0, none⟩) 5 5]⟩, ⟨W1.heap.size + 2, 39, true, (intsU u)⟩, ⟨W1.heap.size + 3, 3, true, [.int .i64 a]⟩, ⟨W3.heap.size, 36, true, (nse_v3 acts i)⟩] : List Bk), ¬ (b.g = nb ∨ b.g = mb) := by
          intro b hb hx2
          simp at hb
          rcases hb with rfl | rfl | rfl | rfl | rfl <;> simp at hx2 <;> omega
        refine holds_callW (w := w) (S' := (fun _ => False)) (Y := Nat) (fun _ => .bool false) (fun _ => [⟨W1.heap.size, 9, false, (nse_v2)⟩, ⟨W1.heap.size + 1, 22, false, [.slice (some ⟨W1.heap.size, 0, none⟩) 5 5]⟩, ⟨W1.heap.size + 2, 39, true, (intsU u)⟩, ⟨W1.heap.size + 3, 3, true, [.int .i64 a]⟩, ⟨W3.heap.size, 36, true, (nse_v3 acts i)⟩]) (fun _ W_ => NetAt 43 W_ nb mb (sendL L (tx5 (Int.toNat E)))) (fun _ => [(93, .bool false), (0, .slice (some ⟨b, o, none⟩) n cp), (2, .bool false), (4, (nse_p nb 0)), (5, (nse_p (W1.heap.size + 1) 0)), (6, (nse_p (W1.heap.size + 2) 0)), (7, (nse_p (W1.heap.size + 3) 0)), (8, .func (.func 24) #[] (List.toArray (nse_v1 W1))), (9, .int .i64 (i : Int)), (14, .bool (decide ((a : Int) ≥ 64))), (15, .string (tx5 (Int.toNat E))), (91, (nse_p nb 0)), (92, .string (tx5 (Int.toNat E)))]) (nse_c61 n cp b o i E nb W1 a) trivial (fun _ => rfl) (fun wx hm => ?_) (fun _ W4 hX4 hm4 => ?_)
        · refine (send_net nb mb L (tx5 (Int.toNat E)) wx (hN3nb.kept hm.kept (hnT _ (by omega)) (hnT _ (by omega)))).mono fun e w' ⟨h1, h2, h3⟩ => ?_
          rw [okS_full hFl] at h1
          exact ⟨0, h1, h2, (MemOk.back2 hm3 hm).offN (fun _ h => h) h3 (fun x h => .inr (by rcases h with h | h <;> omega)) (fun b hb h => hnB b hb (by rcases h with h | h <;> omega))⟩
        clear hnT hnB
        have hN4nb := hX4
        have hl_hN4nb := hN4nb.lt
        have hgb4_0 := (hm4.at_ 0 rfl).lt
        replace hgb4_0 : W1.heap.size < W4.heap.size := hgb4_0
        have hgb4_1 := (hm4.at_ 1 rfl).lt
        replace hgb4_1 : W1.heap.size + 1 < W4.heap.size := hgb4_1
        have hgb4_2 := (hm4.at_ 2 rfl).lt
        replace hgb4_2 : W1.heap.size + 2 < W4.heap.size := hgb4_2
        have hgb4_3 := (hm4.at_ 3 rfl).lt
        replace hgb4_3 : W1.heap.size + 3 < W4.heap.size := hgb4_3
        have hgb4_4 := (hm4.at_ 4 rfl).lt
        replace hgb4_4 : W3.heap.size < W4.heap.size := hgb4_4
        have hnT : ∀ xx, (xx = nb ∨ xx = mb) → ¬ Turned [⟨W1.heap.size, 9, false, (nse_v2)⟩, ⟨W1.heap.size + 1, 22, false, [.slice (some ⟨W1.heap.size, 0, none⟩) 5 5]⟩, ⟨W1.heap.size + 2, 39, true, (intsU u)⟩, ⟨W1.heap.size + 3, 3, true, [.int .i64 a]⟩, ⟨W3.heap.size, 36, true, (nse_v3 acts i)⟩] xx := by
          rintro xx hx2 ⟨b, hb, hr, he⟩
          simp at hb
          rcases hb with rfl | rfl | rfl | rfl | rfl <;> simp at he hr <;> omega
        refine holds_go _ _ (nse_s62 n cp b o acts i E nb W1 W3 W4 J a u) ⟨(by rw [show ((decide ((a : Int) ≥ 64))) = true from decide_eq_true (by omega)]; rfl), (by rw [show ((decide ((a : Int) ≥ 64))) = true from decide_eq_true (by omega)]; rfl), (by rw [show ((decide ((a : Int) ≥ 64))) = true from decide_eq_true (by omega)]; rfl), (by rw [decide_eq_true (by omega)]; rfl), (by rw [decide_eq_true (by omega)]; rfl), (by rw [decide_eq_true (by omega)]; rfl), (by rw [decide_eq_true (by omega)]; rfl), (by rw [show ((decide ((a : Int) ≥ 64))) = true from decide_eq_true (by omega)]; rfl), (by rw [decide_eq_true (by omega)]; rfl), (by rw [show ((decide ((a : Int) ≥ 64))) = true from decide_eq_true (by omega)]; rfl), rfl, trivial⟩ ?_
        have hlen : ((sendL L (tx5 (Int.toNat E))).length : Int) = a := by rw [sendL_full hFl]; omega
        refine holds_quietG _ _ (by kernel_rfl) (by kernel_rfl) (by kernel_rfl) (nse_q63 n cp b o acts i nb W1 W3 W4 a u) ⟨(fun wx hm => by have h := len_net nb mb (sendL L (tx5 (Int.toNat E))) wx (hN4nb.kept hm.2.kept (hnT _ (by omega)) (hnT _ (by omega))); rw [hlen] at h; exact h), trivial⟩ fun z63 hz63 => ?_
        replace hz63 : W4.heap.size ≤ z63 := hz63
        refine holds_go _ _ (nse_s64 n cp b o acts i nb W1 W3 J a u z63) ⟨by simp, in64 (by omega), trivial⟩ ?_
        refine holds_prune nse_n9 [true, true, true, true, false] ?_
        intro a_ w9 hf hm
        exact hJ (m2 - 1) _ a_ w9 (by omega) ⟨i + 1, (sendL L (tx5 (Int.toNat E))), a, u, _, by omega, by omega, hlen.symm, (sent_full hR hFl _), (hN4nb.kept hm.kept (hnT _ (by omega)) (hnT _ (by omega))), by rw [cast_succ]; rfl⟩ hf (MemOk.back2 hm4 hm)
      rcases Bool.eq_false_or_eq_true (C == 3) with d3 | d3
      · skip
        refine holds_go _ _ (nse_s65 n cp b o acts i C D E nb W1 W3 J q a u z43) ⟨d0, d1, d2, d3, trivial⟩ ?_
        have hnB : ∀ b ∈ ([⟨W1.heap.size, 9, false, (nse_v2)⟩, ⟨W1.heap.size + 1, 22, false, [.slice (some ⟨W1.heap.size, 0, none⟩) 5 5]⟩, ⟨W1.heap.size + 2, 39, true, (intsU u)⟩, ⟨W1.heap.size + 3, 3, true, [.int .i64 a]⟩, ⟨W3.heap.size, 36, true, (nse_v3 acts i)⟩] : List Bk), ¬ (b.g = nb ∨ b.g = mb) := by
          intro b hb hx2
          simp at hb
          rcases hb with rfl | rfl | rfl | rfl | rfl <;> simp at hx2 <;> omega
        refine holds_callW (w := w) (S' := (fun _ => False)) (Y := Nat) (fun _ => .tuple #[.string (tx5 q), .bool true]) (fun _ => [⟨W1.heap.size, 9, false, (nse_v2)⟩, ⟨W1.heap.size + 1, 22, false, [.slice (some ⟨W1.heap.size, 0, none⟩) 5 5]⟩, ⟨W1.heap.size + 2, 39, true, (intsU u)⟩, ⟨W1.heap.size + 3, 3, true, [.int .i64 a]⟩, ⟨W3.heap.size, 36, true, (nse_v3 acts i)⟩]) (fun _ W_ => NetAt 43 W_ nb mb (takeL L D)) (fun _ => [(111, .tuple #[.string (tx5 q), .bool true]), (0, .slice (some ⟨b, o, none⟩) n cp), (2, .bool false), (4, (nse_p nb 0)), (5, (nse_p (W1.heap.size + 1) 0)), (6, (nse_p (W1.heap.size + 2) 0)), (7, (nse_p (W1.heap.size + 3) 0)), (8, .func (.func 24) #[] (List.toArray (nse_v1 W1))), (9, .int .i64 (i : Int)), (12, .string (tx5 q)), (13, .bool true), (109, (nse_p nb 0)), (110, .int .i64 D)]) (nse_c66 n cp b o i D nb W1 q) trivial (fun _ => rfl) (fun wx hm => ?_) (fun _ W4 hX4 hm4 => ?_)
        · refine (take_net nb mb L D wx (hN3nb.kept hm.kept (hnT _ (by omega)) (hnT _ (by omega)))).mono fun e w' ⟨h1, h2, h3⟩ => ?_
          rw [hx] at h1
          exact ⟨0, h1, h2, (MemOk.back2 hm3 hm).offN (fun _ h => h) h3 (fun x h => .inr (by rcases h with h | h <;> omega)) (fun b hb h => hnB b hb (by rcases h with h | h <;> omega))⟩
        clear hnT hnB
        have hN4nb := hX4
        have hl_hN4nb := hN4nb.lt
        have hgb4_0 := (hm4.at_ 0 rfl).lt
        replace hgb4_0 : W1.heap.size < W4.heap.size := hgb4_0
        have hgb4_1 := (hm4.at_ 1 rfl).lt
        replace hgb4_1 : W1.heap.size + 1 < W4.heap.size := hgb4_1
        have hgb4_2 := (hm4.at_ 2 rfl).lt
        replace hgb4_2 : W1.heap.size + 2 < W4.heap.size := hgb4_2
        have hgb4_3 := (hm4.at_ 3 rfl).lt
        replace hgb4_3 : W1.heap.size + 3 < W4.heap.size := hgb4_3
        have hgb4_4 := (hm4.at_ 4 rfl).lt
        replace hgb4_4 : W3.heap.size < W4.heap.size := hgb4_4
        have hnT : ∀ xx, (xx = nb ∨ xx = mb) → ¬ Turned [⟨W1.heap.size, 9, false, (nse_v2)⟩, ⟨W1.heap.size + 1, 22, false, [.slice (some ⟨W1.heap.size, 0, none⟩) 5 5]⟩, ⟨W1.heap.size + 2, 39, true, (intsU u)⟩, ⟨W1.heap.size + 3, 3, true, [.int .i64 a]⟩, ⟨W3.heap.size, 36, true, (nse_v3 acts i)⟩] xx := by
          rintro xx hx2 ⟨b, hb, hr, he⟩
          simp at hb
          rcases hb with rfl | rfl | rfl | rfl | rfl <;> simp at he hr <;> omega
        refine holds_go _ _ (nse_s67 n cp b o acts i D nb W1 W3 W4 J q a u) ⟨rfl, rfl, rfl, rfl, (by rw [beq_self_eq_true _]; rfl), (by rw [beq_self_eq_true _]; rfl), rfl, rfl, trivial⟩ ?_
        have hpos : 0 ≤ addU u q (-1) q := by
          rw [addU_at]
          have := hu q
          have := hR.pos hx hq
          omega
        refine holds_callM (.bool true) [⟨W1.heap.size, 9, false, (nse_v2)⟩, ⟨W1.heap.size + 1, 22, false, [.slice (some ⟨W1.heap.size, 0, none⟩) 5 5]⟩, ⟨W1.heap.size + 2, 39, true, (intsU (addU u q (-1)))⟩, ⟨W1.heap.size + 3, 3, true, [.int .i64 (a + (-1))]⟩, ⟨W3.heap.size, 36, true, (nse_v3 acts i)⟩] (nse_c68 n cp b o i nb W1 q) ⟨rfl, trivial⟩ rfl (fun wx hm => ?_) fun z68 hz68 => ?_
        · exact (count_any q hq (-1) (by omega) a (by omega) u hu hpos _ _ _ _ hnd wx (hm.at_ 0 rfl) (hm.at_ 1 rfl) (hm.at_ 2 rfl) (hm.at_ 3 rfl)).mono fun en w' ⟨h1, h2, h3, h4⟩ => ⟨h1, hm.set2 2 3 rfl rfl rfl rfl (by omega) h4 h2 h3⟩
        replace hz68 : W4.heap.size ≤ z68 := hz68
        refine holds_go _ _ (nse_s69 n cp b o acts i nb W1 W3 J q a u z68) ⟨rfl, (by rw [beq_self_eq_true _]; rfl), rfl, (by rw [beq_self_eq_true _]; rfl), rfl, trivial⟩ ?_
        have hlen : ((takeL L D).length : Int) = (a + (-1)) := by rw [takeL_len hx]; omega
        refine holds_quietG _ _ (by kernel_rfl) (by kernel_rfl) (by kernel_rfl) (nse_q70 n cp b o acts i nb W1 W3 W4 q a u z68) ⟨(fun wx hm => by have h := len_net nb mb (takeL L D) wx (hN4nb.kept hm.2.kept (hnT _ (by omega)) (hnT _ (by omega))); rw [hlen] at h; exact h), trivial⟩ fun z70 hz70 => ?_
        replace hz70 : z68 ≤ z70 := hz70
        refine holds_go _ _ (nse_s71 n cp b o acts i nb W1 W3 J q a u z70) ⟨by simp, in64 (by omega), trivial⟩ ?_
        refine holds_prune nse_n9 [true, true, true, true, false] ?_
        intro a_ w9 hf hm
        exact hJ (m2 - 1) _ a_ w9 (by omega) ⟨i + 1, (takeL L D), (a + (-1)), (addU u q (-1)), _, by omega, by omega, hlen.symm, (sent_take hR hx hq), (hN4nb.kept hm.kept (hnT _ (by omega)) (hnT _ (by omega))), by rw [cast_succ]; rfl⟩ hf (MemOk.back2 hm4 hm)
      rcases Bool.eq_false_or_eq_true (C == 4) with d4 | d4
      · skip
        refine holds_go _ _ (nse_s72 n cp b o acts i C D E nb W1 W3 J q a u z43) ⟨d0, d1, d2, d3, d4, trivial⟩ ?_
        have hnB : ∀ b ∈ ([⟨W1.heap.size, 9, false, (nse_v2)⟩, ⟨W1.heap.size + 1, 22, false, [.slice (some ⟨W1.heap.size, 0, none⟩) 5 5]⟩, ⟨W1.heap.size + 2, 39, true, (intsU u)⟩, ⟨W1.heap.size + 3, 3, true, [.int .i64 a]⟩, ⟨W3.heap.size, 36, true, (nse_v3 acts i)⟩] : List Bk), ¬ (b.g = nb ∨ b.g = mb) := by
          intro b hb hx2
          simp at hb
          rcases hb with rfl | rfl | rfl | rfl | rfl <;> simp at hx2 <;> omega
        refine holds_callW (w := w) (S' := (fun _ => False)) (Y := Nat) (fun _ => .bool false) (fun _ => [⟨W1.heap.size, 9, false, (nse_v2)⟩, ⟨W1.heap.size + 1, 22, false, [.slice (some ⟨W1.heap.size, 0, none⟩) 5 5]⟩, ⟨W1.heap.size + 2, 39, true, (intsU u)⟩, ⟨W1.heap.size + 3, 3, true, [.int .i64 a]⟩, ⟨W3.heap.size, 36, true, (nse_v3 acts i)⟩]) (fun _ W_ => NetAt 43 W_ nb mb (copyL L D)) (fun _ => [(135, .bool false), (0, .slice (some ⟨b, o, none⟩) n cp), (2, .bool false), (4, (nse_p nb 0)), (5, (nse_p (W1.heap.size + 1) 0)), (6, (nse_p (W1.heap.size + 2) 0)), (7, (nse_p (W1.heap.size + 3) 0)), (8, .func (.func 24) #[] (List.toArray (nse_v1 W1))), (9, .int .i64 (i : Int)), (12, .string (tx5 q)), (13, .bool true), (14, .bool (decide ((a : Int) ≥ 64))), (133, (nse_p nb 0)), (134, .int .i64 D)]) (nse_c73 n cp b o i D nb W1 q a) trivial (fun _ => rfl) (fun wx hm => ?_) (fun _ W4 hX4 hm4 => ?_)
        · refine (copy_net nb mb L D wx (hN3nb.kept hm.kept (hnT _ (by omega)) (hnT _ (by omega)))).mono fun e w' ⟨h1, h2, h3⟩ => ?_
          rw [copyB_full hx hFl] at h1
          exact ⟨0, h1, h2, (MemOk.back2 hm3 hm).offN (fun _ h => h) h3 (fun x h => .inr (by rcases h with h | h <;> omega)) (fun b hb h => hnB b hb (by rcases h with h | h <;> omega))⟩
        clear hnT hnB
        have hN4nb := hX4
        have hl_hN4nb := hN4nb.lt
        have hgb4_0 := (hm4.at_ 0 rfl).lt
        replace hgb4_0 : W1.heap.size < W4.heap.size := hgb4_0
        have hgb4_1 := (hm4.at_ 1 rfl).lt
        replace hgb4_1 : W1.heap.size + 1 < W4.heap.size := hgb4_1
        have hgb4_2 := (hm4.at_ 2 rfl).lt
        replace hgb4_2 : W1.heap.size + 2 < W4.heap.size := hgb4_2
        have hgb4_3 := (hm4.at_ 3 rfl).lt
        replace hgb4_3 : W1.heap.size + 3 < W4.heap.size := hgb4_3
        have hgb4_4 := (hm4.at_ 4 rfl).lt
        replace hgb4_4 : W3.heap.size < W4.heap.size := hgb4_4
        have hnT : ∀ xx, (xx = nb ∨ xx = mb) → ¬ Turned [⟨W1.heap.size, 9, false, (nse_v2)⟩, ⟨W1.heap.size + 1, 22, false, [.slice (some ⟨W1.heap.size, 0, none⟩) 5 5]⟩, ⟨W1.heap.size + 2, 39, true, (intsU u)⟩, ⟨W1.heap.size + 3, 3, true, [.int .i64 a]⟩, ⟨W3.heap.size, 36, true, (nse_v3 acts i)⟩] xx := by
          rintro xx hx2 ⟨b, hb, hr, he⟩
          simp at hb
          rcases hb with rfl | rfl | rfl | rfl | rfl <;> simp at he hr <;> omega
        refine holds_go _ _ (nse_s74 n cp b o acts i D nb W1 W3 W4 J q a u) ⟨rfl, rfl, rfl, (by rw [show (false == (!(decide ((a : Int) ≥ 64)))) = true from (by rw [show ((!(decide ((a : Int) ≥ 64)))) = false from (by rw [show ((decide ((a : Int) ≥ 64))) = true from decide_eq_true (by omega)]; rfl)]; rfl)]; rfl), (by rw [show (false == (!(decide ((a : Int) ≥ 64)))) = true from (by rw [show ((!(decide ((a : Int) ≥ 64)))) = false from (by rw [show ((decide ((a : Int) ≥ 64))) = true from decide_eq_true (by omega)]; rfl)]; rfl)]; rfl), rfl, rfl, (by rw [show (false == (!(decide ((a : Int) ≥ 64)))) = true from (by rw [show ((!(decide ((a : Int) ≥ 64)))) = false from (by rw [show ((decide ((a : Int) ≥ 64))) = true from decide_eq_true (by omega)]; rfl)]; rfl)]; rfl), rfl, (by rw [show (false == (!(decide ((a : Int) ≥ 64)))) = true from (by rw [show ((!(decide ((a : Int) ≥ 64)))) = false from (by rw [show ((decide ((a : Int) ≥ 64))) = true from decide_eq_true (by omega)]; rfl)]; rfl)]; rfl), (by rw [decide_eq_true (by omega)]; rfl), (by rw [decide_eq_true (by omega)]; rfl), (by rw [decide_eq_true (by omega)]; rfl), (by rw [decide_eq_true (by omega)]; rfl), (by rw [show (false == (!(decide ((a : Int) ≥ 64)))) = true from (by rw [show ((!(decide ((a : Int) ≥ 64)))) = false from (by rw [show ((decide ((a : Int) ≥ 64))) = true from decide_eq_true (by omega)]; rfl)]; rfl)]; rfl), (by rw [decide_eq_true (by omega)]; rfl), (by rw [show (false == (!(decide ((a : Int) ≥ 64)))) = true from (by rw [show ((!(decide ((a : Int) ≥ 64)))) = false from (by rw [show ((decide ((a : Int) ≥ 64))) = true from decide_eq_true (by omega)]; rfl)]; rfl)]; rfl), rfl, trivial⟩ ?_
        have hlen : ((copyL L D).length : Int) = a := by rw [copyL_full hx hFl]; omega
        refine holds_quietG _ _ (by kernel_rfl) (by kernel_rfl) (by kernel_rfl) (nse_q75 n cp b o acts i nb W1 W3 W4 a u) ⟨(fun wx hm => by have h := len_net nb mb (copyL L D) wx (hN4nb.kept hm.2.kept (hnT _ (by omega)) (hnT _ (by omega))); rw [hlen] at h; exact h), trivial⟩ fun z75 hz75 => ?_
        replace hz75 : W4.heap.size ≤ z75 := hz75
        refine holds_go _ _ (nse_s76 n cp b o acts i nb W1 W3 J a u z75) ⟨by simp, in64 (by omega), trivial⟩ ?_
        refine holds_prune nse_n9 [true, true, true, true, false] ?_
        intro a_ w9 hf hm
        exact hJ (m2 - 1) _ a_ w9 (by omega) ⟨i + 1, (copyL L D), a, u, _, by omega, by omega, hlen.symm, (sent_copy_full hR hx hFl), (hN4nb.kept hm.kept (hnT _ (by omega)) (hnT _ (by omega))), by rw [cast_succ]; rfl⟩ hf (MemOk.back2 hm4 hm)
      refine holds_go _ _ (nse_s77 n cp b o acts i C D E nb W1 W3 J q a u z43) ⟨d0, d1, d2, d3, d4, trivial⟩ ?_
      have hnB : ∀ b ∈ ([⟨W1.heap.size, 9, false, (nse_v2)⟩, ⟨W1.heap.size + 1, 22, false, [.slice (some ⟨W1.heap.size, 0, none⟩) 5 5]⟩, ⟨W1.heap.size + 2, 39, true, (intsU u)⟩, ⟨W1.heap.size + 3, 3, true, [.int .i64 a]⟩, ⟨W3.heap.size, 36, true, (nse_v3 acts i)⟩] : List Bk), ¬ (b.g = nb ∨ b.g = mb) := by
        intro b hb hx2
        simp at hb
        rcases hb with rfl | rfl | rfl | rfl | rfl <;> simp at hx2 <;> omega
      refine holds_callW (w := w) (S' := (fun _ => False)) (Y := Nat) (fun _ => .bool true) (fun _ => [⟨W1.heap.size, 9, false, (nse_v2)⟩, ⟨W1.heap.size + 1, 22, false, [.slice (some ⟨W1.heap.size, 0, none⟩) 5 5]⟩, ⟨W1.heap.size + 2, 39, true, (intsU u)⟩, ⟨W1.heap.size + 3, 3, true, [.int .i64 a]⟩, ⟨W3.heap.size, 36, true, (nse_v3 acts i)⟩]) (fun _ W_ => NetAt 43 W_ nb mb (takeL L D)) (fun _ => [(69, .bool true), (0, .slice (some ⟨b, o, none⟩) n cp), (2, .bool false), (4, (nse_p nb 0)), (5, (nse_p (W1.heap.size + 1) 0)), (6, (nse_p (W1.heap.size + 2) 0)), (7, (nse_p (W1.heap.size + 3) 0)), (8, .func (.func 24) #[] (List.toArray (nse_v1 W1))), (9, .int .i64 (i : Int)), (12, .string (tx5 q)), (13, .bool true), (67, (nse_p nb 0)), (68, .int .i64 D)]) (nse_c78 n cp b o i D nb W1 q) trivial (fun _ => rfl) (fun wx hm => ?_) (fun _ W4 hX4 hm4 => ?_)
      · refine (drop_net nb mb L D wx (hN3nb.kept hm.kept (hnT _ (by omega)) (hnT _ (by omega)))).mono fun e w' ⟨h1, h2, h3⟩ => ?_
        rw [hx] at h1
        exact ⟨0, h1, h2, (MemOk.back2 hm3 hm).offN (fun _ h => h) h3 (fun x h => .inr (by rcases h with h | h <;> omega)) (fun b hb h => hnB b hb (by rcases h with h | h <;> omega))⟩
      clear hnT hnB
      have hN4nb := hX4
      have hl_hN4nb := hN4nb.lt
      have hgb4_0 := (hm4.at_ 0 rfl).lt
      replace hgb4_0 : W1.heap.size < W4.heap.size := hgb4_0
      have hgb4_1 := (hm4.at_ 1 rfl).lt
      replace hgb4_1 : W1.heap.size + 1 < W4.heap.size := hgb4_1
      have hgb4_2 := (hm4.at_ 2 rfl).lt
      replace hgb4_2 : W1.heap.size + 2 < W4.heap.size := hgb4_2
      have hgb4_3 := (hm4.at_ 3 rfl).lt
      replace hgb4_3 : W1.heap.size + 3 < W4.heap.size := hgb4_3
      have hgb4_4 := (hm4.at_ 4 rfl).lt
      replace hgb4_4 : W3.heap.size < W4.heap.size := hgb4_4
      have hnT : ∀ xx, (xx = nb ∨ xx = mb) → ¬ Turned [⟨W1.heap.size, 9, false, (nse_v2)⟩, ⟨W1.heap.size + 1, 22, false, [.slice (some ⟨W1.heap.size, 0, none⟩) 5 5]⟩, ⟨W1.heap.size + 2, 39, true, (intsU u)⟩, ⟨W1.heap.size + 3, 3, true, [.int .i64 a]⟩, ⟨W3.heap.size, 36, true, (nse_v3 acts i)⟩] xx := by
        rintro xx hx2 ⟨b, hb, hr, he⟩
        simp at hb
        rcases hb with rfl | rfl | rfl | rfl | rfl <;> simp at he hr <;> omega
      refine holds_go _ _ (nse_s79 n cp b o acts i D nb W1 W3 W4 J q a u) ⟨rfl, rfl, rfl, rfl, trivial⟩ ?_
      have hpos : 0 ≤ addU u q (-1) q := by
        rw [addU_at]
        have := hu q
        have := hR.pos hx hq
        omega
      refine holds_callM (.bool true) [⟨W1.heap.size, 9, false, (nse_v2)⟩, ⟨W1.heap.size + 1, 22, false, [.slice (some ⟨W1.heap.size, 0, none⟩) 5 5]⟩, ⟨W1.heap.size + 2, 39, true, (intsU (addU u q (-1)))⟩, ⟨W1.heap.size + 3, 3, true, [.int .i64 (a + (-1))]⟩, ⟨W3.heap.size, 36, true, (nse_v3 acts i)⟩] (nse_c80 n cp b o i nb W1 q) ⟨rfl, trivial⟩ rfl (fun wx hm => ?_) fun z80 hz80 => ?_
      · exact (count_any q hq (-1) (by omega) a (by omega) u hu hpos _ _ _ _ hnd wx (hm.at_ 0 rfl) (hm.at_ 1 rfl) (hm.at_ 2 rfl) (hm.at_ 3 rfl)).mono fun en w' ⟨h1, h2, h3, h4⟩ => ⟨h1, hm.set2 2 3 rfl rfl rfl rfl (by omega) h4 h2 h3⟩
      replace hz80 : W4.heap.size ≤ z80 := hz80
      refine holds_go _ _ (nse_s81 n cp b o acts i nb W1 W3 J q a u z80) ⟨rfl, rfl, rfl, rfl, rfl, trivial⟩ ?_
      have hlen : ((takeL L D).length : Int) = (a + (-1)) := by rw [takeL_len hx]; omega
      refine holds_quietG _ _ (by kernel_rfl) (by kernel_rfl) (by kernel_rfl) (nse_q82 n cp b o acts i nb W1 W3 W4 q a u z80) ⟨(fun wx hm => by have h := len_net nb mb (takeL L D) wx (hN4nb.kept hm.2.kept (hnT _ (by omega)) (hnT _ (by omega))); rw [hlen] at h; exact h), trivial⟩ fun z82 hz82 => ?_
      replace hz82 : z80 ≤ z82 := hz82
      refine holds_go _ _ (nse_s83 n cp b o acts i nb W1 W3 J q a u z82) ⟨by simp, in64 (by omega), trivial⟩ ?_
      refine holds_prune nse_n9 [true, true, true, true, false] ?_
      intro a_ w9 hf hm
      exact hJ (m2 - 1) _ a_ w9 (by omega) ⟨i + 1, (takeL L D), (a + (-1)), (addU u q (-1)), _, by omega, by omega, hlen.symm, (sent_take hR hx hq), (hN4nb.kept hm.kept (hnT _ (by omega)) (hnT _ (by omega))), by rw [cast_succ]; rfl⟩ hf (MemOk.back2 hm4 hm)
    · skip
      have hFl : L.length < 64 := by omega
      rcases Bool.eq_false_or_eq_true (C == 0) with d0 | d0
      · skip
        refine holds_go _ _ (nse_s84 n cp b o acts i C D E nb W1 W3 J q a u z43) ⟨d0, d0, trivial⟩ ?_
        refine holds_quietG _ _ (by kernel_rfl) (by kernel_rfl) (by kernel_rfl) (nse_q85 n cp b o acts i E nb W1 W3 a u z43) ⟨(fun wx hm => pick13 _ _ _ hE wx (by omega) (by omega) ha.at_), ⟨by omega, by omega⟩, trivial⟩ fun z85 hz85 => ?_
        replace hz85 : z43 ≤ z85 := hz85
        refine holds_go _ _ (nse_s86 n cp b o acts i E nb W1 W3 J a u z85) trivial ?_
        have hnB : ∀ b ∈ ([⟨W1.heap.size, 9, false, (nse_v2)⟩, ⟨W1.heap.size + 1, 22, false, [.slice (some ⟨W1.heap.size, 0, none⟩) 5 5]⟩, ⟨W1.heap.size + 2, 39, true, (intsU u)⟩, ⟨W1.heap.size + 3, 3, true, [.int .i64 a]⟩, ⟨W3.heap.size, 36, true, (nse_v3 acts i)⟩] : List Bk), ¬ (b.g = nb ∨ b.g = mb) := by
          intro b hb hx2
          simp at hb
          rcases hb with rfl | rfl | rfl | rfl | rfl <;> simp at hx2 <;> omega
        refine holds_callW (w := w) (S' := (fun _ => False)) (Y := Nat) (fun _ => .bool true) (fun _ => [⟨W1.heap.size, 9, false, (nse_v2)⟩, ⟨W1.heap.size + 1, 22, false, [.slice (some ⟨W1.heap.size, 0, none⟩) 5 5]⟩, ⟨W1.heap.size + 2, 39, true, (intsU u)⟩, ⟨W1.heap.size + 3, 3, true, [.int .i64 a]⟩, ⟨W3.heap.size, 36, true, (nse_v3 acts i)⟩]) (fun _ W_ => NetAt 43 W_ nb mb (sendL L (tx5 (Int.toNat E)))) (fun _ => [(93, .bool true), (0, .slice (some ⟨b, o, none⟩) n cp), (2, .bool false), (4, (nse_p nb 0)), (5, (nse_p (W1.heap.size + 1) 0)), (6, (nse_p (W1.heap.size + 2) 0)), (7, (nse_p (W1.heap.size + 3) 0)), (8, .func (.func 24) #[] (List.toArray (nse_v1 W1))), (9, .int .i64 (i : Int)), (14, .bool (decide ((a : Int) ≥ 64))), (15, .string (tx5 (Int.toNat E))), (91, (nse_p nb 0)), (92, .string (tx5 (Int.toNat E)))]) (nse_c87 n cp b o i E nb W1 a) trivial (fun _ => rfl) (fun wx hm => ?_) (fun _ W4 hX4 hm4 => ?_)
        · refine (send_net nb mb L (tx5 (Int.toNat E)) wx (hN3nb.kept hm.kept (hnT _ (by omega)) (hnT _ (by omega)))).mono fun e w' ⟨h1, h2, h3⟩ => ?_
          rw [okS_tx hFl _] at h1
          exact ⟨0, h1, h2, (MemOk.back2 hm3 hm).offN (fun _ h => h) h3 (fun x h => .inr (by rcases h with h | h <;> omega)) (fun b hb h => hnB b hb (by rcases h with h | h <;> omega))⟩
        clear hnT hnB
        have hN4nb := hX4
        have hl_hN4nb := hN4nb.lt
        have hgb4_0 := (hm4.at_ 0 rfl).lt
        replace hgb4_0 : W1.heap.size < W4.heap.size := hgb4_0
        have hgb4_1 := (hm4.at_ 1 rfl).lt
        replace hgb4_1 : W1.heap.size + 1 < W4.heap.size := hgb4_1
        have hgb4_2 := (hm4.at_ 2 rfl).lt
        replace hgb4_2 : W1.heap.size + 2 < W4.heap.size := hgb4_2
        have hgb4_3 := (hm4.at_ 3 rfl).lt
        replace hgb4_3 : W1.heap.size + 3 < W4.heap.size := hgb4_3
        have hgb4_4 := (hm4.at_ 4 rfl).lt
        replace hgb4_4 : W3.heap.size < W4.heap.size := hgb4_4
        have hnT : ∀ xx, (xx = nb ∨ xx = mb) → ¬ Turned [⟨W1.heap.size, 9, false, (nse_v2)⟩, ⟨W1.heap.size + 1, 22, false, [.slice (some ⟨W1.heap.size, 0, none⟩) 5 5]⟩, ⟨W1.heap.size + 2, 39, true, (intsU u)⟩, ⟨W1.heap.size + 3, 3, true, [.int .i64 a]⟩, ⟨W3.heap.size, 36, true, (nse_v3 acts i)⟩] xx := by
          rintro xx hx2 ⟨b, hb, hr, he⟩
          simp at hb
          rcases hb with rfl | rfl | rfl | rfl | rfl <;> simp at he hr <;> omega
        refine holds_go _ _ (nse_s88 n cp b o acts i E nb W1 W3 W4 J a u) ⟨(by rw [show ((decide ((a : Int) ≥ 64))) = false from decide_eq_false (by omega)]; rfl), (by rw [show ((decide ((a : Int) ≥ 64))) = false from decide_eq_false (by omega)]; rfl), (by rw [show ((decide ((a : Int) ≥ 64))) = false from decide_eq_false (by omega)]; rfl), (by rw [decide_eq_false (by omega)]; rfl), (by rw [decide_eq_false (by omega)]; rfl), trivial⟩ ?_
        have hpos : 0 ≤ addU u (Int.toNat E) 1 (Int.toNat E) := by
          rw [addU_at]
          have := hu (Int.toNat E)
          omega
        refine holds_callM (.bool true) [⟨W1.heap.size, 9, false, (nse_v2)⟩, ⟨W1.heap.size + 1, 22, false, [.slice (some ⟨W1.heap.size, 0, none⟩) 5 5]⟩, ⟨W1.heap.size + 2, 39, true, (intsU (addU u (Int.toNat E) 1))⟩, ⟨W1.heap.size + 3, 3, true, [.int .i64 (a + 1)]⟩, ⟨W3.heap.size, 36, true, (nse_v3 acts i)⟩] (nse_c89 n cp b o i E nb W1 a) ⟨(by rw [decide_eq_false (by omega)]; rfl), trivial⟩ rfl (fun wx hm => ?_) fun z89 hz89 => ?_
        · exact (count_any (Int.toNat E) (by omega) 1 (by omega) a (by omega) u hu hpos _ _ _ _ hnd wx (hm.at_ 0 rfl) (hm.at_ 1 rfl) (hm.at_ 2 rfl) (hm.at_ 3 rfl)).mono fun en w' ⟨h1, h2, h3, h4⟩ => ⟨h1, hm.set2 2 3 rfl rfl rfl rfl (by omega) h4 h2 h3⟩
        replace hz89 : W4.heap.size ≤ z89 := hz89
        refine holds_go _ _ (nse_s90 n cp b o acts i E nb W1 W3 J a u z89) ⟨(by rw [decide_eq_false (by omega)]; rfl), (by rw [show ((decide ((a : Int) ≥ 64))) = false from decide_eq_false (by omega)]; rfl), (by rw [decide_eq_false (by omega)]; rfl), (by rw [show ((decide ((a : Int) ≥ 64))) = false from decide_eq_false (by omega)]; rfl), rfl, trivial⟩ ?_
        have hlen : ((sendL L (tx5 (Int.toNat E))).length : Int) = (a + 1) := by rw [sendL_len hFl]; omega
        refine holds_quietG _ _ (by kernel_rfl) (by kernel_rfl) (by kernel_rfl) (nse_q91 n cp b o acts i E nb W1 W3 W4 a u z89) ⟨(fun wx hm => by have h := len_net nb mb (sendL L (tx5 (Int.toNat E))) wx (hN4nb.kept hm.2.kept (hnT _ (by omega)) (hnT _ (by omega))); rw [hlen] at h; exact h), trivial⟩ fun z91 hz91 => ?_
        replace hz91 : z89 ≤ z91 := hz91
        refine holds_go _ _ (nse_s92 n cp b o acts i E nb W1 W3 J a u z91) ⟨by simp, in64 (by omega), trivial⟩ ?_
        refine holds_prune nse_n9 [true, true, true, true, false] ?_
        intro a_ w9 hf hm
        exact hJ (m2 - 1) _ a_ w9 (by omega) ⟨i + 1, (sendL L (tx5 (Int.toNat E))), (a + 1), (addU u (Int.toNat E) 1), _, by omega, by omega, hlen.symm, (sent_send hR hFl (by omega : Int.toNat E < 5)), (hN4nb.kept hm.kept (hnT _ (by omega)) (hnT _ (by omega))), by rw [cast_succ]; rfl⟩ hf (MemOk.back2 hm4 hm)
      rcases Bool.eq_false_or_eq_true (C == 1) with d1 | d1
      · skip
        refine holds_go _ _ (nse_s93 n cp b o acts i C D E nb W1 W3 J q a u z43) ⟨d0, d1, d1, trivial⟩ ?_
        refine holds_quietG _ _ (by kernel_rfl) (by kernel_rfl) (by kernel_rfl) (nse_q94 n cp b o acts i E nb W1 W3 a u z43) ⟨(fun wx hm => pick13 _ _ _ hE wx (by omega) (by omega) ha.at_), ⟨by omega, by omega⟩, trivial⟩ fun z94 hz94 => ?_
        replace hz94 : z43 ≤ z94 := hz94
        refine holds_go _ _ (nse_s95 n cp b o acts i E nb W1 W3 J a u z94) trivial ?_
        have hnB : ∀ b ∈ ([⟨W1.heap.size, 9, false, (nse_v2)⟩, ⟨W1.heap.size + 1, 22, false, [.slice (some ⟨W1.heap.size, 0, none⟩) 5 5]⟩, ⟨W1.heap.size + 2, 39, true, (intsU u)⟩, ⟨W1.heap.size + 3, 3, true, [.int .i64 a]⟩, ⟨W3.heap.size, 36, true, (nse_v3 acts i)⟩] : List Bk), ¬ (b.g = nb ∨ b.g = mb) := by
          intro b hb hx2
          simp at hb
          rcases hb with rfl | rfl | rfl | rfl | rfl <;> simp at hx2 <;> omega
        refine holds_callW (w := w) (S' := (fun _ => False)) (Y := Nat) (fun _ => .bool true) (fun _ => [⟨W1.heap.size, 9, false, (nse_v2)⟩, ⟨W1.heap.size + 1, 22, false, [.slice (some ⟨W1.heap.size, 0, none⟩) 5 5]⟩, ⟨W1.heap.size + 2, 39, true, (intsU u)⟩, ⟨W1.heap.size + 3, 3, true, [.int .i64 a]⟩, ⟨W3.heap.size, 36, true, (nse_v3 acts i)⟩]) (fun _ W_ => NetAt 43 W_ nb mb (sendL L (tx5 (Int.toNat E)))) (fun _ => [(93, .bool true), (0, .slice (some ⟨b, o, none⟩) n cp), (2, .bool false), (4, (nse_p nb 0)), (5, (nse_p (W1.heap.size + 1) 0)), (6, (nse_p (W1.heap.size + 2) 0)), (7, (nse_p (W1.heap.size + 3) 0)), (8, .func (.func 24) #[] (List.toArray (nse_v1 W1))), (9, .int .i64 (i : Int)), (14, .bool (decide ((a : Int) ≥ 64))), (15, .string (tx5 (Int.toNat E))), (91, (nse_p nb 0)), (92, .string (tx5 (Int.toNat E)))]) (nse_c96 n cp b o i E nb W1 a) trivial (fun _ => rfl) (fun wx hm => ?_) (fun _ W4 hX4 hm4 => ?_)
        · refine (send_net nb mb L (tx5 (Int.toNat E)) wx (hN3nb.kept hm.kept (hnT _ (by omega)) (hnT _ (by omega)))).mono fun e w' ⟨h1, h2, h3⟩ => ?_
          rw [okS_tx hFl _] at h1
          exact ⟨0, h1, h2, (MemOk.back2 hm3 hm).offN (fun _ h => h) h3 (fun x h => .inr (by rcases h with h | h <;> omega)) (fun b hb h => hnB b hb (by rcases h with h | h <;> omega))⟩
        clear hnT hnB
        have hN4nb := hX4
        have hl_hN4nb := hN4nb.lt
        have hgb4_0 := (hm4.at_ 0 rfl).lt
        replace hgb4_0 : W1.heap.size < W4.heap.size := hgb4_0
        have hgb4_1 := (hm4.at_ 1 rfl).lt
        replace hgb4_1 : W1.heap.size + 1 < W4.heap.size := hgb4_1
        have hgb4_2 := (hm4.at_ 2 rfl).lt
        replace hgb4_2 : W1.heap.size + 2 < W4.heap.size := hgb4_2
        have hgb4_3 := (hm4.at_ 3 rfl).lt
        replace hgb4_3 : W1.heap.size + 3 < W4.heap.size := hgb4_3
        have hgb4_4 := (hm4.at_ 4 rfl).lt
        replace hgb4_4 : W3.heap.size < W4.heap.size := hgb4_4
        have hnT : ∀ xx, (xx = nb ∨ xx = mb) → ¬ Turned [⟨W1.heap.size, 9, false, (nse_v2)⟩, ⟨W1.heap.size + 1, 22, false, [.slice (some ⟨W1.heap.size, 0, none⟩) 5 5]⟩, ⟨W1.heap.size + 2, 39, true, (intsU u)⟩, ⟨W1.heap.size + 3, 3, true, [.int .i64 a]⟩, ⟨W3.heap.size, 36, true, (nse_v3 acts i)⟩] xx := by
          rintro xx hx2 ⟨b, hb, hr, he⟩
          simp at hb
          rcases hb with rfl | rfl | rfl | rfl | rfl <;> simp at he hr <;> omega
        refine holds_go _ _ (nse_s97 n cp b o acts i E nb W1 W3 W4 J a u) ⟨(by rw [show ((decide ((a : Int) ≥ 64))) = false from decide_eq_false (by omega)]; rfl), (by rw [show ((decide ((a : Int) ≥ 64))) = false from decide_eq_false (by omega)]; rfl), (by rw [show ((decide ((a : Int) ≥ 64))) = false from decide_eq_false (by omega)]; rfl), (by rw [decide_eq_false (by omega)]; rfl), (by rw [decide_eq_false (by omega)]; rfl), trivial⟩ ?_
        have hpos : 0 ≤ addU u (Int.toNat E) 1 (Int.toNat E) := by
          rw [addU_at]
          have := hu (Int.toNat E)
          omega
        refine holds_callM (.bool true) [⟨W1.heap.size, 9, false, (nse_v2)⟩, ⟨W1.heap.size + 1, 22, false, [.slice (some ⟨W1.heap.size, 0, none⟩) 5 5]⟩, ⟨W1.heap.size + 2, 39, true, (intsU (addU u (Int.toNat E) 1))⟩, ⟨W1.heap.size + 3, 3, true, [.int .i64 (a + 1)]⟩, ⟨W3.heap.size, 36, true, (nse_v3 acts i)⟩] (nse_c98 n cp b o i E nb W1 a) ⟨(by rw [decide_eq_false (by omega)]; rfl), trivial⟩ rfl (fun wx hm => ?_) fun z98 hz98 => ?_
        · exact (count_any (Int.toNat E) (by omega) 1 (by omega) a (by omega) u hu hpos _ _ _ _ hnd wx (hm.at_ 0 rfl) (hm.at_ 1 rfl) (hm.at_ 2 rfl) (hm.at_ 3 rfl)).mono fun en w' ⟨h1, h2, h3, h4⟩ => ⟨h1, hm.set2 2 3 rfl rfl rfl rfl (by omega) h4 h2 h3⟩
        replace hz98 : W4.heap.size ≤ z98 := hz98
        refine holds_go _ _ (nse_s99 n cp b o acts i E nb W1 W3 J a u z98) ⟨(by rw [decide_eq_false (by omega)]; rfl), (by rw [show ((decide ((a : Int) ≥ 64))) = false from decide_eq_false (by omega)]; rfl), (by rw [decide_eq_false (by omega)]; rfl), (by rw [show ((decide ((a : Int) ≥ 64))) = false from decide_eq_false (by omega)]; rfl), rfl, trivial⟩ ?_
        have hlen : ((sendL L (tx5 (Int.toNat E))).length : Int) = (a + 1) := by rw [sendL_len hFl]; omega
        refine holds_quietG _ _ (by kernel_rfl) (by kernel_rfl) (by kernel_rfl) (nse_q100 n cp b o acts i E nb W1 W3 W4 a u z98) ⟨(fun wx hm => by have h := len_net nb mb (sendL L (tx5 (Int.toNat E))) wx (hN4nb.kept hm.2.kept (hnT _ (by omega)) (hnT _ (by omega))); rw [hlen] at h; exact h), trivial⟩ fun z100 hz100 => ?_
        replace hz100 : z98 ≤ z100 := hz100
        refine holds_go _ _ (nse_s101 n cp b o acts i E nb W1 W3 J a u z100) ⟨by simp, in64 (by omega), trivial⟩ ?_
        refine holds_prune nse_n9 [true, true, true, true, false] ?_
        intro a_ w9 hf hm
        exact hJ (m2 - 1) _ a_ w9 (by omega) ⟨i + 1, (sendL L (tx5 (Int.toNat E))), (a + 1), (addU u (Int.toNat E) 1), _, by omega, by omega, hlen.symm, (sent_send hR hFl (by omega : Int.toNat E < 5)), (hN4nb.kept hm.kept (hnT _ (by omega)) (hnT _ (by omega))), by rw [cast_succ]; rfl⟩ hf (MemOk.back2 hm4 hm)
      rcases Bool.eq_false_or_eq_true (C == 2) with d2 | d2
      · skip
        refine holds_go _ _ (nse_s102 n cp b o acts i C D E nb W1 W3 J q a u z43) ⟨d0, d1, d2, trivial⟩ ?_
        refine holds_quietG _ _ (by kernel_rfl) (by kernel_rfl) (by kernel_rfl) (nse_q103 n cp b o acts i E nb W1 W3 a u z43) ⟨(fun wx hm => pick13 _ _ _ hE wx (by omega) (by omega) ha.at_), ⟨by omega, by omega⟩, trivial⟩ fun z103 hz103 => ?_
        replace hz103 : z43 ≤ z103 := hz103
        refine holds_go _ _ (nse_s104 n cp b o acts i E nb W1 W3 J a u z103) trivial ?_
        have hnB : ∀ b ∈ ([⟨W1.heap.size, 9, false, (nse_v2)⟩, ⟨W1.heap.size + 1, 22, false, [.slice (some ⟨W1.heap.size, 0, none⟩) 5 5]⟩, ⟨W1.heap.size + 2, 39, true, (intsU u)⟩, ⟨W1.heap.size + 3, 3, true, [.int .i64 a]⟩, ⟨W3.heap.size, 36, true, (nse_v3 acts i)⟩] : List Bk), ¬ (b.g = nb ∨ b.g = mb) := by
          intro b hb hx2
          simp at hb
          rcases hb with rfl | rfl | rfl | rfl | rfl <;> simp at hx2 <;> omega
        refine holds_callW (w := w) (S' := (fun _ => False)) (Y := Nat) (fun _ => .bool true) (fun _ => [⟨W1.heap.size, 9, false, (nse_v2)⟩, ⟨W1.heap.size + 1, 22, false, [.slice (some ⟨W1.heap.size, 0, none⟩) 5 5]⟩, ⟨W1.heap.size + 2, 39, true, (intsU u)⟩, ⟨W1.heap.size + 3, 3, true, [.int .i64 a]⟩, ⟨W3.heap.size, 36, true, (nse_v3 acts i)⟩]) (fun _ W_ => NetAt 43 W_ nb mb (sendL L (tx5 (Int.toNat E)))) (fun _ => [(93, .bool true), (0, .slice (some ⟨b, o, none⟩) n cp), (2, .bool false), (4, (nse_p nb 0)), (5, (nse_p (W1.heap.size + 1) 0)), (6, (nse_p (W1.heap.size + 2) 0)), (7, (nse_p (W1.heap.size + 3) 0)), (8, .func (.func 24) #[] (List.toArray (nse_v1 W1))), (9, .int .i64 (i : Int)), (14, .bool (decide ((a : Int) ≥ 64))), (15, .string (tx5 (Int.toNat E))), (91, (nse_p nb 0)), (92, .string (tx5 (Int.toNat E)))]) (nse_c105 n cp b o i E nb W1 a) trivial (fun _ => rfl) (fun wx hm => ?_) (fun _ W4 hX4 hm4 => ?_)
        · refine (send_net nb mb L (tx5 (Int.toNat E)) wx (hN3nb.kept hm.kept (hnT _ (by omega)) (hnT _ (by omega)))).mono fun e w' ⟨h1, h2, h3⟩ => ?_
          rw [okS_tx hFl _] at h1
          exact ⟨0, h1, h2, (MemOk.back2 hm3 hm).offN (fun _ h => h) h3 (fun x h => .inr (by rcases h with h | h <;> omega)) (fun b hb h => hnB b hb (by rcases h with h | h <;> omega))⟩
        clear hnT hnB
        have hN4nb := hX4
        have hl_hN4nb := hN4nb.lt
        have hgb4_0 := (hm4.at_ 0 rfl).lt
        replace hgb4_0 : W1.heap.size < W4.heap.size := hgb4_0
        have hgb4_1 := (hm4.at_ 1 rfl).lt
        replace hgb4_1 : W1.heap.size + 1 < W4.heap.size := hgb4_1
        have hgb4_2 := (hm4.at_ 2 rfl).lt
        replace hgb4_2 : W1.heap.size + 2 < W4.heap.size := hgb4_2
        have hgb4_3 := (hm4.at_ 3 rfl).lt
        replace hgb4_3 : W1.heap.size + 3 < W4.heap.size := hgb4_3
        have hgb4_4 := (hm4.at_ 4 rfl).lt
        replace hgb4_4 : W3.heap.size < W4.heap.size := hgb4_4
        have hnT : ∀ xx, (xx = nb ∨ xx = mb) → ¬ Turned [⟨W1.heap.size, 9, false, (nse_v2)⟩, ⟨W1.heap.size + 1, 22, false, [.slice (some ⟨W1.heap.size, 0, none⟩) 5 5]⟩, ⟨W1.heap.size + 2, 39, true, (intsU u)⟩, ⟨W1.heap.size + 3, 3, true, [.int .i64 a]⟩, ⟨W3.heap.size, 36, true, (nse_v3 acts i)⟩] xx := by
          rintro xx hx2 ⟨b, hb, hr, he⟩
          simp at hb
          rcases hb with rfl | rfl | rfl | rfl | rfl <;> simp at he hr <;> omega
        refine holds_go _ _ (nse_s106 n cp b o acts i E nb W1 W3 W4 J a u) ⟨(by rw [show ((decide ((a : Int) ≥ 64))) = false from decide_eq_false (by omega)]; rfl), (by rw [show ((decide ((a : Int) ≥ 64))) = false from decide_eq_false (by omega)]; rfl), (by rw [show ((decide ((a : Int) ≥ 64))) = false from decide_eq_false (by omega)]; rfl), (by rw [decide_eq_false (by omega)]; rfl), (by rw [decide_eq_false (by omega)]; rfl), trivial⟩ ?_
        have hpos : 0 ≤ addU u (Int.toNat E) 1 (Int.toNat E) := by
          rw [addU_at]
          have := hu (Int.toNat E)
          omega
        refine holds_callM (.bool true) [⟨W1.heap.size, 9, false, (nse_v2)⟩, ⟨W1.heap.size + 1, 22, false, [.slice (some ⟨W1.heap.size, 0, none⟩) 5 5]⟩, ⟨W1.heap.size + 2, 39, true, (intsU (addU u (Int.toNat E) 1))⟩, ⟨W1.heap.size + 3, 3, true, [.int .i64 (a + 1)]⟩, ⟨W3.heap.size, 36, true, (nse_v3 acts i)⟩] (nse_c107 n cp b o i E nb W1 a) ⟨(by rw [decide_eq_false (by omega)]; rfl), trivial⟩ rfl (fun wx hm => ?_) fun z107 hz107 => ?_
        · exact (count_any (Int.toNat E) (by omega) 1 (by omega) a (by omega) u hu hpos _ _ _ _ hnd wx (hm.at_ 0 rfl) (hm.at_ 1 rfl) (hm.at_ 2 rfl) (hm.at_ 3 rfl)).mono fun en w' ⟨h1, h2, h3, h4⟩ => ⟨h1, hm.set2 2 3 rfl rfl rfl rfl (by omega) h4 h2 h3⟩
        replace hz107 : W4.heap.size ≤ z107 := hz107
        refine holds_go _ _ (nse_s108 n cp b o acts i E nb W1 W3 J a u z107) ⟨(by rw [decide_eq_false (by omega)]; rfl), (by rw [show ((decide ((a : Int) ≥ 64))) = false from decide_eq_false (by omega)]; rfl), (by rw [decide_eq_false (by omega)]; rfl), (by rw [show ((decide ((a : Int) ≥ 64))) = false from decide_eq_false (by omega)]; rfl), rfl, trivial⟩ ?_
        have hlen : ((sendL L (tx5 (Int.toNat E))).length : Int) = (a + 1) := by rw [sendL_len hFl]; omega
        refine holds_quietG _ _ (by kernel_rfl) (by kernel_rfl) (by kernel_rfl) (nse_q109 n cp b o acts i E nb W1 W3 W4 a u z107) ⟨(fun wx hm => by have h := len_net nb mb (sendL L (tx5 (Int.toNat E))) wx (hN4nb.kept hm.2.kept (hnT _ (by omega)) (hnT _ (by omega))); rw [hlen] at h; exact h), trivial⟩ fun z109 hz109 => ?_
        replace hz109 : z107 ≤ z109 := hz109
        refine holds_go _ _ (nse_s110 n cp b o acts i E nb W1 W3 J a u z109) ⟨by simp, in64 (by omega), trivial⟩ ?_
        refine holds_prune nse_n9 [true, true, true, true, false] ?_
        intro a_ w9 hf hm
        exact hJ (m2 - 1) _ a_ w9 (by omega) ⟨i + 1, (sendL L (tx5 (Int.toNat E))), (a + 1), (addU u (Int.toNat E) 1), _, by omega, by omega, hlen.symm, (sent_send hR hFl (by omega : Int.toNat E < 5)), (hN4nb.kept hm.kept (hnT _ (by omega)) (hnT _ (by omega))), by rw [cast_succ]; rfl⟩ hf (MemOk.back2 hm4 hm)
      rcases Bool.eq_false_or_eq_true (C == 3) with d3 | d3
      · skip
        refine holds_go _ _ (nse_s111 n cp b o acts i C D E nb W1 W3 J q a u z43) ⟨d0, d1, d2, d3, trivial⟩ ?_
        have hnB : ∀ b ∈ ([⟨W1.heap.size, 9, false, (nse_v2)⟩, ⟨W1.heap.size + 1, 22, false, [.slice (some ⟨W1.heap.size, 0, none⟩) 5 5]⟩, ⟨W1.heap.size + 2, 39, true, (intsU u)⟩, ⟨W1.heap.size + 3, 3, true, [.int .i64 a]⟩, ⟨W3.heap.size, 36, true, (nse_v3 acts i)⟩] : List Bk), ¬ (b.g = nb ∨ b.g = mb) := by
          intro b hb hx2
          simp at hb
          rcases hb with rfl | rfl | rfl | rfl | rfl <;> simp at hx2 <;> omega
        refine holds_callW (w := w) (S' := (fun _ => False)) (Y := Nat) (fun _ => .tuple #[.string (tx5 q), .bool true]) (fun _ => [⟨W1.heap.size, 9, false, (nse_v2)⟩, ⟨W1.heap.size + 1, 22, false, [.slice (some ⟨W1.heap.size, 0, none⟩) 5 5]⟩, ⟨W1.heap.size + 2, 39, true, (intsU u)⟩, ⟨W1.heap.size + 3, 3, true, [.int .i64 a]⟩, ⟨W3.heap.size, 36, true, (nse_v3 acts i)⟩]) (fun _ W_ => NetAt 43 W_ nb mb (takeL L D)) (fun _ => [(111, .tuple #[.string (tx5 q), .bool true]), (0, .slice (some ⟨b, o, none⟩) n cp), (2, .bool false), (4, (nse_p nb 0)), (5, (nse_p (W1.heap.size + 1) 0)), (6, (nse_p (W1.heap.size + 2) 0)), (7, (nse_p (W1.heap.size + 3) 0)), (8, .func (.func 24) #[] (List.toArray (nse_v1 W1))), (9, .int .i64 (i : Int)), (12, .string (tx5 q)), (13, .bool true), (109, (nse_p nb 0)), (110, .int .i64 D)]) (nse_c112 n cp b o i D nb W1 q) trivial (fun _ => rfl) (fun wx hm => ?_) (fun _ W4 hX4 hm4 => ?_)
        · refine (take_net nb mb L D wx (hN3nb.kept hm.kept (hnT _ (by omega)) (hnT _ (by omega)))).mono fun e w' ⟨h1, h2, h3⟩ => ?_
          rw [hx] at h1
          exact ⟨0, h1, h2, (MemOk.back2 hm3 hm).offN (fun _ h => h) h3 (fun x h => .inr (by rcases h with h | h <;> omega)) (fun b hb h => hnB b hb (by rcases h with h | h <;> omega))⟩
        clear hnT hnB
        have hN4nb := hX4
        have hl_hN4nb := hN4nb.lt
        have hgb4_0 := (hm4.at_ 0 rfl).lt
        replace hgb4_0 : W1.heap.size < W4.heap.size := hgb4_0
        have hgb4_1 := (hm4.at_ 1 rfl).lt
        replace hgb4_1 : W1.heap.size + 1 < W4.heap.size := hgb4_1
        have hgb4_2 := (hm4.at_ 2 rfl).lt
        replace hgb4_2 : W1.heap.size + 2 < W4.heap.size := hgb4_2
        have hgb4_3 := (hm4.at_ 3 rfl).lt
        replace hgb4_3 : W1.heap.size + 3 < W4.heap.size := hgb4_3
        have hgb4_4 := (hm4.at_ 4 rfl).lt
        replace hgb4_4 : W3.heap.size < W4.heap.size := hgb4_4
        have hnT : ∀ xx, (xx = nb ∨ xx = mb) → ¬ Turned [⟨W1.heap.size, 9, false, (nse_v2)⟩, ⟨W1.heap.size + 1, 22, false, [.slice (some ⟨W1.heap.size, 0, none⟩) 5 5]⟩, ⟨W1.heap.size + 2, 39, true, (intsU u)⟩, ⟨W1.heap.size + 3, 3, true, [.int .i64 a]⟩, ⟨W3.heap.size, 36, true, (nse_v3 acts i)⟩] xx := by
          rintro xx hx2 ⟨b, hb, hr, he⟩
          simp at hb
          rcases hb with rfl | rfl | rfl | rfl | rfl <;> simp at he hr <;> omega
        refine holds_go _ _ (nse_s113 n cp b o acts i D nb W1 W3 W4 J q a u) ⟨rfl, rfl, rfl, rfl, (by rw [beq_self_eq_true _]; rfl), (by rw [beq_self_eq_true _]; rfl), rfl, rfl, trivial⟩ ?_
        have hpos : 0 ≤ addU u q (-1) q := by
          rw [addU_at]
          have := hu q
          have := hR.pos hx hq
          omega
        refine holds_callM (.bool true) [⟨W1.heap.size, 9, false, (nse_v2)⟩, ⟨W1.heap.size + 1, 22, false, [.slice (some ⟨W1.heap.size, 0, none⟩) 5 5]⟩, ⟨W1.heap.size + 2, 39, true, (intsU (addU u q (-1)))⟩, ⟨W1.heap.size + 3, 3, true, [.int .i64 (a + (-1))]⟩, ⟨W3.heap.size, 36, true, (nse_v3 acts i)⟩] (nse_c114 n cp b o i nb W1 q) ⟨rfl, trivial⟩ rfl (fun wx hm => ?_) fun z114 hz114 => ?_
        · exact (count_any q hq (-1) (by omega) a (by omega) u hu hpos _ _ _ _ hnd wx (hm.at_ 0 rfl) (hm.at_ 1 rfl) (hm.at_ 2 rfl) (hm.at_ 3 rfl)).mono fun en w' ⟨h1, h2, h3, h4⟩ => ⟨h1, hm.set2 2 3 rfl rfl rfl rfl (by omega) h4 h2 h3⟩
        replace hz114 : W4.heap.size ≤ z114 := hz114
        refine holds_go _ _ (nse_s115 n cp b o acts i nb W1 W3 J q a u z114) ⟨rfl, (by rw [beq_self_eq_true _]; rfl), rfl, (by rw [beq_self_eq_true _]; rfl), rfl, trivial⟩ ?_
        have hlen : ((takeL L D).length : Int) = (a + (-1)) := by rw [takeL_len hx]; omega
        refine holds_quietG _ _ (by kernel_rfl) (by kernel_rfl) (by kernel_rfl) (nse_q116 n cp b o acts i nb W1 W3 W4 q a u z114) ⟨(fun wx hm => by have h := len_net nb mb (takeL L D) wx (hN4nb.kept hm.2.kept (hnT _ (by omega)) (hnT _ (by omega))); rw [hlen] at h; exact h), trivial⟩ fun z116 hz116 => ?_
        replace hz116 : z114 ≤ z116 := hz116
        refine holds_go _ _ (nse_s117 n cp b o acts i nb W1 W3 J q a u z116) ⟨by simp, in64 (by omega), trivial⟩ ?_
        refine holds_prune nse_n9 [true, true, true, true, false] ?_
        intro a_ w9 hf hm
        exact hJ (m2 - 1) _ a_ w9 (by omega) ⟨i + 1, (takeL L D), (a + (-1)), (addU u q (-1)), _, by omega, by omega, hlen.symm, (sent_take hR hx hq), (hN4nb.kept hm.kept (hnT _ (by omega)) (hnT _ (by omega))), by rw [cast_succ]; rfl⟩ hf (MemOk.back2 hm4 hm)
      rcases Bool.eq_false_or_eq_true (C == 4) with d4 | d4
      · skip
        refine holds_go _ _ (nse_s118 n cp b o acts i C D E nb W1 W3 J q a u z43) ⟨d0, d1, d2, d3, d4, trivial⟩ ?_
        have hnB : ∀ b ∈ ([⟨W1.heap.size, 9, false, (nse_v2)⟩, ⟨W1.heap.size + 1, 22, false, [.slice (some ⟨W1.heap.size, 0, none⟩) 5 5]⟩, ⟨W1.heap.size + 2, 39, true, (intsU u)⟩, ⟨W1.heap.size + 3, 3, true, [.int .i64 a]⟩, ⟨W3.heap.size, 36, true, (nse_v3 acts i)⟩] : List Bk), ¬ (b.g = nb ∨ b.g = mb) := by
          intro b hb hx2
          simp at hb
          rcases hb with rfl | rfl | rfl | rfl | rfl <;> simp at hx2 <;> omega
        refine holds_callW (w := w) (S' := (fun _ => False)) (Y := Nat) (fun _ => .bool true) (fun _ => [⟨W1.heap.size, 9, false, (nse_v2)⟩, ⟨W1.heap.size + 1, 22, false, [.slice (some ⟨W1.heap.size, 0, none⟩) 5 5]⟩, ⟨W1.heap.size + 2, 39, true, (intsU u)⟩, ⟨W1.heap.size + 3, 3, true, [.int .i64 a]⟩, ⟨W3.heap.size, 36, true, (nse_v3 acts i)⟩]) (fun _ W_ => NetAt 43 W_ nb mb (copyL L D)) (fun _ => [(135, .bool true), (0, .slice (some ⟨b, o, none⟩) n cp), (2, .bool false), (4, (nse_p nb 0)), (5, (nse_p (W1.heap.size + 1) 0)), (6, (nse_p (W1.heap.size + 2) 0)), (7, (nse_p (W1.heap.size + 3) 0)), (8, .func (.func 24) #[] (List.toArray (nse_v1 W1))), (9, .int .i64 (i : Int)), (12, .string (tx5 q)), (13, .bool true), (14, .bool (decide ((a : Int) ≥ 64))), (133, (nse_p nb 0)), (134, .int .i64 D)]) (nse_c119 n cp b o i D nb W1 q a) trivial (fun _ => rfl) (fun wx hm => ?_) (fun _ W4 hX4 hm4 => ?_)
        · refine (copy_net nb mb L D wx (hN3nb.kept hm.kept (hnT _ (by omega)) (hnT _ (by omega)))).mono fun e w' ⟨h1, h2, h3⟩ => ?_
          rw [copyB_tx hx hFl] at h1
          exact ⟨0, h1, h2, (MemOk.back2 hm3 hm).offN (fun _ h => h) h3 (fun x h => .inr (by rcases h with h | h <;> omega)) (fun b hb h => hnB b hb (by rcases h with h | h <;> omega))⟩
        clear hnT hnB
        have hN4nb := hX4
        have hl_hN4nb := hN4nb.lt
        have hgb4_0 := (hm4.at_ 0 rfl).lt
        replace hgb4_0 : W1.heap.size < W4.heap.size := hgb4_0
        have hgb4_1 := (hm4.at_ 1 rfl).lt
        replace hgb4_1 : W1.heap.size + 1 < W4.heap.size := hgb4_1
        have hgb4_2 := (hm4.at_ 2 rfl).lt
        replace hgb4_2 : W1.heap.size + 2 < W4.heap.size := hgb4_2
        have hgb4_3 := (hm4.at_ 3 rfl).lt
        replace hgb4_3 : W1.heap.size + 3 < W4.heap.size := hgb4_3
        have hgb4_4 := (hm4.at_ 4 rfl).lt
        replace hgb4_4 : W3.heap.size < W4.heap.size := hgb4_4
        have hnT : ∀ xx, (xx = nb ∨ xx = mb) → ¬ Turned [⟨W1.heap.size, 9, false, (nse_v2)⟩, ⟨W1.heap.size + 1, 22, false, [.slice (some ⟨W1.heap.size, 0, none⟩) 5 5]⟩, ⟨W1.heap.size + 2, 39, true, (intsU u)⟩, ⟨W1.heap.size + 3, 3, true, [.int .i64 a]⟩, ⟨W3.heap.size, 36, true, (nse_v3 acts i)⟩] xx := by
          rintro xx hx2 ⟨b, hb, hr, he⟩
          simp at hb
          rcases hb with rfl | rfl | rfl | rfl | rfl <;> simp at he hr <;> omega
        refine holds_go _ _ (nse_s120 n cp b o acts i D nb W1 W3 W4 J q a u) ⟨rfl, rfl, rfl, (by rw [show (true == (!(decide ((a : Int) ≥ 64)))) = true from (by rw [show ((!(decide ((a : Int) ≥ 64)))) = true from (by rw [show ((decide ((a : Int) ≥ 64))) = false from decide_eq_false (by omega)]; rfl)]; rfl)]; rfl), (by rw [show (true == (!(decide ((a : Int) ≥ 64)))) = true from (by rw [show ((!(decide ((a : Int) ≥ 64)))) = true from (by rw [show ((decide ((a : Int) ≥ 64))) = false from decide_eq_false (by omega)]; rfl)]; rfl)]; rfl), rfl, rfl, (by rw [show (true == (!(decide ((a : Int) ≥ 64)))) = true from (by rw [show ((!(decide ((a : Int) ≥ 64)))) = true from (by rw [show ((decide ((a : Int) ≥ 64))) = false from decide_eq_false (by omega)]; rfl)]; rfl)]; rfl), rfl, (by rw [show (true == (!(decide ((a : Int) ≥ 64)))) = true from (by rw [show ((!(decide ((a : Int) ≥ 64)))) = true from (by rw [show ((decide ((a : Int) ≥ 64))) = false from decide_eq_false (by omega)]; rfl)]; rfl)]; rfl), (by rw [decide_eq_false (by omega)]; rfl), (by rw [decide_eq_false (by omega)]; rfl), trivial⟩ ?_
        have hpos : 0 ≤ addU u q 1 q := by
          rw [addU_at]
          have := hu q
          omega
        refine holds_callM (.bool true) [⟨W1.heap.size, 9, false, (nse_v2)⟩, ⟨W1.heap.size + 1, 22, false, [.slice (some ⟨W1.heap.size, 0, none⟩) 5 5]⟩, ⟨W1.heap.size + 2, 39, true, (intsU (addU u q 1))⟩, ⟨W1.heap.size + 3, 3, true, [.int .i64 (a + 1)]⟩, ⟨W3.heap.size, 36, true, (nse_v3 acts i)⟩] (nse_c121 n cp b o i nb W1 q a) ⟨(by rw [decide_eq_false (by omega)]; rfl), trivial⟩ rfl (fun wx hm => ?_) fun z121 hz121 => ?_
        · exact (count_any q hq 1 (by omega) a (by omega) u hu hpos _ _ _ _ hnd wx (hm.at_ 0 rfl) (hm.at_ 1 rfl) (hm.at_ 2 rfl) (hm.at_ 3 rfl)).mono fun en w' ⟨h1, h2, h3, h4⟩ => ⟨h1, hm.set2 2 3 rfl rfl rfl rfl (by omega) h4 h2 h3⟩
        replace hz121 : W4.heap.size ≤ z121 := hz121
        refine holds_go _ _ (nse_s122 n cp b o acts i nb W1 W3 J q a u z121) ⟨(by rw [decide_eq_false (by omega)]; rfl), (by rw [show (true == (!(decide ((a : Int) ≥ 64)))) = true from (by rw [show ((!(decide ((a : Int) ≥ 64)))) = true from (by rw [show ((decide ((a : Int) ≥ 64))) = false from decide_eq_false (by omega)]; rfl)]; rfl)]; rfl), (by rw [decide_eq_false (by omega)]; rfl), (by rw [show (true == (!(decide ((a : Int) ≥ 64)))) = true from (by rw [show ((!(decide ((a : Int) ≥ 64)))) = true from (by rw [show ((decide ((a : Int) ≥ 64))) = false from decide_eq_false (by omega)]; rfl)]; rfl)]; rfl), rfl, trivial⟩ ?_
        have hlen : ((copyL L D).length : Int) = (a + 1) := by rw [copyL_len hx hFl]; omega
        refine holds_quietG _ _ (by kernel_rfl) (by kernel_rfl) (by kernel_rfl) (nse_q123 n cp b o acts i nb W1 W3 W4 q a u z121) ⟨(fun wx hm => by have h := len_net nb mb (copyL L D) wx (hN4nb.kept hm.2.kept (hnT _ (by omega)) (hnT _ (by omega))); rw [hlen] at h; exact h), trivial⟩ fun z123 hz123 => ?_
        replace hz123 : z121 ≤ z123 := hz123
        refine holds_go _ _ (nse_s124 n cp b o acts i nb W1 W3 J q a u z123) ⟨by simp, in64 (by omega), trivial⟩ ?_
        refine holds_prune nse_n9 [true, true, true, true, false] ?_
        intro a_ w9 hf hm
        exact hJ (m2 - 1) _ a_ w9 (by omega) ⟨i + 1, (copyL L D), (a + 1), (addU u q 1), _, by omega, by omega, hlen.symm, (sent_copy hR hx hFl hq), (hN4nb.kept hm.kept (hnT _ (by omega)) (hnT _ (by omega))), by rw [cast_succ]; rfl⟩ hf (MemOk.back2 hm4 hm)
      refine holds_go _ _ (nse_s125 n cp b o acts i C D E nb W1 W3 J q a u z43) ⟨d0, d1, d2, d3, d4, trivial⟩ ?_
      have hnB : ∀ b ∈ ([⟨W1.heap.size, 9, false, (nse_v2)⟩, ⟨W1.heap.size + 1, 22, false, [.slice (some ⟨W1.heap.size, 0, none⟩) 5 5]⟩, ⟨W1.heap.size + 2, 39, true, (intsU u)⟩, ⟨W1.heap.size + 3, 3, true, [.int .i64 a]⟩, ⟨W3.heap.size, 36, true, (nse_v3 acts i)⟩] : List Bk), ¬ (b.g = nb ∨ b.g = mb) := by
        intro b hb hx2
        simp at hb
        rcases hb with rfl | rfl | rfl | rfl | rfl <;> simp at hx2 <;> omega
      refine holds_callW (w := w) (S' := (fun _ => False)) (Y := Nat) (fun _ => .bool true) (fun _ => [⟨W1.heap.size, 9, false, (nse_v2)⟩, ⟨W1.heap.size + 1, 22, false, [.slice (some ⟨W1.heap.size, 0, none⟩) 5 5]⟩, ⟨W1.heap.size + 2, 39, true, (intsU u)⟩, ⟨W1.heap.size + 3, 3, true, [.int .i64 a]⟩, ⟨W3.heap.size, 36, true, (nse_v3 acts i)⟩]) (fun _ W_ => NetAt 43 W_ nb mb (takeL L D)) (fun _ => [(69, .bool true), (0, .slice (some ⟨b, o, none⟩) n cp), (2, .bool false), (4, (nse_p nb 0)), (5, (nse_p (W1.heap.size + 1) 0)), (6, (nse_p (W1.heap.size + 2) 0)), (7, (nse_p (W1.heap.size + 3) 0)), (8, .func (.func 24) #[] (List.toArray (nse_v1 W1))), (9, .int .i64 (i : Int)), (12, .string (tx5 q)), (13, .bool true), (67, (nse_p nb 0)), (68, .int .i64 D)]) (nse_c126 n cp b o i D nb W1 q) trivial (fun _ => rfl) (fun wx hm => ?_) (fun _ W4 hX4 hm4 => ?_)
      · refine (drop_net nb mb L D wx (hN3nb.kept hm.kept (hnT _ (by omega)) (hnT _ (by omega)))).mono fun e w' ⟨h1, h2, h3⟩ => ?_
        rw [hx] at h1
        exact ⟨0, h1, h2, (MemOk.back2 hm3 hm).offN (fun _ h => h) h3 (fun x h => .inr (by rcases h with h | h <;> omega)) (fun b hb h => hnB b hb (by rcases h with h | h <;> omega))⟩
      clear hnT hnB
      have hN4nb := hX4
      have hl_hN4nb := hN4nb.lt
      have hgb4_0 := (hm4.at_ 0 rfl).lt
      replace hgb4_0 : W1.heap.size < W4.heap.size := hgb4_0
      have hgb4_1 := (hm4.at_ 1 rfl).lt
      replace hgb4_1 : W1.heap.size + 1 < W4.heap.size := hgb4_1
      have hgb4_2 := (hm4.at_ 2 rfl).lt
      replace hgb4_2 : W1.heap.size + 2 < W4.heap.size := hgb4_2
      have hgb4_3 := (hm4.at_ 3 rfl).lt
      replace hgb4_3 : W1.heap.size + 3 < W4.heap.size := hgb4_3
      have hgb4_4 := (hm4.at_ 4 rfl).lt
      replace hgb4_4 : W3.heap.size < W4.heap.size := hgb4_4
      have hnT : ∀ xx, (xx = nb ∨ xx = mb) → ¬ Turned [⟨W1.heap.size, 9, false, (nse_v2)⟩, ⟨W1.heap.size + 1, 22, false, [.slice (some ⟨W1.heap.size, 0, none⟩) 5 5]⟩, ⟨W1.heap.size + 2, 39, true, (intsU u)⟩, ⟨W1.heap.size + 3, 3, true, [.int .i64 a]⟩, ⟨W3.heap.size, 36, true, (nse_v3 acts i)⟩] xx := by
        rintro xx hx2 ⟨b, hb, hr, he⟩
        simp at hb
        rcases hb with rfl | rfl | rfl | rfl | rfl <;> simp at he hr <;> omega
      refine holds_go _ _ (nse_s127 n cp b o acts i D nb W1 W3 W4 J q a u) ⟨rfl, rfl, rfl, rfl, trivial⟩ ?_
      have hpos : 0 ≤ addU u q (-1) q := by
        rw [addU_at]
        have := hu q
        have := hR.pos hx hq
        omega
      refine holds_callM (.bool true) [⟨W1.heap.size, 9, false, (nse_v2)⟩, ⟨W1.heap.size + 1, 22, false, [.slice (some ⟨W1.heap.size, 0, none⟩) 5 5]⟩, ⟨W1.heap.size + 2, 39, true, (intsU (addU u q (-1)))⟩, ⟨W1.heap.size + 3, 3, true, [.int .i64 (a + (-1))]⟩, ⟨W3.heap.size, 36, true, (nse_v3 acts i)⟩] (nse_c128 n cp b o i nb W1 q) ⟨rfl, trivial⟩ rfl (fun wx hm => ?_) fun z128 hz128 => ?_
      · exact (count_any q hq (-1) (by omega) a (by omega) u hu hpos _ _ _ _ hnd wx (hm.at_ 0 rfl) (hm.at_ 1 rfl) (hm.at_ 2 rfl) (hm.at_ 3 rfl)).mono fun en w' ⟨h1, h2, h3, h4⟩ => ⟨h1, hm.set2 2 3 rfl rfl rfl rfl (by omega) h4 h2 h3⟩
      replace hz128 : W4.heap.size ≤ z128 := hz128
      refine holds_go _ _ (nse_s129 n cp b o acts i nb W1 W3 J q a u z128) ⟨rfl, rfl, rfl, rfl, rfl, trivial⟩ ?_
      have hlen : ((takeL L D).length : Int) = (a + (-1)) := by rw [takeL_len hx]; omega
      refine holds_quietG _ _ (by kernel_rfl) (by kernel_rfl) (by kernel_rfl) (nse_q130 n cp b o acts i nb W1 W3 W4 q a u z128) ⟨(fun wx hm => by have h := len_net nb mb (takeL L D) wx (hN4nb.kept hm.2.kept (hnT _ (by omega)) (hnT _ (by omega))); rw [hlen] at h; exact h), trivial⟩ fun z130 hz130 => ?_
      replace hz130 : z128 ≤ z130 := hz130
      refine holds_go _ _ (nse_s131 n cp b o acts i nb W1 W3 J q a u z130) ⟨by simp, in64 (by omega), trivial⟩ ?_
      refine holds_prune nse_n9 [true, true, true, true, false] ?_
      intro a_ w9 hf hm
      exact hJ (m2 - 1) _ a_ w9 (by omega) ⟨i + 1, (takeL L D), (a + (-1)), (addU u q (-1)), _, by omega, by omega, hlen.symm, (sent_take hR hx hq), (hN4nb.kept hm.kept (hnT _ (by omega)) (hnT _ (by omega))), by rw [cast_succ]; rfl⟩ hf (MemOk.back2 hm4 hm)
  · skip
    have hx : lookR L D = none := lookR_none (by omega)
    refine holds_callP (.tuple #[.string ⟨#[]⟩, .bool false]) (nse_c132 n cp b o i D nb W1 W3) trivial rfl (fun wx hm => by have h := look_net nb mb L D wx (hN3nb.kept hm.kept (hnT _ (by omega)) (hnT _ (by omega))); rw [hx] at h; exact h) fun z132 hz132 => ?_
    replace hz132 : z39 ≤ z132 := hz132
    refine holds_go _ _ (nse_s133 n cp b o acts i D E nb W1 W3 J a u z132) ⟨(by rw [show (false == (decide ((D : Int) < a))) = true from (by rw [show ((decide ((D : Int) < a))) = false from decide_eq_false (by omega)]; rfl)]; rfl), trivial⟩ ?_
    refine holds_callP (.int .i64 C) (nse_c134 n cp b o acts i D nb W1 W3 a) trivial rfl (fun wx hm => pick13 _ _ _ hC wx (by omega) (by omega) ha.what) fun z134 hz134 => ?_
    replace hz134 : z132 ≤ z134 := hz134
    by_cases hF : 64 ≤ a
    · skip
      have hFl : L.length = 64 := by omega
      rcases Bool.eq_false_or_eq_true (C == 0) with d0 | d0
      · skip
        refine holds_go _ _ (nse_s135 n cp b o acts i C D E nb W1 W3 J a u z134) ⟨d0, d0, trivial⟩ ?_
        refine holds_quietG _ _ (by kernel_rfl) (by kernel_rfl) (by kernel_rfl) (nse_q136 n cp b o acts i E nb W1 W3 a u z134) ⟨(fun wx hm => pick13 _ _ _ hE wx (by omega) (by omega) ha.at_), ⟨by omega, by omega⟩, trivial⟩ fun z136 hz136 => ?_
        replace hz136 : z134 ≤ z136 := hz136
        refine holds_go _ _ (nse_s137 n cp b o acts i E nb W1 W3 J a u z136) trivial ?_
        have hnB : ∀ b ∈ ([⟨W1.heap.size, 9, false, (nse_v2)⟩, ⟨W1.heap.size + 1, 22, false, [.slice (some ⟨W1.heap.size, 0, none⟩) 5 5]⟩, ⟨W1.heap.size + 2, 39, true, (intsU u)⟩, ⟨W1.heap.size + 3, 3, true, [.int .i64 a]⟩, ⟨W3.heap.size, 36, true, (nse_v3 acts i)⟩] : List Bk), ¬ (b.g = nb ∨ b.g = mb) := by
          intro b hb hx2
          simp at hb
          rcases hb with rfl | rfl | rfl | rfl | rfl <;> simp at hx2 <;> omega
        refine holds_callW (w := w) (S' := (fun _ => False)) (Y := Nat) (fun _ => .bool false) (fun _ => [⟨W1.heap.size, 9, false, (nse_v2)⟩, ⟨W1.heap.size + 1, 22, false, [.slice (some ⟨W1.heap.size, 0, none⟩) 5 5]⟩, ⟨W1.heap.size + 2, 39, true, (intsU u)⟩, ⟨W1.heap.size + 3, 3, true, [.int .i64 a]⟩, ⟨W3.heap.size, 36, true, (nse_v3 acts i)⟩]) (fun _ W_ => NetAt 43 W_ nb mb (sendL L (tx5 (Int.toNat E)))) (fun _ => [(93, .bool false), (0, .slice (some ⟨b, o, none⟩) n cp), (2, .bool false), (4, (nse_p nb 0)), (5, (nse_p (W1.heap.size + 1) 0)), (6, (nse_p (W1.heap.size + 2) 0)), (7, (nse_p (W1.heap.size + 3) 0)), (8, .func (.func 24) #[] (List.toArray (nse_v1 W1))), (9, .int .i64 (i : Int)), (14, .bool (decide ((a : Int) ≥ 64))), (15, .string (tx5 (Int.toNat E))), (91, (nse_p nb 0)), (92, .string (tx5 (Int.toNat E)))]) (nse_c138 n cp b o i E nb W1 a) trivial (fun _ => rfl) (fun wx hm => ?_) (fun _ W4 hX4 hm4 => ?_)
        · refine (send_net nb mb L (tx5 (Int.toNat E)) wx (hN3nb.kept hm.kept (hnT _ (by omega)) (hnT _ (by omega)))).mono fun e w' ⟨h1, h2, h3⟩ => ?_
          rw [okS_full hFl] at h1
          exact ⟨0, h1, h2, (MemOk.back2 hm3 hm).offN (fun _ h => h) h3 (fun x h => .inr (by rcases h with h | h <;> omega)) (fun b hb h => hnB b hb (by rcases h with h | h <;> omega))⟩
        clear hnT hnB
        have hN4nb := hX4
        have hl_hN4nb := hN4nb.lt
        have hgb4_0 := (hm4.at_ 0 rfl).lt
        replace hgb4_0 : W1.heap.size < W4.heap.size := hgb4_0
        have hgb4_1 := (hm4.at_ 1 rfl).lt
        replace hgb4_1 : W1.heap.size + 1 < W4.heap.size := hgb4_1
        have hgb4_2 := (hm4.at_ 2 rfl).lt
        replace hgb4_2 : W1.heap.size + 2 < W4.heap.size := hgb4_2
        have hgb4_3 := (hm4.at_ 3 rfl).lt
        replace hgb4_3 : W1.heap.size + 3 < W4.heap.size := hgb4_3
        have hgb4_4 := (hm4.at_ 4 rfl).lt
        replace hgb4_4 : W3.heap.size < W4.heap.size := hgb4_4
        have hnT : ∀ xx, (xx = nb ∨ xx = mb) → ¬ Turned [⟨W1.heap.size, 9, false, (nse_v2)⟩, ⟨W1.heap.size + 1, 22, false, [.slice (some ⟨W1.heap.size, 0, none⟩) 5 5]⟩, ⟨W1.heap.size + 2, 39, true, (intsU u)⟩, ⟨W1.heap.size + 3, 3, true, [.int .i64 a]⟩, ⟨W3.heap.size, 36, true, (nse_v3 acts i)⟩] xx := by
          rintro xx hx2 ⟨b, hb, hr, he⟩
          simp at hb
          rcases hb with rfl | rfl | rfl | rfl | rfl <;> simp at he hr <;> omega
        refine holds_go _ _ (nse_s139 n cp b o acts i E nb W1 W3 W4 J a u) ⟨(by rw [show ((decide ((a : Int) ≥ 64))) = true from decide_eq_true (by omega)]; rfl), (by rw [show ((decide ((a : Int) ≥ 64))) = true from decide_eq_true (by omega)]; rfl), (by rw [show ((decide ((a : Int) ≥ 64))) = true from decide_eq_true (by omega)]; rfl), (by rw [decide_eq_true (by omega)]; rfl), (by rw [decide_eq_true (by omega)]; rfl), (by rw [decide_eq_true (by omega)]; rfl), (by rw [decide_eq_true (by omega)]; rfl), (by rw [show ((decide ((a : Int) ≥ 64))) = true from decide_eq_true (by omega)]; rfl), (by rw [decide_eq_true (by omega)]; rfl), (by rw [show ((decide ((a : Int) ≥ 64))) = true from decide_eq_true (by omega)]; rfl), rfl, trivial⟩ ?_
        have hlen : ((sendL L (tx5 (Int.toNat E))).length : Int) = a := by rw [sendL_full hFl]; omega
        refine holds_quietG _ _ (by kernel_rfl) (by kernel_rfl) (by kernel_rfl) (nse_q140 n cp b o acts i nb W1 W3 W4 a u) ⟨(fun wx hm => by have h := len_net nb mb (sendL L (tx5 (Int.toNat E))) wx (hN4nb.kept hm.2.kept (hnT _ (by omega)) (hnT _ (by omega))); rw [hlen] at h; exact h), trivial⟩ fun z140 hz140 => ?_
        replace hz140 : W4.heap.size ≤ z140 := hz140
        refine holds_go _ _ (nse_s141 n cp b o acts i nb W1 W3 J a u z140) ⟨by simp, in64 (by omega), trivial⟩ ?_
        refine holds_prune nse_n9 [true, true, true, true, false] ?_
        intro a_ w9 hf hm
        exact hJ (m2 - 1) _ a_ w9 (by omega) ⟨i + 1, (sendL L (tx5 (Int.toNat E))), a, u, _, by omega, by omega, hlen.symm, (sent_full hR hFl _), (hN4nb.kept hm.kept (hnT _ (by omega)) (hnT _ (by omega))), by rw [cast_succ]; rfl⟩ hf (MemOk.back2 hm4 hm)
      rcases Bool.eq_false_or_eq_true (C == 1) with d1 | d1
      · skip
        refine holds_go _ _ (nse_s142 n cp b o acts i C D E nb W1 W3 J a u z134) ⟨d0, d1, d1, trivial⟩ ?_
        refine holds_quietG _ _ (by kernel_rfl) (by kernel_rfl) (by kernel_rfl) (nse_q143 n cp b o acts i E nb W1 W3 a u z134) ⟨(fun wx hm => pick13 _ _ _ hE wx (by omega) (by omega) ha.at_), ⟨by omega, by omega⟩, trivial⟩ fun z143 hz143 => ?_
        replace hz143 : z134 ≤ z143 := hz143
        refine holds_go _ _ (nse_s144 n cp b o acts i E nb W1 W3 J a u z143) trivial ?_
        have hnB : ∀ b ∈ ([⟨W1.heap.size, 9, false, (nse_v2)⟩, ⟨W1.heap.size + 1, 22, false, [.slice (some ⟨W1.heap.size, 0, none⟩) 5 5]⟩, ⟨W1.heap.size + 2, 39, true, (intsU u)⟩, ⟨W1.heap.size + 3, 3, true, [.int .i64 a]⟩, ⟨W3.heap.size, 36, true, (nse_v3 acts i)⟩] : List Bk), ¬ (b.g = nb ∨ b.g = mb) := by
          intro b hb hx2
          simp at hb
          rcases hb with rfl | rfl | rfl | rfl | rfl <;> simp at hx2 <;> omega
        refine holds_callW (w := w) (S' := (fun _ => False)) (Y := Nat) (fun _ => .bool false) (fun _ => [⟨W1.heap.size, 9, false, (nse_v2)⟩, ⟨W1.heap.size + 1, 22, false, [.slice (some ⟨W1.heap.size, 0, none⟩) 5 5]⟩, ⟨W1.heap.size + 2, 39, true, (intsU u)⟩, ⟨W1.heap.size + 3, 3, true, [.int .i64 a]⟩, ⟨W3.heap.size, 36, true, (nse_v3 acts i)⟩]) (fun _ W_ => NetAt 43 W_ nb mb (sendL L (tx5 (Int.toNat E)))) (fun _ => [(93, .bool false), (0, .slice (some ⟨b, o, none⟩) n cp), (2, .bool false), (4, (nse_p nb 0)), (5, (nse_p (W1.heap.size + 1) 0)), (6, (nse_p (W1.heap.size + 2) 0)), (7, (nse_p (W1.heap.size + 3) 0)), (8, .func (.func 24) #[] (List.toArray (nse_v1 W1))), (9, .int .i64 (i : Int)), (14, .bool (decide ((a : Int) ≥ 64))), (15, .string (tx5 (Int.toNat E))), (91, (nse_p nb 0)), (92, .string (tx5 (Int.toNat E)))]) (nse_c145 n cp b o i E nb W1 a) trivial (fun _ => rfl) (fun wx hm => ?_) (fun _ W4 hX4 hm4 => ?_)
        · refine (send_net nb mb L (tx5 (Int.toNat E)) wx (hN3nb.kept hm.kept (hnT _ (by omega)) (hnT _ (by omega)))).mono fun e w' ⟨h1, h2, h3⟩ => ?_
          rw [okS_full hFl] at h1
          exact ⟨0, h1, h2, (MemOk.back2 hm3 hm).offN (fun _ h => h) h3 (fun x h => .inr (by rcases h with h | h <;> omega)) (fun b hb h => hnB b hb (by rcases h with h | h <;> omega))⟩
        clear hnT hnB
        have hN4nb := hX4
        have hl_hN4nb := hN4nb.lt
        have hgb4_0 := (hm4.at_ 0 rfl).lt
        replace hgb4_0 : W1.heap.size < W4.heap.size := hgb4_0
        have hgb4_1 := (hm4.at_ 1 rfl).lt
        replace hgb4_1 : W1.heap.size + 1 < W4.heap.size := hgb4_1
        have hgb4_2 := (hm4.at_ 2 rfl).lt
        replace hgb4_2 : W1.heap.size + 2 < W4.heap.size := hgb4_2
        have hgb4_3 := (hm4.at_ 3 rfl).lt
        replace hgb4_3 : W1.heap.size + 3 < W4.heap.size := hgb4_3
        have hgb4_4 := (hm4.at_ 4 rfl).lt
        replace hgb4_4 : W3.heap.size < W4.heap.size := hgb4_4
        have hnT : ∀ xx, (xx = nb ∨ xx = mb) → ¬ Turned [⟨W1.heap.size, 9, false, (nse_v2)⟩, ⟨W1.heap.size + 1, 22, false, [.slice (some ⟨W1.heap.size, 0, none⟩) 5 5]⟩, ⟨W1.heap.size + 2, 39, true, (intsU u)⟩, ⟨W1.heap.size + 3, 3, true, [.int .i64 a]⟩, ⟨W3.heap.size, 36, true, (nse_v3 acts i)⟩] xx := by
          rintro xx hx2 ⟨b, hb, hr, he⟩
          simp at hb
          rcases hb with rfl | rfl | rfl | rfl | rfl <;> simp at he hr <;> omega
        refine holds_go _ _ (nse_s146 n cp b o acts i E nb W1 W3 W4 J a u) ⟨(by rw [show ((decide ((a : Int) ≥ 64))) = true from decide_eq_true (by omega)]; rfl), (by rw [show ((decide ((a : Int) ≥ 64))) = true from decide_eq_true (by omega)]; rfl), (by rw [show ((decide ((a : Int) ≥ 64))) = true from decide_eq_true (by omega)]; rfl), (by rw [decide_eq_true (by omega)]; rfl), (by rw [decide_eq_true (by omega)]; rfl), (by rw [decide_eq_true (by omega)]; rfl), (by rw [decide_eq_true (by omega)]; rfl), (by rw [show ((decide ((a : Int) ≥ 64))) = true from decide_eq_true (by omega)]; rfl), (by rw [decide_eq_true (by omega)]; rfl), (by rw [show ((decide ((a : Int) ≥ 64))) = true from decide_eq_true (by omega)]; rfl), rfl, trivial⟩ ?_
        have hlen : ((sendL L (tx5 (Int.toNat E))).length : Int) = a := by rw [sendL_full hFl]; omega
        refine holds_quietG _ _ (by kernel_rfl) (by kernel_rfl) (by kernel_rfl) (nse_q147 n cp b o acts i nb W1 W3 W4 a u) ⟨(fun wx hm => by have h := len_net nb mb (sendL L (tx5 (Int.toNat E))) wx (hN4nb.kept hm.2.kept (hnT _ (by omega)) (hnT _ (by omega))); rw [hlen] at h; exact h), trivial⟩ fun z147 hz147 => ?_
        replace hz147 : W4.heap.size ≤ z147 := hz147
        refine holds_go _ _ (nse_s148 n cp b o acts i nb W1 W3 J a u z147) ⟨by simp, in64 (by omega), trivial⟩ ?_
        refine holds_prune nse_n9 [true, true, true, true, false] ?_
        intro a_ w9 hf hm
        exact hJ (m2 - 1) _ a_ w9 (by omega) ⟨i + 1, (sendL L (tx5 (Int.toNat E))), a, u, _, by omega, by omega, hlen.symm, (sent_full hR hFl _), (hN4nb.kept hm.kept (hnT _ (by omega)) (hnT _ (by omega))), by rw [cast_succ]; rfl⟩ hf (MemOk.back2 hm4 hm)
      rcases Bool.eq_false_or_eq_true (C == 2) with d2 | d2
      · skip
        refine holds_go _ _ (nse_s149 n cp b o acts i C D E nb W1 W3 J a u z134) ⟨d0, d1, d2, trivial⟩ ?_
        refine holds_quietG _ _ (by kernel_rfl) (by kernel_rfl) (by kernel_rfl) (nse_q150 n cp b o acts i E nb W1 W3 a u z134) ⟨(fun wx hm => pick13 _ _ _ hE wx (by omega) (by omega) ha.at_), ⟨by omega, by omega⟩, trivial⟩ fun z150 hz150 => ?_
        replace hz150 : z134 ≤ z150 := hz150
        refine holds_go _ _ (nse_s151 n cp b o acts i E nb W1 W3 J a u z150) trivial ?_
        have hnB : ∀ b ∈ ([⟨W1.heap.size, 9, false, (nse_v2)⟩, ⟨W1.heap.size + 1, 22, false, [.slice (some ⟨W1.heap.size, 0, none⟩) 5 5]⟩, ⟨W1.heap.size + 2, 39, true, (intsU u)⟩, ⟨W1.heap.size + 3, 3, true, [.int .i64 a]⟩, ⟨W3.heap.size, 36, true, (nse_v3 acts i)⟩] : List Bk), ¬ (b.g = nb ∨ b.g = mb) := by
          intro b hb hx2
          simp at hb
          rcases hb with rfl | rfl | rfl | rfl | rfl <;> simp at hx2 <;> omega
        refine holds_callW (w := w) (S' := (fun _ => False)) (Y := Nat) (fun _ => .bool false) (fun _ => [⟨W1.heap.size, 9, false, (nse_v2)⟩, ⟨W1.heap.size + 1, 22, false, [.slice (some ⟨W1.heap.size, 0, none⟩) 5 5]⟩, ⟨W1.heap.size + 2, 39, true, (intsU u)⟩, ⟨W1.heap.size + 3, 3, true, [.int .i64 a]⟩, ⟨W3.heap.size, 36, true, (nse_v3 acts i)⟩]) (fun _ W_ => NetAt 43 W_ nb mb (sendL L (tx5 (Int.toNat E)))) (fun _ => [(93, .bool false), (0, .slice (some ⟨b, o, none⟩) n cp), (2, .bool false), (4, (nse_p nb 0)), (5, (nse_p (W1.heap.size + 1) 0)), (6, (nse_p (W1.heap.size + 2) 0)), (7, (nse_p (W1.heap.size + 3) 0)), (8, .func (.func 24) #[] (List.toArray (nse_v1 W1))), (9, .int .i64 (i : Int)), (14, .bool (decide ((a : Int) ≥ 64))), (15, .string (tx5 (Int.toNat E))), (91, (nse_p nb 0)), (92, .string (tx5 (Int.toNat E)))]) (nse_c152 n cp b o i E nb W1 a) trivial (fun _ => rfl) (fun wx hm => ?_) (fun _ W4 hX4 hm4 => ?_)
        · refine (send_net nb mb L (tx5 (Int.toNat E)) wx (hN3nb.kept hm.kept (hnT _ (by omega)) (hnT _ (by omega)))).mono fun e w' ⟨h1, h2, h3⟩ => ?_
          rw [okS_full hFl] at h1
          exact ⟨0, h1, h2, (MemOk.back2 hm3 hm).offN (fun _ h => h) h3 (fun x h => .inr (by rcases h with h | h <;> omega)) (fun b hb h => hnB b hb (by rcases h with h | h <;> omega))⟩
        clear hnT hnB
        have hN4nb := hX4
        have hl_hN4nb := hN4nb.lt
        have hgb4_0 := (hm4.at_ 0 rfl).lt
        replace hgb4_0 : W1.heap.size < W4.heap.size := hgb4_0
        have hgb4_1 := (hm4.at_ 1 rfl).lt
        replace hgb4_1 : W1.heap.size + 1 < W4.heap.size := hgb4_1
        have hgb4_2 := (hm4.at_ 2 rfl).lt
        replace hgb4_2 : W1.heap.size + 2 < W4.heap.size := hgb4_2
        have hgb4_3 := (hm4.at_ 3 rfl).lt
        replace hgb4_3 : W1.heap.size + 3 < W4.heap.size := hgb4_3
        have hgb4_4 := (hm4.at_ 4 rfl).lt
        replace hgb4_4 : W3.heap.size < W4.heap.size := hgb4_4
        have hnT : ∀ xx, (xx = nb ∨ xx = mb) → ¬ Turned [⟨W1.heap.size, 9, false, (nse_v2)⟩, ⟨W1.heap.size + 1, 22, false, [.slice (some ⟨W1.heap.size, 0, none⟩) 5 5]⟩, ⟨W1.heap.size + 2, 39, true, (intsU u)⟩, ⟨W1.heap.size + 3, 3, true, [.int .i64 a]⟩, ⟨W3.heap.size, 36, true, (nse_v3 acts i)⟩] xx := by
          rintro xx hx2 ⟨b, hb, hr, he⟩
          simp at hb
          rcases hb with rfl | rfl | rfl | rfl | rfl <;> simp at he hr <;> omega
        refine holds_go _ _ (nse_s153 n cp b o acts i E nb W1 W3 W4 J a u) ⟨(by rw [show ((decide ((a : Int) ≥ 64))) = true from decide_eq_true (by omega)]; rfl), (by rw [show ((decide ((a : Int) ≥ 64))) = true from decide_eq_true (by omega)]; rfl), (by rw [show ((decide ((a : Int) ≥ 64))) = true from decide_eq_true (by omega)]; rfl), (by rw [decide_eq_true (by omega)]; rfl), (by rw [decide_eq_true (by omega)]; rfl), (by rw [decide_eq_true (by omega)]; rfl), (by rw [decide_eq_true (by omega)]; rfl), (by rw [show ((decide ((a : Int) ≥ 64))) = true from decide_eq_true (by omega)]; rfl), (by rw [decide_eq_true (by omega)]; rfl), (by rw [show ((decide ((a : Int) ≥ 64))) = true from decide_eq_true (by omega)]; rfl), rfl, trivial⟩ ?_
        have hlen : ((sendL L (tx5 (Int.toNat E))).length : Int) = a := by rw [sendL_full hFl]; omega
        refine holds_quietG _ _ (by kernel_rfl) (by kernel_rfl) (by kernel_rfl) (nse_q154 n cp b o acts i nb W1 W3 W4 a u) ⟨(fun wx hm => by have h := len_net nb mb (sendL L (tx5 (Int.toNat E))) wx (hN4nb.kept hm.2.kept (hnT _ (by omega)) (hnT _ (by omega))); rw [hlen] at h; exact h), trivial⟩ fun z154 hz154 => ?_
        replace hz154 : W4.heap.size ≤ z154 := hz154
        refine holds_go _ _ (nse_s155 n cp b o acts i nb W1 W3 J a u z154) ⟨by simp, in64 (by omega), trivial⟩ ?_
        refine holds_prune nse_n9 [true, true, true, true, false] ?_
        intro a_ w9 hf hm
        exact hJ (m2 - 1) _ a_ w9 (by omega) ⟨i + 1, (sendL L (tx5 (Int.toNat E))), a, u, _, by omega, by omega, hlen.symm, (sent_full hR hFl _), (hN4nb.kept hm.kept (hnT _ (by omega)) (hnT _ (by omega))), by rw [cast_succ]; rfl⟩ hf (MemOk.back2 hm4 hm)
      rcases Bool.eq_false_or_eq_true (C == 3) with d3 | d3
      · skip
        refine holds_go _ _ (nse_s156 n cp b o acts i C D E nb W1 W3 J a u z134) ⟨d0, d1, d2, d3, trivial⟩ ?_
        have hnB : ∀ b ∈ ([⟨W1.heap.size, 9, false, (nse_v2)⟩, ⟨W1.heap.size + 1, 22, false, [.slice (some ⟨W1.heap.size, 0, none⟩) 5 5]⟩, ⟨W1.heap.size + 2, 39, true, (intsU u)⟩, ⟨W1.heap.size + 3, 3, true, [.int .i64 a]⟩, ⟨W3.heap.size, 36, true, (nse_v3 acts i)⟩] : List Bk), ¬ (b.g = nb ∨ b.g = mb) := by
          intro b hb hx2
          simp at hb
          rcases hb with rfl | rfl | rfl | rfl | rfl <;> simp at hx2 <;> omega
        refine holds_callW (w := w) (S' := (fun _ => False)) (Y := Nat) (fun _ => .tuple #[.string ⟨#[]⟩, .bool false]) (fun _ => [⟨W1.heap.size, 9, false, (nse_v2)⟩, ⟨W1.heap.size + 1, 22, false, [.slice (some ⟨W1.heap.size, 0, none⟩) 5 5]⟩, ⟨W1.heap.size + 2, 39, true, (intsU u)⟩, ⟨W1.heap.size + 3, 3, true, [.int .i64 a]⟩, ⟨W3.heap.size, 36, true, (nse_v3 acts i)⟩]) (fun _ W_ => NetAt 43 W_ nb mb (takeL L D)) (fun _ => [(111, .tuple #[.string ⟨#[]⟩, .bool false]), (0, .slice (some ⟨b, o, none⟩) n cp), (2, .bool false), (4, (nse_p nb 0)), (5, (nse_p (W1.heap.size + 1) 0)), (6, (nse_p (W1.heap.size + 2) 0)), (7, (nse_p (W1.heap.size + 3) 0)), (8, .func (.func 24) #[] (List.toArray (nse_v1 W1))), (9, .int .i64 (i : Int)), (12, .string ⟨#[]⟩), (13, .bool false), (109, (nse_p nb 0)), (110, .int .i64 D)]) (nse_c157 n cp b o i D nb W1) trivial (fun _ => rfl) (fun wx hm => ?_) (fun _ W4 hX4 hm4 => ?_)
        · refine (take_net nb mb L D wx (hN3nb.kept hm.kept (hnT _ (by omega)) (hnT _ (by omega)))).mono fun e w' ⟨h1, h2, h3⟩ => ?_
          rw [hx] at h1
          exact ⟨0, h1, h2, (MemOk.back2 hm3 hm).offN (fun _ h => h) h3 (fun x h => .inr (by rcases h with h | h <;> omega)) (fun b hb h => hnB b hb (by rcases h with h | h <;> omega))⟩
        clear hnT hnB
        have hN4nb := hX4
        have hl_hN4nb := hN4nb.lt
        have hgb4_0 := (hm4.at_ 0 rfl).lt
        replace hgb4_0 : W1.heap.size < W4.heap.size := hgb4_0
        have hgb4_1 := (hm4.at_ 1 rfl).lt
        replace hgb4_1 : W1.heap.size + 1 < W4.heap.size := hgb4_1
        have hgb4_2 := (hm4.at_ 2 rfl).lt
        replace hgb4_2 : W1.heap.size + 2 < W4.heap.size := hgb4_2
        have hgb4_3 := (hm4.at_ 3 rfl).lt
        replace hgb4_3 : W1.heap.size + 3 < W4.heap.size := hgb4_3
        have hgb4_4 := (hm4.at_ 4 rfl).lt
        replace hgb4_4 : W3.heap.size < W4.heap.size := hgb4_4
        have hnT : ∀ xx, (xx = nb ∨ xx = mb) → ¬ Turned [⟨W1.heap.size, 9, false, (nse_v2)⟩, ⟨W1.heap.size + 1, 22, false, [.slice (some ⟨W1.heap.size, 0, none⟩) 5 5]⟩, ⟨W1.heap.size + 2, 39, true, (intsU u)⟩, ⟨W1.heap.size + 3, 3, true, [.int .i64 a]⟩, ⟨W3.heap.size, 36, true, (nse_v3 acts i)⟩] xx := by
          rintro xx hx2 ⟨b, hb, hr, he⟩
          simp at hb
          rcases hb with rfl | rfl | rfl | rfl | rfl <;> simp at he hr <;> omega
        refine holds_go _ _ (nse_s158 n cp b o acts i D nb W1 W3 W4 J a u) ⟨rfl, rfl, rfl, rfl, (by rw [beq_self_eq_true _]; rfl), (by rw [beq_self_eq_true _]; rfl), rfl, rfl, rfl, rfl, (by rw [beq_self_eq_true _]; rfl), rfl, (by rw [beq_self_eq_true _]; rfl), rfl, trivial⟩ ?_
        have hlen : ((takeL L D).length : Int) = a := by rw [takeL_none hx]; omega
        refine holds_quietG _ _ (by kernel_rfl) (by kernel_rfl) (by kernel_rfl) (nse_q159 n cp b o acts i nb W1 W3 W4 a u) ⟨(fun wx hm => by have h := len_net nb mb (takeL L D) wx (hN4nb.kept hm.2.kept (hnT _ (by omega)) (hnT _ (by omega))); rw [hlen] at h; exact h), trivial⟩ fun z159 hz159 => ?_
        replace hz159 : W4.heap.size ≤ z159 := hz159
        refine holds_go _ _ (nse_s160 n cp b o acts i nb W1 W3 J a u z159) ⟨by simp, in64 (by omega), trivial⟩ ?_
        refine holds_prune nse_n9 [true, true, true, true, false] ?_
        intro a_ w9 hf hm
        exact hJ (m2 - 1) _ a_ w9 (by omega) ⟨i + 1, (takeL L D), a, u, _, by omega, by omega, hlen.symm, (sent_take0 hR hx), (hN4nb.kept hm.kept (hnT _ (by omega)) (hnT _ (by omega))), by rw [cast_succ]; rfl⟩ hf (MemOk.back2 hm4 hm)
      rcases Bool.eq_false_or_eq_true (C == 4) with d4 | d4
      · skip
        refine holds_go _ _ (nse_s161 n cp b o acts i C D E nb W1 W3 J a u z134) ⟨d0, d1, d2, d3, d4, trivial⟩ ?_
        have hnB : ∀ b ∈ ([⟨W1.heap.size, 9, false, (nse_v2)⟩, ⟨W1.heap.size + 1, 22, false, [.slice (some ⟨W1.heap.size, 0, none⟩) 5 5]⟩, ⟨W1.heap.size + 2, 39, true, (intsU u)⟩, ⟨W1.heap.size + 3, 3, true, [.int .i64 a]⟩, ⟨W3.heap.size, 36, true, (nse_v3 acts i)⟩] : List Bk), ¬ (b.g = nb ∨ b.g = mb) := by
          intro b hb hx2
          simp at hb
          rcases hb with rfl | rfl | rfl | rfl | rfl <;> simp at hx2 <;> omega
        refine holds_callW (w := w) (S' := (fun _ => False)) (Y := Nat) (fun _ => .bool false) (fun _ => [⟨W1.heap.size, 9, false, (nse_v2)⟩, ⟨W1.heap.size + 1, 22, false, [.slice (some ⟨W1.heap.size, 0, none⟩) 5 5]⟩, ⟨W1.heap.size + 2, 39, true, (intsU u)⟩, ⟨W1.heap.size + 3, 3, true, [.int .i64 a]⟩, ⟨W3.heap.size, 36, true, (nse_v3 acts i)⟩]) (fun _ W_ => NetAt 43 W_ nb mb (copyL L D)) (fun _ => [(135, .bool false), (0, .slice (some ⟨b, o, none⟩) n cp), (2, .bool false), (4, (nse_p nb 0)), (5, (nse_p (W1.heap.size + 1) 0)), (6, (nse_p (W1.heap.size + 2) 0)), (7, (nse_p (W1.heap.size + 3) 0)), (8, .func (.func 24) #[] (List.toArray (nse_v1 W1))), (9, .int .i64 (i : Int)), (12, .string ⟨#[]⟩), (13, .bool false), (14, .bool (decide ((a : Int) ≥ 64))), (133, (nse_p nb 0)), (134, .int .i64 D)]) (nse_c162 n cp b o i D nb W1 a) trivial (fun _ => rfl) (fun wx hm => ?_) (fun _ W4 hX4 hm4 => ?_)
        · refine (copy_net nb mb L D wx (hN3nb.kept hm.kept (hnT _ (by omega)) (hnT _ (by omega)))).mono fun e w' ⟨h1, h2, h3⟩ => ?_
          rw [copyB_none hx] at h1
          exact ⟨0, h1, h2, (MemOk.back2 hm3 hm).offN (fun _ h => h) h3 (fun x h => .inr (by rcases h with h | h <;> omega)) (fun b hb h => hnB b hb (by rcases h with h | h <;> omega))⟩
        clear hnT hnB
        have hN4nb := hX4
        have hl_hN4nb := hN4nb.lt
        have hgb4_0 := (hm4.at_ 0 rfl).lt
        replace hgb4_0 : W1.heap.size < W4.heap.size := hgb4_0
        have hgb4_1 := (hm4.at_ 1 rfl).lt
        replace hgb4_1 : W1.heap.size + 1 < W4.heap.size := hgb4_1
        have hgb4_2 := (hm4.at_ 2 rfl).lt
        replace hgb4_2 : W1.heap.size + 2 < W4.heap.size := hgb4_2
        have hgb4_3 := (hm4.at_ 3 rfl).lt
        replace hgb4_3 : W1.heap.size + 3 < W4.heap.size := hgb4_3
        have hgb4_4 := (hm4.at_ 4 rfl).lt
        replace hgb4_4 : W3.heap.size < W4.heap.size := hgb4_4
        have hnT : ∀ xx, (xx = nb ∨ xx = mb) → ¬ Turned [⟨W1.heap.size, 9, false, (nse_v2)⟩, ⟨W1.heap.size + 1, 22, false, [.slice (some ⟨W1.heap.size, 0, none⟩) 5 5]⟩, ⟨W1.heap.size + 2, 39, true, (intsU u)⟩, ⟨W1.heap.size + 3, 3, true, [.int .i64 a]⟩, ⟨W3.heap.size, 36, true, (nse_v3 acts i)⟩] xx := by
          rintro xx hx2 ⟨b, hb, hr, he⟩
          simp at hb
          rcases hb with rfl | rfl | rfl | rfl | rfl <;> simp at he hr <;> omega
        refine holds_go _ _ (nse_s163 n cp b o acts i D nb W1 W3 W4 J a u) ⟨rfl, rfl, rfl, rfl, rfl, rfl, rfl, rfl, rfl, rfl, rfl, rfl, rfl, rfl, rfl, rfl, rfl, rfl, trivial⟩ ?_
        have hlen : ((copyL L D).length : Int) = a := by rw [copyL_none hx]; omega
        refine holds_quietG _ _ (by kernel_rfl) (by kernel_rfl) (by kernel_rfl) (nse_q164 n cp b o acts i nb W1 W3 W4 a u) ⟨(fun wx hm => by have h := len_net nb mb (copyL L D) wx (hN4nb.kept hm.2.kept (hnT _ (by omega)) (hnT _ (by omega))); rw [hlen] at h; exact h), trivial⟩ fun z164 hz164 => ?_
        replace hz164 : W4.heap.size ≤ z164 := hz164
        refine holds_go _ _ (nse_s165 n cp b o acts i nb W1 W3 J a u z164) ⟨by simp, in64 (by omega), trivial⟩ ?_
        refine holds_prune nse_n9 [true, true, true, true, false] ?_
        intro a_ w9 hf hm
        exact hJ (m2 - 1) _ a_ w9 (by omega) ⟨i + 1, (copyL L D), a, u, _, by omega, by omega, hlen.symm, (sent_copy0 hR hx), (hN4nb.kept hm.kept (hnT _ (by omega)) (hnT _ (by omega))), by rw [cast_succ]; rfl⟩ hf (MemOk.back2 hm4 hm)
      refine holds_go _ _ (nse_s166 n cp b o acts i C D E nb W1 W3 J a u z134) ⟨d0, d1, d2, d3, d4, trivial⟩ ?_
      have hnB : ∀ b ∈ ([⟨W1.heap.size, 9, false, (nse_v2)⟩, ⟨W1.heap.size + 1, 22, false, [.slice (some ⟨W1.heap.size, 0, none⟩) 5 5]⟩, ⟨W1.heap.size + 2, 39, true, (intsU u)⟩, ⟨W1.heap.size + 3, 3, true, [.int .i64 a]⟩, ⟨W3.heap.size, 36, true, (nse_v3 acts i)⟩] : List Bk), ¬ (b.g = nb ∨ b.g = mb) := by
        intro b hb hx2
        simp at hb
        rcases hb with rfl | rfl | rfl | rfl | rfl <;> simp at hx2 <;> omega
      refine holds_callW (w := w) (S' := (fun _ => False)) (Y := Nat) (fun _ => .bool false) (fun _ => [⟨W1.heap.size, 9, false, (nse_v2)⟩, ⟨W1.heap.size + 1, 22, false, [.slice (some ⟨W1.heap.size, 0, none⟩) 5 5]⟩, ⟨W1.heap.size + 2, 39, true, (intsU u)⟩, ⟨W1.heap.size + 3, 3, true, [.int .i64 a]⟩, ⟨W3.heap.size, 36, true, (nse_v3 acts i)⟩]) (fun _ W_ => NetAt 43 W_ nb mb (takeL L D)) (fun _ => [(69, .bool false), (0, .slice (some ⟨b, o, none⟩) n cp), (2, .bool false), (4, (nse_p nb 0)), (5, (nse_p (W1.heap.size + 1) 0)), (6, (nse_p (W1.heap.size + 2) 0)), (7, (nse_p (W1.heap.size + 3) 0)), (8, .func (.func 24) #[] (List.toArray (nse_v1 W1))), (9, .int .i64 (i : Int)), (12, .string ⟨#[]⟩), (13, .bool false), (67, (nse_p nb 0)), (68, .int .i64 D)]) (nse_c167 n cp b o i D nb W1) trivial (fun _ => rfl) (fun wx hm => ?_) (fun _ W4 hX4 hm4 => ?_)
      · refine (drop_net nb mb L D wx (hN3nb.kept hm.kept (hnT _ (by omega)) (hnT _ (by omega)))).mono fun e w' ⟨h1, h2, h3⟩ => ?_
        rw [hx] at h1
        exact ⟨0, h1, h2, (MemOk.back2 hm3 hm).offN (fun _ h => h) h3 (fun x h => .inr (by rcases h with h | h <;> omega)) (fun b hb h => hnB b hb (by rcases h with h | h <;> omega))⟩
      clear hnT hnB
      have hN4nb := hX4
      have hl_hN4nb := hN4nb.lt
      have hgb4_0 := (hm4.at_ 0 rfl).lt
      replace hgb4_0 : W1.heap.size < W4.heap.size := hgb4_0
      have hgb4_1 := (hm4.at_ 1 rfl).lt
      replace hgb4_1 : W1.heap.size + 1 < W4.heap.size := hgb4_1
      have hgb4_2 := (hm4.at_ 2 rfl).lt
      replace hgb4_2 : W1.heap.size + 2 < W4.heap.size := hgb4_2
      have hgb4_3 := (hm4.at_ 3 rfl).lt
      replace hgb4_3 : W1.heap.size + 3 < W4.heap.size := hgb4_3
      have hgb4_4 := (hm4.at_ 4 rfl).lt
      replace hgb4_4 : W3.heap.size < W4.heap.size := hgb4_4
      have hnT : ∀ xx, (xx = nb ∨ xx = mb) → ¬ Turned [⟨W1.heap.size, 9, false, (nse_v2)⟩, ⟨W1.heap.size + 1, 22, false, [.slice (some ⟨W1.heap.size, 0, none⟩) 5 5]⟩, ⟨W1.heap.size + 2, 39, true, (intsU u)⟩, ⟨W1.heap.size + 3, 3, true, [.int .i64 a]⟩, ⟨W3.heap.size, 36, true, (nse_v3 acts i)⟩] xx := by
        rintro xx hx2 ⟨b, hb, hr, he⟩
        simp at hb
        rcases hb with rfl | rfl | rfl | rfl | rfl <;> simp at he hr <;> omega
      refine holds_go _ _ (nse_s168 n cp b o acts i D nb W1 W3 W4 J a u) ⟨rfl, rfl, rfl, rfl, rfl, rfl, rfl, rfl, rfl, rfl, trivial⟩ ?_
      have hlen : ((takeL L D).length : Int) = a := by rw [takeL_none hx]; omega
      refine holds_quietG _ _ (by kernel_rfl) (by kernel_rfl) (by kernel_rfl) (nse_q169 n cp b o acts i nb W1 W3 W4 a u) ⟨(fun wx hm => by have h := len_net nb mb (takeL L D) wx (hN4nb.kept hm.2.kept (hnT _ (by omega)) (hnT _ (by omega))); rw [hlen] at h; exact h), trivial⟩ fun z169 hz169 => ?_
      replace hz169 : W4.heap.size ≤ z169 := hz169
      refine holds_go _ _ (nse_s170 n cp b o acts i nb W1 W3 J a u z169) ⟨by simp, in64 (by omega), trivial⟩ ?_
      refine holds_prune nse_n9 [true, true, true, true, false] ?_
      intro a_ w9 hf hm
      exact hJ (m2 - 1) _ a_ w9 (by omega) ⟨i + 1, (takeL L D), a, u, _, by omega, by omega, hlen.symm, (sent_take0 hR hx), (hN4nb.kept hm.kept (hnT _ (by omega)) (hnT _ (by omega))), by rw [cast_succ]; rfl⟩ hf (MemOk.back2 hm4 hm)
    · skip
      have hFl : L.length < 64 := by omega
      rcases Bool.eq_false_or_eq_true (C == 0) with d0 | d0
      · skip
        refine holds_go _ _ (nse_s171 n cp b o acts i C D E nb W1 W3 J a u z134) ⟨d0, d0, trivial⟩ ?_
        refine holds_quietG _ _ (by kernel_rfl) (by kernel_rfl) (by kernel_rfl) (nse_q172 n cp b o acts i E nb W1 W3 a u z134) ⟨(fun wx hm => pick13 _ _ _ hE wx (by omega) (by omega) ha.at_), ⟨by omega, by omega⟩, trivial⟩ fun z172 hz172 => ?_
        replace hz172 : z134 ≤ z172 := hz172
        refine holds_go _ _ (nse_s173 n cp b o acts i E nb W1 W3 J a u z172) trivial ?_
        have hnB : ∀ b ∈ ([⟨W1.heap.size, 9, false, (nse_v2)⟩, ⟨W1.heap.size + 1, 22, false, [.slice (some ⟨W1.heap.size, 0, none⟩) 5 5]⟩, ⟨W1.heap.size + 2, 39, true, (intsU u)⟩, ⟨W1.heap.size + 3, 3, true, [.int .i64 a]⟩, ⟨W3.heap.size, 36, true, (nse_v3 acts i)⟩] : List Bk), ¬ (b.g = nb ∨ b.g = mb) := by
          intro b hb hx2
          simp at hb
          rcases hb with rfl | rfl | rfl | rfl | rfl <;> simp at hx2 <;> omega
        refine holds_callW (w := w) (S' := (fun _ => False)) (Y := Nat) (fun _ => .bool true) (fun _ => [⟨W1.heap.size, 9, false, (nse_v2)⟩, ⟨W1.heap.size + 1, 22, false, [.slice (some ⟨W1.heap.size, 0, none⟩) 5 5]⟩, ⟨W1.heap.size + 2, 39, true, (intsU u)⟩, ⟨W1.heap.size + 3, 3, true, [.int .i64 a]⟩, ⟨W3.heap.size, 36, true, (nse_v3 acts i)⟩]) (fun _ W_ => NetAt 43 W_ nb mb (sendL L (tx5 (Int.toNat E)))) (fun _ => [(93, .bool true), (0, .slice (some ⟨b, o, none⟩) n cp), (2, .bool false), (4, (nse_p nb 0)), (5, (nse_p (W1.heap.size + 1) 0)), (6, (nse_p (W1.heap.size + 2) 0)), (7, (nse_p (W1.heap.size + 3) 0)), (8, .func (.func 24) #[] (List.toArray (nse_v1 W1))), (9, .int .i64 (i : Int)), (14, .bool (decide ((a : Int) ≥ 64))), (15, .string (tx5 (Int.toNat E))), (91, (nse_p nb 0)), (92, .string (tx5 (Int.toNat E)))]) (nse_c174 n cp b o i E nb W1 a) trivial (fun _ => rfl) (fun wx hm => ?_) (fun _ W4 hX4 hm4 => ?_)
        · refine (send_net nb mb L (tx5 (Int.toNat E)) wx (hN3nb.kept hm.kept (hnT _ (by omega)) (hnT _ (by omega)))).mono fun e w' ⟨h1, h2, h3⟩ => ?_
          rw [okS_tx hFl _] at h1
          exact ⟨0, h1, h2, (MemOk.back2 hm3 hm).offN (fun _ h => h) h3 (fun x h => .inr (by rcases h with h | h <;> omega)) (fun b hb h => hnB b hb (by rcases h with h | h <;> omega))⟩
        clear hnT hnB
        have hN4nb := hX4
        have hl_hN4nb := hN4nb.lt
        have hgb4_0 := (hm4.at_ 0 rfl).lt
        replace hgb4_0 : W1.heap.size < W4.heap.size := hgb4_0
        have hgb4_1 := (hm4.at_ 1 rfl).lt
        replace hgb4_1 : W1.heap.size + 1 < W4.heap.size := hgb4_1
        have hgb4_2 := (hm4.at_ 2 rfl).lt
        replace hgb4_2 : W1.heap.size + 2 < W4.heap.size := hgb4_2
        have hgb4_3 := (hm4.at_ 3 rfl).lt
        replace hgb4_3 : W1.heap.size + 3 < W4.heap.size := hgb4_3
        have hgb4_4 := (hm4.at_ 4 rfl).lt
        replace hgb4_4 : W3.heap.size < W4.heap.size := hgb4_4
        have hnT : ∀ xx, (xx = nb ∨ xx = mb) → ¬ Turned [⟨W1.heap.size, 9, false, (nse_v2)⟩, ⟨W1.heap.size + 1, 22, false, [.slice (some ⟨W1.heap.size, 0, none⟩) 5 5]⟩, ⟨W1.heap.size + 2, 39, true, (intsU u)⟩, ⟨W1.heap.size + 3, 3, true, [.int .i64 a]⟩, ⟨W3.heap.size, 36, true, (nse_v3 acts i)⟩] xx := by
          rintro xx hx2 ⟨b, hb, hr, he⟩
          simp at hb
          rcases hb with rfl | rfl | rfl | rfl | rfl <;> simp at he hr <;> omega
        refine holds_go _ _ (nse_s175 n cp b o acts i E nb W1 W3 W4 J a u) ⟨(by rw [show ((decide ((a : Int) ≥ 64))) = false from decide_eq_false (by omega)]; rfl), (by rw [show ((decide ((a : Int) ≥ 64))) = false from decide_eq_false (by omega)]; rfl), (by rw [show ((decide ((a : Int) ≥ 64))) = false from decide_eq_false (by omega)]; rfl), (by rw [decide_eq_false (by omega)]; rfl), (by rw [decide_eq_false (by omega)]; rfl), trivial⟩ ?_
        have hpos : 0 ≤ addU u (Int.toNat E) 1 (Int.toNat E) := by
          rw [addU_at]
          have := hu (Int.toNat E)
          omega
        refine holds_callM (.bool true) [⟨W1.heap.size, 9, false, (nse_v2)⟩, ⟨W1.heap.size + 1, 22, false, [.slice (some ⟨W1.heap.size, 0, none⟩) 5 5]⟩, ⟨W1.heap.size + 2, 39, true, (intsU (addU u (Int.toNat E) 1))⟩, ⟨W1.heap.size + 3, 3, true, [.int .i64 (a + 1)]⟩, ⟨W3.heap.size, 36, true, (nse_v3 acts i)⟩] (nse_c176 n cp b o i E nb W1 a) ⟨(by rw [decide_eq_false (by omega)]; rfl), trivial⟩ rfl (fun wx hm => ?_) fun z176 hz176 => ?_
        · exact (count_any (Int.toNat E) (by omega) 1 (by omega) a (by omega) u hu hpos _ _ _ _ hnd wx (hm.at_ 0 rfl) (hm.at_ 1 rfl) (hm.at_ 2 rfl) (hm.at_ 3 rfl)).mono fun en w' ⟨h1, h2, h3, h4⟩ => ⟨h1, hm.set2 2 3 rfl rfl rfl rfl (by omega) h4 h2 h3⟩
        replace hz176 : W4.heap.size ≤ z176 := hz176
        refine holds_go _ _ (nse_s177 n cp b o acts i E nb W1 W3 J a u z176) ⟨(by rw [decide_eq_false (by omega)]; rfl), (by rw [show ((decide ((a : Int) ≥ 64))) = false from decide_eq_false (by omega)]; rfl), (by rw [decide_eq_false (by omega)]; rfl), (by rw [show ((decide ((a : Int) ≥ 64))) = false from decide_eq_false (by omega)]; rfl), rfl, trivial⟩ ?_
        have hlen : ((sendL L (tx5 (Int.toNat E))).length : Int) = (a + 1) := by rw [sendL_len hFl]; omega
        refine holds_quietG _ _ (by kernel_rfl) (by kernel_rfl) (by kernel_rfl) (nse_q178 n cp b o acts i E nb W1 W3 W4 a u z176) ⟨(fun wx hm => by have h := len_net nb mb (sendL L (tx5 (Int.toNat E))) wx (hN4nb.kept hm.2.kept (hnT _ (by omega)) (hnT _ (by omega))); rw [hlen] at h; exact h), trivial⟩ fun z178 hz178 => ?_
        replace hz178 : z176 ≤ z178 := hz178
        refine holds_go _ _ (nse_s179 n cp b o acts i E nb W1 W3 J a u z178) ⟨by simp, in64 (by omega), trivial⟩ ?_
        refine holds_prune nse_n9 [true, true, true, true, false] ?_
        intro a_ w9 hf hm
        exact hJ (m2 - 1) _ a_ w9 (by omega) ⟨i + 1, (sendL L (tx5 (Int.toNat E))), (a + 1), (addU u (Int.toNat E) 1), _, by omega, by omega, hlen.symm, (sent_send hR hFl (by omega : Int.toNat E < 5)), (hN4nb.kept hm.kept (hnT _ (by omega)) (hnT _ (by omega))), by rw [cast_succ]; rfl⟩ hf (MemOk.back2 hm4 hm)
      rcases Bool.eq_false_or_eq_true (C == 1) with d1 | d1
      · skip
        refine holds_go _ _ (nse_s180 n cp b o acts i C D E nb W1 W3 J a u z134) ⟨d0, d1, d1, trivial⟩ ?_
        refine holds_quietG _ _ (by kernel_rfl) (by kernel_rfl) (by kernel_rfl) (nse_q181 n cp b o acts i E nb W1 W3 a u z134) ⟨(fun wx hm => pick13 _ _ _ hE wx (by omega) (by omega) ha.at_), ⟨by omega, by omega⟩, trivial⟩ fun z181 hz181 => ?_
        replace hz181 : z134 ≤ z181 := hz181
        refine holds_go _ _ (nse_s182 n cp b o acts i E nb W1 W3 J a u z181) trivial ?_
        have hnB : ∀ b ∈ ([⟨W1.heap.size, 9, false, (nse_v2)⟩, ⟨W1.heap.size + 1, 22, false, [.slice (some ⟨W1.heap.size, 0, none⟩) 5 5]⟩, ⟨W1.heap.size + 2, 39, true, (intsU u)⟩, ⟨W1.heap.size + 3, 3, true, [.int .i64 a]⟩, ⟨W3.heap.size, 36, true, (nse_v3 acts i)⟩] : List Bk), ¬ (b.g = nb ∨ b.g = mb) := by
          intro b hb hx2
          simp at hb
          rcases hb with rfl | rfl | rfl | rfl | rfl <;> simp at hx2 <;> omega
        refine holds_callW (w := w) (S' := (fun _ => False)) (Y := Nat) (fun _ => .bool true) (fun _ => [⟨W1.heap.size, 9, false, (nse_v2)⟩, ⟨W1.heap.size + 1, 22, false, [.slice (some ⟨W1.heap.size, 0, none⟩) 5 5]⟩, ⟨W1.heap.size + 2, 39, true, (intsU u)⟩, ⟨W1.heap.size + 3, 3, true, [.int .i64 a]⟩, ⟨W3.heap.size, 36, true, (nse_v3 acts i)⟩]) (fun _ W_ => NetAt 43 W_ nb mb (sendL L (tx5 (Int.toNat E)))) (fun _ => [(93, .bool true), (0, .slice (some ⟨b, o, none⟩) n cp), (2, .bool false), (4, (nse_p nb 0)), (5, (nse_p (W1.heap.size + 1) 0)), (6, (nse_p (W1.heap.size + 2) 0)), (7, (nse_p (W1.heap.size + 3) 0)), (8, .func (.func 24) #[] (List.toArray (nse_v1 W1))), (9, .int .i64 (i : Int)), (14, .bool (decide ((a : Int) ≥ 64))), (15, .string (tx5 (Int.toNat E))), (91, (nse_p nb 0)), (92, .string (tx5 (Int.toNat E)))]) (nse_c183 n cp b o i E nb W1 a) trivial (fun _ => rfl) (fun wx hm => ?_) (fun _ W4 hX4 hm4 => ?_)
        · refine (send_net nb mb L (tx5 (Int.toNat E)) wx (hN3nb.kept hm.kept (hnT _ (by omega)) (hnT _ (by omega)))).mono fun e w' ⟨h1, h2, h3⟩ => ?_
          rw [okS_tx hFl _] at h1
          exact ⟨0, h1, h2, (MemOk.back2 hm3 hm).offN (fun _ h => h) h3 (fun x h => .inr (by rcases h with h | h <;> omega)) (fun b hb h => hnB b hb (by rcases h with h | h <;> omega))⟩
        clear hnT hnB
        have hN4nb := hX4
        have hl_hN4nb := hN4nb.lt
        have hgb4_0 := (hm4.at_ 0 rfl).lt
        replace hgb4_0 : W1.heap.size < W4.heap.size := hgb4_0
        have hgb4_1 := (hm4.at_ 1 rfl).lt
        replace hgb4_1 : W1.heap.size + 1 < W4.heap.size := hgb4_1
        have hgb4_2 := (hm4.at_ 2 rfl).lt
        replace hgb4_2 : W1.heap.size + 2 < W4.heap.size := hgb4_2
        have hgb4_3 := (hm4.at_ 3 rfl).lt
        replace hgb4_3 : W1.heap.size + 3 < W4.heap.size := hgb4_3
        have hgb4_4 := (hm4.at_ 4 rfl).lt
        replace hgb4_4 : W3.heap.size < W4.heap.size := hgb4_4
        have hnT : ∀ xx, (xx = nb ∨ xx = mb) → ¬ Turned [⟨W1.heap.size, 9, false, (nse_v2)⟩, ⟨W1.heap.size + 1, 22, false, [.slice (some ⟨W1.heap.size, 0, none⟩) 5 5]⟩, ⟨W1.heap.size + 2, 39, true, (intsU u)⟩, ⟨W1.heap.size + 3, 3, true, [.int .i64 a]⟩, ⟨W3.heap.size, 36, true, (nse_v3 acts i)⟩] xx := by
          rintro xx hx2 ⟨b, hb, hr, he⟩
          simp at hb
          rcases hb with rfl | rfl | rfl | rfl | rfl <;> simp at he hr <;> omega
        refine holds_go _ _ (nse_s184 n cp b o acts i E nb W1 W3 W4 J a u) ⟨(by rw [show ((decide ((a : Int) ≥ 64))) = false from decide_eq_false (by omega)]; rfl), (by rw [show ((decide ((a : Int) ≥ 64))) = false from decide_eq_false (by omega)]; rfl), (by rw [show ((decide ((a : Int) ≥ 64))) = false from decide_eq_false (by omega)]; rfl), (by rw [decide_eq_false (by omega)]; rfl), (by rw [decide_eq_false (by omega)]; rfl), trivial⟩ ?_
        have hpos : 0 ≤ addU u (Int.toNat E) 1 (Int.toNat E) := by
          rw [addU_at]
          have := hu (Int.toNat E)
          omega
        refine holds_callM (.bool true) [⟨W1.heap.size, 9, false, (nse_v2)⟩, ⟨W1.heap.size + 1, 22, false, [.slice (some ⟨W1.heap.size, 0, none⟩) 5 5]⟩, ⟨W1.heap.size + 2, 39, true, (intsU (addU u (Int.toNat E) 1))⟩, ⟨W1.heap.size + 3, 3, true, [.int .i64 (a + 1)]⟩, ⟨W3.heap.size, 36, true, (nse_v3 acts i)⟩] (nse_c185 n cp b o i E nb W1 a) ⟨(by rw [decide_eq_false (by omega)]; rfl), trivial⟩ rfl (fun wx hm => ?_) fun z185 hz185 => ?_
        · exact (count_any (Int.toNat E) (by omega) 1 (by omega) a (by omega) u hu hpos _ _ _ _ hnd wx (hm.at_ 0 rfl) (hm.at_ 1 rfl) (hm.at_ 2 rfl) (hm.at_ 3 rfl)).mono fun en w' ⟨h1, h2, h3, h4⟩ => ⟨h1, hm.set2 2 3 rfl rfl rfl rfl (by omega) h4 h2 h3⟩
        replace hz185 : W4.heap.size ≤ z185 := hz185
        refine holds_go _ _ (nse_s186 n cp b o acts i E nb W1 W3 J a u z185) ⟨(by rw [decide_eq_false (by omega)]; rfl), (by rw [show ((decide ((a : Int) ≥ 64))) = false from decide_eq_false (by omega)]; rfl), (by rw [decide_eq_false (by omega)]; rfl), (by rw [show ((decide ((a : Int) ≥ 64))) = false from decide_eq_false (by omega)]; rfl), rfl, trivial⟩ ?_
        have hlen : ((sendL L (tx5 (Int.toNat E))).length : Int) = (a + 1) := by rw [sendL_len hFl]; omega
        refine holds_quietG _ _ (by kernel_rfl) (by kernel_rfl) (by kernel_rfl) (nse_q187 n cp b o acts i E nb W1 W3 W4 a u z185) ⟨(fun wx hm => by have h := len_net nb mb (sendL L (tx5 (Int.toNat E))) wx (hN4nb.kept hm.2.kept (hnT _ (by omega)) (hnT _ (by omega))); rw [hlen] at h; exact h), trivial⟩ fun z187 hz187 => ?_
        replace hz187 : z185 ≤ z187 := hz187
        refine holds_go _ _ (nse_s188 n cp b o acts i E nb W1 W3 J a u z187) ⟨by simp, in64 (by omega), trivial⟩ ?_
        refine holds_prune nse_n9 [true, true, true, true, false] ?_
        intro a_ w9 hf hm
        exact hJ (m2 - 1) _ a_ w9 (by omega) ⟨i + 1, (sendL L (tx5 (Int.toNat E))), (a + 1), (addU u (Int.toNat E) 1), _, by omega, by omega, hlen.symm, (sent_send hR hFl (by omega : Int.toNat E < 5)), (hN4nb.kept hm.kept (hnT _ (by omega)) (hnT _ (by omega))), by rw [cast_succ]; rfl⟩ hf (MemOk.back2 hm4 hm)
      rcases Bool.eq_false_or_eq_true (C == 2) with d2 | d2
      · skip
        refine holds_go _ _ (nse_s189 n cp b o acts i C D E nb W1 W3 J a u z134) ⟨d0, d1, d2, trivial⟩ ?_
        refine holds_quietG _ _ (by kernel_rfl) (by kernel_rfl) (by kernel_rfl) (nse_q190 n cp b o acts i E nb W1 W3 a u z134) ⟨(fun wx hm => pick13 _ _ _ hE wx (by omega) (by omega) ha.at_), ⟨by omega, by omega⟩, trivial⟩ fun z190 hz190 => ?_
        replace hz190 : z134 ≤ z190 := hz190
        refine holds_go _ _ (nse_s191 n cp b o acts i E nb W1 W3 J a u z190) trivial ?_
        have hnB : ∀ b ∈ ([⟨W1.heap.size, 9, false, (nse_v2)⟩, ⟨W1.heap.size + 1, 22, false, [.slice (some ⟨W1.heap.size, 0, none⟩) 5 5]⟩, ⟨W1.heap.size + 2, 39, true, (intsU u)⟩, ⟨W1.heap.size + 3, 3, true, [.int .i64 a]⟩, ⟨W3.heap.size, 36, true, (nse_v3 acts i)⟩] : List Bk), ¬ (b.g = nb ∨ b.g = mb) := by
          intro b hb hx2
          simp at hb
          rcases hb with rfl | rfl | rfl | rfl | rfl <;> simp at hx2 <;> omega
        refine holds_callW (w := w) (S' := (fun _ => False)) (Y := Nat) (fun _ => .bool true) (fun _ => [⟨W1.heap.size, 9, false, (nse_v2)⟩, ⟨W1.heap.size + 1, 22, false, [.slice (some ⟨W1.heap.size, 0, none⟩) 5 5]⟩, ⟨W1.heap.size + 2, 39, true, (intsU u)⟩, ⟨W1.heap.size + 3, 3, true, [.int .i64 a]⟩, ⟨W3.heap.size, 36, true, (nse_v3 acts i)⟩]) (fun _ W_ => NetAt 43 W_ nb mb (sendL L (tx5 (Int.toNat E)))) (fun _ => [(93, .bool true), (0, .slice (some ⟨b, o, none⟩) n cp), (2, .bool false), (4, (nse_p nb 0)), (5, (nse_p (W1.heap.size + 1) 0)), (6, (nse_p (W1.heap.size + 2) 0)), (7, (nse_p (W1.heap.size + 3) 0)), (8, .func (.func 24) #[] (List.toArray (nse_v1 W1))), (9, .int .i64 (i : Int)), (14, .bool (decide ((a : Int) ≥ 64))), (15, .string (tx5 (Int.toNat E))), (91, (nse_p nb 0)), (92, .string (tx5 (Int.toNat E)))]) (nse_c192 n cp b o i E nb W1 a) trivial (fun _ => rfl) (fun wx hm => ?_) (fun _ W4 hX4 hm4 => ?_)
        · refine (send_net nb mb L (tx5 (Int.toNat E)) wx (hN3nb.kept hm.kept (hnT _ (by omega)) (hnT _ (by omega)))).mono fun e w' ⟨h1, h2, h3⟩ => ?_
          rw [okS_tx hFl _] at h1
          exact ⟨0, h1, h2, (MemOk.back2 hm3 hm).offN (fun _ h => h) h3 (fun x h => .inr (by rcases h with h | h <;> omega)) (fun b hb h => hnB b hb (by rcases h with h | h <;> omega))⟩
        clear hnT hnB
        have hN4nb := hX4
        have hl_hN4nb := hN4nb.lt
        have hgb4_0 := (hm4.at_ 0 rfl).lt
        replace hgb4_0 : W1.heap.size < W4.heap.size := hgb4_0
        have hgb4_1 := (hm4.at_ 1 rfl).lt
        replace hgb4_1 : W1.heap.size + 1 < W4.heap.size := hgb4_1
        have hgb4_2 := (hm4.at_ 2 rfl).lt
        replace hgb4_2 : W1.heap.size + 2 < W4.heap.size := hgb4_2
        have hgb4_3 := (hm4.at_ 3 rfl).lt
        replace hgb4_3 : W1.heap.size + 3 < W4.heap.size := hgb4_3
        have hgb4_4 := (hm4.at_ 4 rfl).lt
        replace hgb4_4 : W3.heap.size < W4.heap.size := hgb4_4
        have hnT : ∀ xx, (xx = nb ∨ xx = mb) → ¬ Turned [⟨W1.heap.size, 9, false, (nse_v2)⟩, ⟨W1.heap.size + 1, 22, false, [.slice (some ⟨W1.heap.size, 0, none⟩) 5 5]⟩, ⟨W1.heap.size + 2, 39, true, (intsU u)⟩, ⟨W1.heap.size + 3, 3, true, [.int .i64 a]⟩, ⟨W3.heap.size, 36, true, (nse_v3 acts i)⟩] xx := by
          rintro xx hx2 ⟨b, hb, hr, he⟩
          simp at hb
          rcases hb with rfl | rfl | rfl | rfl | rfl <;> simp at he hr <;> omega
        refine holds_go _ _ (nse_s193 n cp b o acts i E nb W1 W3 W4 J a u) ⟨(by rw [show ((decide ((a : Int) ≥ 64))) = false from decide_eq_false (by omega)]; rfl), (by rw [show ((decide ((a : Int) ≥ 64))) = false from decide_eq_false (by omega)]; rfl), (by rw [show ((decide ((a : Int) ≥ 64))) = false from decide_eq_false (by omega)]; rfl), (by rw [decide_eq_false (by omega)]; rfl), (by rw [decide_eq_false (by omega)]; rfl), trivial⟩ ?_
        have hpos : 0 ≤ addU u (Int.toNat E) 1 (Int.toNat E) := by
          rw [addU_at]
          have := hu (Int.toNat E)
          omega
        refine holds_callM (.bool true) [⟨W1.heap.size, 9, false, (nse_v2)⟩, ⟨W1.heap.size + 1, 22, false, [.slice (some ⟨W1.heap.size, 0, none⟩) 5 5]⟩, ⟨W1.heap.size + 2, 39, true, (intsU (addU u (Int.toNat E) 1))⟩, ⟨W1.heap.size + 3, 3, true, [.int .i64 (a + 1)]⟩, ⟨W3.heap.size, 36, true, (nse_v3 acts i)⟩] (nse_c194 n cp b o i E nb W1 a) ⟨(by rw [decide_eq_false (by omega)]; rfl), trivial⟩ rfl (fun wx hm => ?_) fun z194 hz194 => ?_
        · exact (count_any (Int.toNat E) (by omega) 1 (by omega) a (by omega) u hu hpos _ _ _ _ hnd wx (hm.at_ 0 rfl) (hm.at_ 1 rfl) (hm.at_ 2 rfl) (hm.at_ 3 rfl)).mono fun en w' ⟨h1, h2, h3, h4⟩ => ⟨h1, hm.set2 2 3 rfl rfl rfl rfl (by omega) h4 h2 h3⟩
        replace hz194 : W4.heap.size ≤ z194 := hz194
        refine holds_go _ _ (nse_s195 n cp b o acts i E nb W1 W3 J a u z194) ⟨(by rw [decide_eq_false (by omega)]; rfl), (by rw [show ((decide ((a : Int) ≥ 64))) = false from decide_eq_false (by omega)]; rfl), (by rw [decide_eq_false (by omega)]; rfl), (by rw [show ((decide ((a : Int) ≥ 64))) = false from decide_eq_false (by omega)]; rfl), rfl, trivial⟩ ?_
        have hlen : ((sendL L (tx5 (Int.toNat E))).length : Int) = (a + 1) := by rw [sendL_len hFl]; omega
        refine holds_quietG _ _ (by kernel_rfl) (by kernel_rfl) (by kernel_rfl) (nse_q196 n cp b o acts i E nb W1 W3 W4 a u z194) ⟨(fun wx hm => by have h := len_net nb mb (sendL L (tx5 (Int.toNat E))) wx (hN4nb.kept hm.2.kept (hnT _ (by omega)) (hnT _ (by omega))); rw [hlen] at h; exact h), trivial⟩ fun z196 hz196 => ?_
        replace hz196 : z194 ≤ z196 := hz196
        refine holds_go _ _ (nse_s197 n cp b o acts i E nb W1 W3 J a u z196) ⟨by simp, in64 (by omega), trivial⟩ ?_
        refine holds_prune nse_n9 [true, true, true, true, false] ?_
        intro a_ w9 hf hm
        exact hJ (m2 - 1) _ a_ w9 (by omega) ⟨i + 1, (sendL L (tx5 (Int.toNat E))), (a + 1), (addU u (Int.toNat E) 1), _, by omega, by omega, hlen.symm, (sent_send hR hFl (by omega : Int.toNat E < 5)), (hN4nb.kept hm.kept (hnT _ (by omega)) (hnT _ (by omega))), by rw [cast_succ]; rfl⟩ hf (MemOk.back2 hm4 hm)
      rcases Bool.eq_false_or_eq_true (C == 3) with d3 | d3
      · skip
        refine holds_go _ _ (nse_s198 n cp b o acts i C D E nb W1 W3 J a u z134) ⟨d0, d1, d2, d3, trivial⟩ ?_
        have hnB : ∀ b ∈ ([⟨W1.heap.size, 9, false, (nse_v2)⟩, ⟨W1.heap.size + 1, 22, false, [.slice (some ⟨W1.heap.size, 0, none⟩) 5 5]⟩, ⟨W1.heap.size + 2, 39, true, (intsU u)⟩, ⟨W1.heap.size + 3, 3, true, [.int .i64 a]⟩, ⟨W3.heap.size, 36, true, (nse_v3 acts i)⟩] : List Bk), ¬ (b.g = nb ∨ b.g = mb) := by
          intro b hb hx2
          simp at hb
          rcases hb with rfl | rfl | rfl | rfl | rfl <;> simp at hx2 <;> omega
        refine holds_callW (w := w) (S' := (fun _ => False)) (Y := Nat) (fun _ => .tuple #[.string ⟨#[]⟩, .bool false]) (fun _ => [⟨W1.heap.size, 9, false, (nse_v2)⟩, ⟨W1.heap.size + 1, 22, false, [.slice (some ⟨W1.heap.size, 0, none⟩) 5 5]⟩, ⟨W1.heap.size + 2, 39, true, (intsU u)⟩, ⟨W1.heap.size + 3, 3, true, [.int .i64 a]⟩, ⟨W3.heap.size, 36, true, (nse_v3 acts i)⟩]) (fun _ W_ => NetAt 43 W_ nb mb (takeL L D)) (fun _ => [(111, .tuple #[.string ⟨#[]⟩, .bool false]), (0, .slice (some ⟨b, o, none⟩) n cp), (2, .bool false), (4, (nse_p nb 0)), (5, (nse_p (W1.heap.size + 1) 0)), (6, (nse_p (W1.heap.size + 2) 0)), (7, (nse_p (W1.heap.size + 3) 0)), (8, .func (.func 24) #[] (List.toArray (nse_v1 W1))), (9, .int .i64 (i : Int)), (12, .string ⟨#[]⟩), (13, .bool false), (109, (nse_p nb 0)), (110, .int .i64 D)]) (nse_c199 n cp b o i D nb W1) trivial (fun _ => rfl) (fun wx hm => ?_) (fun _ W4 hX4 hm4 => ?_)
        · refine (take_net nb mb L D wx (hN3nb.kept hm.kept (hnT _ (by omega)) (hnT _ (by omega)))).mono fun e w' ⟨h1, h2, h3⟩ => ?_
          rw [hx] at h1
          exact ⟨0, h1, h2, (MemOk.back2 hm3 hm).offN (fun _ h => h) h3 (fun x h => .inr (by rcases h with h | h <;> omega)) (fun b hb h => hnB b hb (by rcases h with h | h <;> omega))⟩
        clear hnT hnB
        have hN4nb := hX4
        have hl_hN4nb := hN4nb.lt
        have hgb4_0 := (hm4.at_ 0 rfl).lt
        replace hgb4_0 : W1.heap.size < W4.heap.size := hgb4_0
        have hgb4_1 := (hm4.at_ 1 rfl).lt
        replace hgb4_1 : W1.heap.size + 1 < W4.heap.size := hgb4_1
        have hgb4_2 := (hm4.at_ 2 rfl).lt
        replace hgb4_2 : W1.heap.size + 2 < W4.heap.size := hgb4_2
        have hgb4_3 := (hm4.at_ 3 rfl).lt
        replace hgb4_3 : W1.heap.size + 3 < W4.heap.size := hgb4_3
        have hgb4_4 := (hm4.at_ 4 rfl).lt
        replace hgb4_4 : W3.heap.size < W4.heap.size := hgb4_4
        have hnT : ∀ xx, (xx = nb ∨ xx = mb) → ¬ Turned [⟨W1.heap.size, 9, false, (nse_v2)⟩, ⟨W1.heap.size + 1, 22, false, [.slice (some ⟨W1.heap.size, 0, none⟩) 5 5]⟩, ⟨W1.heap.size + 2, 39, true, (intsU u)⟩, ⟨W1.heap.size + 3, 3, true, [.int .i64 a]⟩, ⟨W3.heap.size, 36, true, (nse_v3 acts i)⟩] xx := by
          rintro xx hx2 ⟨b, hb, hr, he⟩
          simp at hb
          rcases hb with rfl | rfl | rfl | rfl | rfl <;> simp at he hr <;> omega
        refine holds_go _ _ (nse_s200 n cp b o acts i D nb W1 W3 W4 J a u) ⟨rfl, rfl, rfl, rfl, (by rw [beq_self_eq_true _]; rfl), (by rw [beq_self_eq_true _]; rfl), rfl, rfl, rfl, rfl, (by rw [beq_self_eq_true _]; rfl), rfl, (by rw [beq_self_eq_true _]; rfl), rfl, trivial⟩ ?_
        have hlen : ((takeL L D).length : Int) = a := by rw [takeL_none hx]; omega
        refine holds_quietG _ _ (by kernel_rfl) (by kernel_rfl) (by kernel_rfl) (nse_q201 n cp b o acts i nb W1 W3 W4 a u) ⟨(fun wx hm => by have h := len_net nb mb (takeL L D) wx (hN4nb.kept hm.2.kept (hnT _ (by omega)) (hnT _ (by omega))); rw [hlen] at h; exact h), trivial⟩ fun z201 hz201 => ?_
        replace hz201 : W4.heap.size ≤ z201 := hz201
        refine holds_go _ _ (nse_s202 n cp b o acts i nb W1 W3 J a u z201) ⟨by simp, in64 (by omega), trivial⟩ ?_
        refine holds_prune nse_n9 [true, true, true, true, false] ?_
        intro a_ w9 hf hm
        exact hJ (m2 - 1) _ a_ w9 (by omega) ⟨i + 1, (takeL L D), a, u, _, by omega, by omega, hlen.symm, (sent_take0 hR hx), (hN4nb.kept hm.kept (hnT _ (by omega)) (hnT _ (by omega))), by rw [cast_succ]; rfl⟩ hf (MemOk.back2 hm4 hm)
      rcases Bool.eq_false_or_eq_true (C == 4) with d4 | d4
      · skip
        refine holds_go _ _ (nse_s203 n cp b o acts i C D E nb W1 W3 J a u z134) ⟨d0, d1, d2, d3, d4, trivial⟩ ?_
        have hnB : ∀ b ∈ ([⟨W1.heap.size, 9, false, (nse_v2)⟩, ⟨W1.heap.size + 1, 22, false, [.slice (some ⟨W1.heap.size, 0, none⟩) 5 5]⟩, ⟨W1.heap.size + 2, 39, true, (intsU u)⟩, ⟨W1.heap.size + 3, 3, true, [.int .i64 a]⟩, ⟨W3.heap.size, 36, true, (nse_v3 acts i)⟩] : List Bk), ¬ (b.g = nb ∨ b.g = mb) := by
          intro b hb hx2
          simp at hb
          rcases hb with rfl | rfl | rfl | rfl | rfl <;> simp at hx2 <;> omega
        refine holds_callW (w := w) (S' := (fun _ => False)) (Y := Nat) (fun _ => .bool false) (fun _ => [⟨W1.heap.size, 9, false, (nse_v2)⟩, ⟨W1.heap.size + 1, 22, false, [.slice (some ⟨W1.heap.size, 0, none⟩) 5 5]⟩, ⟨W1.heap.size + 2, 39, true, (intsU u)⟩, ⟨W1.heap.size + 3, 3, true, [.int .i64 a]⟩, ⟨W3.heap.size, 36, true, (nse_v3 acts i)⟩]) (fun _ W_ => NetAt 43 W_ nb mb (copyL L D)) (fun _ => [(135, .bool false), (0, .slice (some ⟨b, o, none⟩) n cp), (2, .bool false), (4, (nse_p nb 0)), (5, (nse_p (W1.heap.size + 1) 0)), (6, (nse_p (W1.heap.size + 2) 0)), (7, (nse_p (W1.heap.size + 3) 0)), (8, .func (.func 24) #[] (List.toArray (nse_v1 W1))), (9, .int .i64 (i : Int)), (12, .string ⟨#[]⟩), (13, .bool false), (14, .bool (decide ((a : Int) ≥ 64))), (133, (nse_p nb 0)), (134, .int .i64 D)]) (nse_c204 n cp b o i D nb W1 a) trivial (fun _ => rfl) (fun wx hm => ?_) (fun _ W4 hX4 hm4 => ?_)
        · refine (copy_net nb mb L D wx (hN3nb.kept hm.kept (hnT _ (by omega)) (hnT _ (by omega)))).mono fun e w' ⟨h1, h2, h3⟩ => ?_
          rw [copyB_none hx] at h1
          exact ⟨0, h1, h2, (MemOk.back2 hm3 hm).offN (fun _ h => h) h3 (fun x h => .inr (by rcases h with h | h <;> omega)) (fun b hb h => hnB b hb (by rcases h with h | h <;> omega))⟩
        clear hnT hnB
        have hN4nb := hX4
        have hl_hN4nb := hN4nb.lt
        have hgb4_0 := (hm4.at_ 0 rfl).lt
        replace hgb4_0 : W1.heap.size < W4.heap.size := hgb4_0
        have hgb4_1 := (hm4.at_ 1 rfl).lt
        replace hgb4_1 : W1.heap.size + 1 < W4.heap.size := hgb4_1
        have hgb4_2 := (hm4.at_ 2 rfl).lt
        replace hgb4_2 : W1.heap.size + 2 < W4.heap.size := hgb4_2
        have hgb4_3 := (hm4.at_ 3 rfl).lt
        replace hgb4_3 : W1.heap.size + 3 < W4.heap.size := hgb4_3
        have hgb4_4 := (hm4.at_ 4 rfl).lt
        replace hgb4_4 : W3.heap.size < W4.heap.size := hgb4_4
        have hnT : ∀ xx, (xx = nb ∨ xx = mb) → ¬ Turned [⟨W1.heap.size, 9, false, (nse_v2)⟩, ⟨W1.heap.size + 1, 22, false, [.slice (some ⟨W1.heap.size, 0, none⟩) 5 5]⟩, ⟨W1.heap.size + 2, 39, true, (intsU u)⟩, ⟨W1.heap.size + 3, 3, true, [.int .i64 a]⟩, ⟨W3.heap.size, 36, true, (nse_v3 acts i)⟩] xx := by
          rintro xx hx2 ⟨b, hb, hr, he⟩
          simp at hb
          rcases hb with rfl | rfl | rfl | rfl | rfl <;> simp at he hr <;> omega
        refine holds_go _ _ (nse_s205 n cp b o acts i D nb W1 W3 W4 J a u) ⟨rfl, rfl, rfl, rfl, rfl, rfl, rfl, rfl, rfl, rfl, rfl, rfl, rfl, rfl, rfl, rfl, rfl, rfl, trivial⟩ ?_
        have hlen : ((copyL L D).length : Int) = a := by rw [copyL_none hx]; omega
        refine holds_quietG _ _ (by kernel_rfl) (by kernel_rfl) (by kernel_rfl) (nse_q206 n cp b o acts i nb W1 W3 W4 a u) ⟨(fun wx hm => by have h := len_net nb mb (copyL L D) wx (hN4nb.kept hm.2.kept (hnT _ (by omega)) (hnT _ (by omega))); rw [hlen] at h; exact h), trivial⟩ fun z206 hz206 => ?_
        replace hz206 : W4.heap.size ≤ z206 := hz206
        refine holds_go _ _ (nse_s207 n cp b o acts i nb W1 W3 J a u z206) ⟨by simp, in64 (by omega), trivial⟩ ?_
        refine holds_prune nse_n9 [true, true, true, true, false] ?_
        intro a_ w9 hf hm
        exact hJ (m2 - 1) _ a_ w9 (by omega) ⟨i + 1, (copyL L D), a, u, _, by omega, by omega, hlen.symm, (sent_copy0 hR hx), (hN4nb.kept hm.kept (hnT _ (by omega)) (hnT _ (by omega))), by rw [cast_succ]; rfl⟩ hf (MemOk.back2 hm4 hm)
      refine holds_go _ _ (nse_s208 n cp b o acts i C D E nb W1 W3 J a u z134) ⟨d0, d1, d2, d3, d4, trivial⟩ ?_
      have hnB : ∀ b ∈ ([⟨W1.heap.size, 9, false, (nse_v2)⟩, ⟨W1.heap.size + 1, 22, false, [.slice (some ⟨W1.heap.size, 0, none⟩) 5 5]⟩, ⟨W1.heap.size + 2, 39, true, (intsU u)⟩, ⟨W1.heap.size + 3, 3, true, [.int .i64 a]⟩, ⟨W3.heap.size, 36, true, (nse_v3 acts i)⟩] : List Bk), ¬ (b.g = nb ∨ b.g = mb) := by
        intro b hb hx2
        simp at hb
        rcases hb with rfl | rfl | rfl | rfl | rfl <;> simp at hx2 <;> omega
      refine holds_callW (w := w) (S' := (fun _ => False)) (Y := Nat) (fun _ => .bool false) (fun _ => [⟨W1.heap.size, 9, false, (nse_v2)⟩, ⟨W1.heap.size + 1, 22, false, [.slice (some ⟨W1.heap.size, 0, none⟩) 5 5]⟩, ⟨W1.heap.size + 2, 39, true, (intsU u)⟩, ⟨W1.heap.size + 3, 3, true, [.int .i64 a]⟩, ⟨W3.heap.size, 36, true, (nse_v3 acts i)⟩]) (fun _ W_ => NetAt 43 W_ nb mb (takeL L D)) (fun _ => [(69, .bool false), (0, .slice (some ⟨b, o, none⟩) n cp), (2, .bool false), (4, (nse_p nb 0)), (5, (nse_p (W1.heap.size + 1) 0)), (6, (nse_p (W1.heap.size + 2) 0)), (7, (nse_p (W1.heap.size + 3) 0)), (8, .func (.func 24) #[] (List.toArray (nse_v1 W1))), (9, .int .i64 (i : Int)), (12, .string ⟨#[]⟩), (13, .bool false), (67, (nse_p nb 0)), (68, .int .i64 D)]) (nse_c209 n cp b o i D nb W1) trivial (fun _ => rfl) (fun wx hm => ?_) (fun _ W4 hX4 hm4 => ?_)
      · refine (drop_net nb mb L D wx (hN3nb.kept hm.kept (hnT _ (by omega)) (hnT _ (by omega)))).mono fun e w' ⟨h1, h2, h3⟩ => ?_
        rw [hx] at h1
        exact ⟨0, h1, h2, (MemOk.back2 hm3 hm).offN (fun _ h => h) h3 (fun x h => .inr (by rcases h with h | h <;> omega)) (fun b hb h => hnB b hb (by rcases h with h | h <;> omega))⟩
      clear hnT hnB
      have hN4nb := hX4
      have hl_hN4nb := hN4nb.lt
      have hgb4_0 := (hm4.at_ 0 rfl).lt
      replace hgb4_0 : W1.heap.size < W4.heap.size := hgb4_0
      have hgb4_1 := (hm4.at_ 1 rfl).lt
      replace hgb4_1 : W1.heap.size + 1 < W4.heap.size := hgb4_1
      have hgb4_2 := (hm4.at_ 2 rfl).lt
      replace hgb4_2 : W1.heap.size + 2 < W4.heap.size := hgb4_2
      have hgb4_3 := (hm4.at_ 3 rfl).lt
      replace hgb4_3 : W1.heap.size + 3 < W4.heap.size := hgb4_3
      have hgb4_4 := (hm4.at_ 4 rfl).lt
      replace hgb4_4 : W3.heap.size < W4.heap.size := hgb4_4
      have hnT : ∀ xx, (xx = nb ∨ xx = mb) → ¬ Turned [⟨W1.heap.size, 9, false, (nse_v2)⟩, ⟨W1.heap.size + 1, 22, false, [.slice (some ⟨W1.heap.size, 0, none⟩) 5 5]⟩, ⟨W1.heap.size + 2, 39, true, (intsU u)⟩, ⟨W1.heap.size + 3, 3, true, [.int .i64 a]⟩, ⟨W3.heap.size, 36, true, (nse_v3 acts i)⟩] xx := by
        rintro xx hx2 ⟨b, hb, hr, he⟩
        simp at hb
        rcases hb with rfl | rfl | rfl | rfl | rfl <;> simp at he hr <;> omega
      refine holds_go _ _ (nse_s210 n cp b o acts i D nb W1 W3 W4 J a u) ⟨rfl, rfl, rfl, rfl, rfl, rfl, rfl, rfl, rfl, rfl, trivial⟩ ?_
      have hlen : ((takeL L D).length : Int) = a := by rw [takeL_none hx]; omega
      refine holds_quietG _ _ (by kernel_rfl) (by kernel_rfl) (by kernel_rfl) (nse_q211 n cp b o acts i nb W1 W3 W4 a u) ⟨(fun wx hm => by have h := len_net nb mb (takeL L D) wx (hN4nb.kept hm.2.kept (hnT _ (by omega)) (hnT _ (by omega))); rw [hlen] at h; exact h), trivial⟩ fun z211 hz211 => ?_
      replace hz211 : W4.heap.size ≤ z211 := hz211
      refine holds_go _ _ (nse_s212 n cp b o acts i nb W1 W3 J a u z211) ⟨by simp, in64 (by omega), trivial⟩ ?_
      refine holds_prune nse_n9 [true, true, true, true, false] ?_
      intro a_ w9 hf hm
      exact hJ (m2 - 1) _ a_ w9 (by omega) ⟨i + 1, (takeL L D), a, u, _, by omega, by omega, hlen.symm, (sent_take0 hR hx), (hN4nb.kept hm.kept (hnT _ (by omega)) (hnT _ (by omega))), by rw [cast_succ]; rfl⟩ hf (MemOk.back2 hm4 hm)

end Go.Proofs.Ythndmmondlpghaa
