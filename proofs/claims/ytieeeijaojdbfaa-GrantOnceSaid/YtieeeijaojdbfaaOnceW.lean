/- The walk over GrantOnce. -/
import Derived.Test.YtieeeijaojdbfaaAskW
import Derived.Test.YtieeeijaojdbfaaActs
namespace Go.Proofs.Ytieeeijaojdbfaa
open Go.RowKit

def OnceRel (w : World) (kb lb n : Nat) (c now : Value) (wr : World) : Prop :=
  ∃ (k : Nat) (N : Int) (K : KeepM), k ≤ n ∧ k ≤ 80 ∧ c = .int .i64 k ∧ now = .int .i64 N ∧ 0 ≤ N ∧ N ≤ 20 * k ∧ KeepOk K ∧ K.ls.length = 3 ∧ K.i0 ≤ k ∧ K.i1 ≤ k ∧ KeepAt wr kb lb K ∧ Kept (fun _ => False) w wr

set_option maxRecDepth 100000 in
set_option maxHeartbeats 16000000 in
theorem once_any (A : Option Addr) (n cp : Nat) (acts : Nat → ActM) (w : World) (hA : ActsAt w A n acts) (hn : n ≤ 9223372036854775807) :
    Calls Try.prog 4 #[.slice A n cp] w fun e w' => e = .returned (.bool true) ∧ Kept (fun _ => False) w w' := by
  have HA := Lib.hid hA
  clear hA
  go_enter Try.func4, Try.ntmps4
  go_wp2_with fail
  refine (awake_any _).mono ?_
  rintro e w1 ⟨rfl, hk1⟩
  go_wp2_with fail
  refine (new3 _).mono ?_
  rintro e w2 ⟨rfl, hK2, hk2⟩
  have hk := hk1.trans hk2 (fun _ _ h => h)
  have z1 := hk1.size
  clear hk1 hk2
  go_wp2_with fail
  go_loopw [6, 7] (fun now c wr => OnceRel w (w1.heap.size + 1) w1.heap.size n c now wr) (fun _ c _ => n - (intOf c).toNat)
  case atStart => exact ⟨0, 0, newK 3, by omega, by omega, rfl, rfl, by omega, by omega, newK_ok 3 (by omega) (by omega), rfl, by decide, by decide, hK2, hk⟩
  case round =>
    obtain ⟨k, N, K, hkn, hk80, rfl, rfl, N0, N1, hok, hlen, hi0, hi1, hK, hk3⟩ := hrel
    clear hK2 hk
    by_cases hlt : k < n ∧ k < 80
    · obtain ⟨hlt1, hlt2⟩ := hlt
      have t1 : (k : Int) < (n : Int) := by omega
      have t2 : (k : Int) < 80 := by omega
      obtain ⟨ha, b, o, rfl, hb, hc⟩ := HA.out k hlt1
      have hb3 := Nat.lt_of_lt_of_le hb hk3.size
      have c0 : ∀ j, j < 12 → wr.cell? ⟨b, o + k * 12 + j, none⟩ = (acts k).cells[j]? := fun j hj => (hk3.cell (p := ⟨b, o + k * 12 + j, none⟩) hb id).trans (hc j hj)
      have d0 : wr.cell? ⟨b, o + k * 12, none⟩ = some (.int .i64 (acts k).fr) := c0 0 (by omega)
      have d1 : wr.cell? ⟨b, o + k * 12 + 1, none⟩ = some (.int .i64 (acts k).ag) := c0 1 (by omega)
      have d2 : wr.cell? ⟨b, o + k * 12 + 2, none⟩ = some (.int .i64 (acts k).at_) := c0 2 (by omega)
      have d3 : wr.cell? ⟨b, o + k * 12 + 3, none⟩ = some (.int .i64 (acts k).x.kind) := c0 3 (by omega)
      have d4 : wr.cell? ⟨b, o + k * 12 + 4, none⟩ = some (.int .i64 (acts k).x.stripe) := c0 4 (by omega)
      have d5 : wr.cell? ⟨b, o + k * 12 + 5, none⟩ = some (.int .i64 (acts k).x.epoch) := c0 5 (by omega)
      have d6 : wr.cell? ⟨b, o + k * 12 + 6, none⟩ = some (.int .i64 (acts k).x.seq) := c0 6 (by omega)
      have d7 : wr.cell? ⟨b, o + k * 12 + 7, none⟩ = some (.int .i64 (acts k).x.mask) := c0 7 (by omega)
      have d8 : wr.cell? ⟨b, o + k * 12 + 8, none⟩ = some (.int .i64 (acts k).x.node) := c0 8 (by omega)
      have d9 : wr.cell? ⟨b, o + k * 12 + 9, none⟩ = some (.int .i64 (acts k).x.oe) := c0 9 (by omega)
      have d10 : wr.cell? ⟨b, o + k * 12 + 10, none⟩ = some (.int .i64 (acts k).x.os) := c0 10 (by omega)
      have d11 : wr.cell? ⟨b, o + k * 12 + 11, none⟩ = some (.string (acts k).x.block) := c0 11 (by omega)
      clear c0 hc
      -- the numbers that are picked
      obtain ⟨P, hP⟩ : ∃ P, pickZ (acts k).at_ 20 = P := ⟨_, rfl⟩
      obtain ⟨F, hF⟩ : ∃ F, pickZ (acts k).fr 2 = F := ⟨_, rfl⟩
      obtain ⟨S, hS⟩ : ∃ S : Nat, pickZ (acts k).x.stripe 3 = S := Int.eq_ofNat_of_zero_le (pickZ_bd _ 3 (by omega)).1
      have bP := pickZ_bd (acts k).at_ 20 (by omega)
      have bF := pickZ_bd (acts k).fr 2 (by omega)
      have bS := (pickZ_bd (acts k).x.stripe 3 (by omega)).2
      rw [hP] at bP
      rw [hF] at bF
      rw [hS] at bS
      obtain ⟨P0, P1⟩ := bP
      have hfr : 200 + F = 200 ∨ 200 + F = 201 := by omega
      obtain ⟨F0, F1⟩ := bF
      have cP := Lib.hid (fun W => pick_is (acts k).at_ 20 P hP W (by omega) (by omega) ha.at_.1 ha.at_.2)
      have cF := Lib.hid (fun W => pick_is (acts k).fr 2 F hF W (by omega) (by omega) ha.fr.1 ha.fr.2)
      have cS := Lib.hid (fun W => pick_is (acts k).x.stripe 3 S hS W (by omega) (by omega) ha.x.stripe.1 ha.x.stripe.2)
      obtain ⟨was, hw⟩ : ∃ was, K.ls[S]? = some was := ⟨_, List.getElem?_eq_getElem (by omega)⟩
      have hwb := hok.ep was (List.mem_of_getElem? hw)
      obtain ⟨w0, w16⟩ := hwb
      have hAsk := askF_is (acts k).x was.ep S hS
      obtain ⟨q, hq⟩ : ∃ q, askF (acts k).x was.ep = q := ⟨_, rfl⟩
      have cA := Lib.hid (fun W => (hq ▸ ask_any (acts k).x was.ep W ha.x w0 w16 : Calls Try.prog 13 #[.agg #[.int .i64 (acts k).x.kind, .int .i64 (acts k).x.stripe, .int .i64 (acts k).x.epoch, .int .i64 (acts k).x.seq, .int .i64 (acts k).x.mask, .int .i64 (acts k).x.node, .int .i64 (acts k).x.oe, .int .i64 (acts k).x.os, .string (acts k).x.block], .int .i64 was.ep] W (Ret (.agg #[.int .i64 q.kind, .int .i64 q.stripe, .int .i64 q.epoch, .int .i64 0, .int .i64 0, .int .i64 q.node, .int .i64 0, .int .i64 0, .string ⟨#[]⟩]) W)))
      rw [hq] at hAsk
      obtain ⟨qk, qs, hrest⟩ := hAsk
      obtain ⟨kind, stripe, epoch, seq, mask, node, oe, os, block⟩ := q
      simp only [AskM.mk.injEq, true_and] at hrest
      obtain ⟨rfl, rfl, rfl, rfl, rfl⟩ := hrest
      dsimp only at qk qs cA
      subst qs
      obtain ⟨K', s, l, hD, hL', hok', hlen', hi0', hi1', hcat, hls⟩ := do_step K hok S was hw (N + P) (200 + F) (k + 1) ⟨kind, S, epoch, 0, 0, node, 0, 0, ⟨#[]⟩⟩ rfl hfr (by omega) (by omega) (by omega) (by omega) (by omega) (by omega)
      have cL := Lib.hid (fun W hK => lease_is (w1.heap.size + 1) w1.heap.size K S _ (leaseOf_some K S was hw) W hK hok)
      have cD := Lib.hid (fun W hK => do_is (w1.heap.size + 1) w1.heap.size K (N + P) (200 + F) (k + 1) ⟨kind, S, epoch, 0, 0, node, 0, 0, ⟨#[]⟩⟩ _ hD hok W hK)
      have cM := Lib.hid (fun W hK => lease_is (w1.heap.size + 1) w1.heap.size K' S _ hL' W hK hok')
      have HC := Lib.hid hcat
      have HO := Lib.hid hok'
      clear hP hF hS hw hq hD hL' hcat hls hok hok' ha hfr HA
      go_wp2_with fail
      refine (cP.out _).mono ?_
      rintro e w' ⟨rfl, rfl⟩
      go_wp2_with fail
      refine (cF.out _).mono ?_
      rintro e w' ⟨rfl, rfl⟩
      go_wp2_with fail
      refine (cS.out _).mono ?_
      rintro e w' ⟨rfl, rfl⟩
      clear cP cF cS d0 d1 d2 d3 d4 d5 d6 d7 d8 d9 d10 d11
      go_wp2_with fail
      refine (cL.out _ (keepAt_alloc hK _)).mono ?_
      rintro e w4 ⟨rfl, hk4⟩
      have hK4 := keepAt_same (keepAt_alloc hK _) hk4
      have z4 := hK4.kb.lt
      have b4 : Blk w4 wr.heap.size 43 [.int .i64 (acts k).fr, .int .i64 (acts k).ag, .int .i64 (acts k).at_, .int .i64 (acts k).x.kind, .int .i64 (acts k).x.stripe, .int .i64 (acts k).x.epoch, .int .i64 (acts k).x.seq, .int .i64 (acts k).x.mask, .int .i64 (acts k).x.node, .int .i64 (acts k).x.oe, .int .i64 (acts k).x.os, .string (acts k).x.block] := Blk.kept (Blk.new _ _ _) hk4 id
      have hk5 := (hk3.alloc _).trans hk4 (fun _ _ h => h)
      have c4 := b4.cell
      have l4 := b4.lt
      clear hK hk3 hk4 cL
      go_wp2_with fail
      refine (cA.out _).mono ?_
      rintro e w6 ⟨rfl, hk6⟩
      have hK6 := keepAt_same (keepAt_alloc hK4 _) hk6
      have b6 : Blk w6 w4.heap.size 45 [.int .i64 was.ep, .int .i64 was.ho, .int .i64 was.un, .int .i64 was.ou] := Blk.kept (Blk.new _ _ _) hk6 id
      have hk7 := (hk5.alloc _).trans hk6 (fun _ _ h => h)
      have z6 := hK6.kb.lt
      clear hK4 hk5 hk6 cA b4 c4 l4
      go_wp2_with fail
      refine (cD.out _ (keepAt_alloc hK6 _)).mono ?_
      rintro e w8 ⟨rfl, hK8, hk8⟩
      have b8 : Blk w8 w4.heap.size 45 [.int .i64 was.ep, .int .i64 was.ho, .int .i64 was.un, .int .i64 was.ou] := Blk.kept (b6.alloc _) hk8 (by have := b6.lt; intro h; rcases h with h | h <;> omega)
      have q8 : Blk w8 w6.heap.size 37 [.int .i64 kind, .int .i64 S, .int .i64 epoch, .int .i64 0, .int .i64 0, .int .i64 node, .int .i64 0, .int .i64 0, .string ⟨#[]⟩] := Blk.kept (Blk.new _ _ _) hk8 (by intro h; rcases h with h | h <;> omega)
      have hk9 : Kept (fun _ => False) w w8 := (hk7.alloc _).trans hk8 (by intro x hx h; rcases h with h | h <;> omega)
      have cq := q8.cell
      have lq := q8.lt
      clear hk7 hk8 hK6 cD b6
      go_wp2_with fail
      refine (cM.out _ (keepAt_alloc hK8 _)).mono ?_
      rintro e w10 ⟨rfl, hk10⟩
      have hK10 := keepAt_same (keepAt_alloc hK8 _) hk10
      have b10 := Blk.kept (b8.alloc _) hk10 id
      have q10 := Blk.kept (q8.alloc _) hk10 id
      have s10 : Blk w10 w8.heap.size 33 [.int .i64 s.st, .int .i64 s.ep, .int .i64 s.ou, .bool false, .int .i64 0, .int .i64 0, .int .i64 0, .string ⟨#[]⟩, .bool false, .int .i64 0, .int .i64 0, .int .i64 0, .string ⟨#[]⟩] := Blk.kept (Blk.new _ _ _) hk10 id
      have hk11 := (hk9.alloc _).trans hk10 (fun _ _ h => h)
      clear hk9 hk10 hK8 b8 q8 cq lq cM
      have cb := b10.cell
      have cq := q10.cell
      have cs := s10.cell
      have lb10 := b10.lt
      have lq10 := q10.lt
      have ls10 := s10.lt
      have HREL := Lib.hid (show ∀ o, OnceRel w (w1.heap.size + 1) w1.heap.size n (.int .i64 ((k : Int) + 1)) (.int .i64 (N + P)) (w10.alloc o) from
        fun o => ⟨k + 1, N + P, K', by omega, by omega, by go_num, rfl, by omega, by omega, HO.out, by omega, by omega, by omega, keepAt_alloc hK10 _, hk11.alloc _⟩)
      have hc := HC.out
      simp only [Cat, badS] at hc
      clear HC HO hK10 b10 q10 s10 hk11 hlen hlen' hi0 hi1 hi0' hi1' z1 z4 z6 N0 N1 hb3 hb
      rcases hc with ⟨rfl, rfl⟩ | ⟨rfl, rfl, rfl⟩ | ⟨rfl, rfl, h9 | h10⟩ | ⟨rfl, rfl, rfl⟩ | ⟨rfl, rfl, rfl⟩ | ⟨rfl, h2, rfl, h4, rfl, rfl⟩ | ⟨rfl, h2, rfl, rfl, rfl⟩
      · as_aux_lemma =>
        rcases qk with rfl | rfl | rfl
        all_goals
          go_wp2
          all_goals exact ⟨HREL.out _, by simp [intOf]; omega⟩
      · as_aux_lemma =>
        go_wp2
        all_goals exact ⟨HREL.out _, by simp [intOf]; omega⟩
      · as_aux_lemma =>
        subst h9
        go_wp2
        all_goals exact ⟨HREL.out _, by simp [intOf]; omega⟩
      · as_aux_lemma =>
        subst h10
        go_wp2
        all_goals exact ⟨HREL.out _, by simp [intOf]; omega⟩
      · as_aux_lemma =>
        go_wp2
        all_goals exact ⟨HREL.out _, by simp [intOf]; omega⟩
      · as_aux_lemma =>
        go_wp2
        all_goals exact ⟨HREL.out _, by simp [intOf]; omega⟩
      · as_aux_lemma =>
        have e1 : (was.ho != 200 + F) = false := by simpa using h2
        have HH := Lib.hid h2
        clear h2
        rcases h4 with h4 | h4
        · have e2 : (was.ou != -1) = false := by simpa using h4
          have H4 := Lib.hid h4
          clear h4
          go_wp2
          all_goals exact ⟨HREL.out _, by simp [intOf]; omega⟩
        · have H4 := Lib.hid h4
          subst h4
          go_wp2
          all_goals exact ⟨HREL.out _, by simp [intOf]; omega⟩
      · as_aux_lemma =>
        have e1 : (was.ho != 200 + F) = false := by simpa using h2
        have HH := Lib.hid h2
        clear h2
        go_wp2
        all_goals exact ⟨HREL.out _, by simp [intOf]; omega⟩
    · go_wp2
      all_goals
        go_ret
        exact ⟨rfl, hk3⟩
end Go.Proofs.Ytieeeijaojdbfaa
