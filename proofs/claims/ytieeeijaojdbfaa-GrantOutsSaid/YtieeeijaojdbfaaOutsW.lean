/- The walk over GrantOuts. -/
import Derived.Test.YtieeeijaojdbfaaActs
namespace Go.Proofs.Ytieeeijaojdbfaa
open Go.RowKit

def qOut (node : Int) : AskM := ⟨9, 0, 1, 0, 0, node, 0, 0, ⟨#[]⟩⟩
def qIn (ep : Int) : AskM := ⟨10, 0, ep, 0, 0, 0, 0, 0, ⟨#[]⟩⟩
theorem r_qOut (node : Int) (h0 : 0 ≤ node) (h1 : node < 6) : rightAsk (qOut node) = true := by
  have a : node ≤ 5 := by omega
  simp [rightAsk, qOut, h0, a]
theorem r_qIn (ep : Int) (h0 : 1 ≤ ep) (h1 : ep ≤ 100) : rightAsk (qIn ep) = true := by
  have a : ep ≤ 16777215 := by omega
  simp [rightAsk, qIn, h0, a]

/-- the stripe is at its lease l; ids are below n -/
structure Single (K : KeepM) (l : LeaseM) (n : Int) : Prop where
  ls : K.ls = [l]
  i0 : K.i0 ≤ n
  i1 : K.i1 ≤ n
theorem Single.ok {K : KeepM} {l : LeaseM} {n : Int} (h : Single K l n) (h0 : 0 ≤ l.ep) (h1 : l.ep ≤ 16777215) : KeepOk K :=
  ⟨by rw [h.ls]; simp, by rw [h.ls]; simp, fun x hx => by rw [h.ls] at hx; simp at hx; subst hx; exact ⟨h0, h1⟩⟩

theorem single_do {K : KeepM} {l : LeaseM} {n : Int} (h : Single K l n) (now fr id : Int) (q : AskM) (hq : q.stripe = 0) (hr : rightAsk q = true) (hfr : fr = 200 ∨ fr = 201) (h1 : 1 ≤ id) (h2 : id ≤ 1099511627776) (h3 : n < id) (hn : 0 ≤ now) (hn2 : now ≤ 1099511627776) :
    ∃ K', doF K now fr id q = (K', (ans1 l now fr q).1, true) ∧ Single K' (ans1 l now fr q).2 id := by
  obtain ⟨K', e1, e2, e3, e4⟩ := doF_new K now fr id q hfr h1 h2 (Int.lt_of_le_of_lt h.i0 h3) (Int.lt_of_le_of_lt h.i1 h3) hn hn2
  have e : ansF K.ls now fr q = ((ans1 l now fr q).1, [(ans1 l now fr q).2]) := by simp [ansF, hr, hq, h.ls]
  rw [e] at e1 e2
  exact ⟨K', e1, e2, e3, e4⟩
theorem outs_lease (l : LeaseM) (now fr : Int) (h : ¬ now < l.un) (he : l.ep ≤ 1000) : ans1 l now fr qL = (⟨1, l.ep + 1, l.ou⟩, ⟨l.ep + 1, fr, now + 30, l.ou⟩) := by
  have h2 : ¬ l.ep = 16777215 := by omega
  simp [ans1, ansL, qL, leaseF, h, h2]
theorem outs_out (node : Int) : ans1 ⟨1, 200, 30, -1⟩ 0 200 (qOut node) = (⟨1, 2, node⟩, ⟨2, 200, 30, node⟩) := by
  simp [ans1, ansL, qOut, outF]
theorem outs_in (l : LeaseM) (now fr : Int) (h : l.ho = fr) : ans1 l now fr (qIn l.ep) = (⟨1, l.ep, -1⟩, ⟨l.ep, l.ho, l.un, -1⟩) := by
  simp [ans1, ansL, qIn, inF, h]
theorem outs_no (l : LeaseM) (now fr : Int) (h : ¬ l.ho = fr) : ans1 l now fr (qIn l.ep) = (⟨2, l.ep, l.ou⟩, l) := by
  simp [ans1, ansL, qIn, inF, h]
theorem lease_single {K : KeepM} {l : LeaseM} {n : Int} (h : Single K l n) : leaseOf K 0 = (l, true) := by simp [leaseOf, h.ls]

def OutsRel (w : World) (kb lb g n : Nat) (node : Int) (now ho ep c : Value) (wr : World) : Prop :=
  ∃ (k : Nat) (H U : Int) (K : KeepM), k ≤ n ∧ k ≤ 30 ∧ c = .int .i64 k ∧ now = .int .i64 (31 * k) ∧ ho = .int .i64 H ∧ ep = .int .i64 (2 + k) ∧ (H = 200 ∨ H = 201) ∧ U ≤ 31 * k + 30 ∧ Single K ⟨2 + k, H, U, node⟩ (9 + k) ∧
    KeepAt wr kb lb K ∧ Blk wr g 33 [.int .i64 1, .int .i64 2, .int .i64 node, .bool false, .int .i64 0, .int .i64 0, .int .i64 0, .string ⟨#[]⟩, .bool false, .int .i64 0, .int .i64 0, .int .i64 0, .string ⟨#[]⟩] ∧ Kept (fun _ => False) w wr

set_option maxRecDepth 100000 in
set_option maxHeartbeats 8000000 in
theorem outs_any (nd : Int) (A : Option Addr) (n cp : Nat) (acts : Nat → ActM) (right : Bool) (w : World) (hA : ActsAt w A n acts) (hn : n ≤ 9223372036854775807) (m3 : -9223372036854775808 ≤ nd) (m4 : nd ≤ 9223372036854775807) :
    Calls Try.prog 7 #[.int .i64 nd, .slice A n cp, .bool right] w fun e w' => e = .returned (.bool true) ∧ Kept (fun _ => False) w w' := by
  obtain ⟨node, hnd⟩ : ∃ node, pickZ nd 6 = node := ⟨_, rfl⟩
  have bn := pickZ_bd nd 6 (by omega)
  rw [hnd] at bn
  obtain ⟨nd0, nd1⟩ := bn
  have cN := Lib.hid (fun W => pick_is nd 6 node hnd W (by omega) (by omega) m3 m4)
  have s0 : Single (newK 1) ⟨0, 0, 0, -1⟩ 0 := ⟨rfl, by decide, by decide⟩
  obtain ⟨K1, hD1, hS1⟩ := single_do s0 0 200 1 qL rfl r_qL (.inl rfl) (by omega) (by omega) (by omega) (by omega) (by omega)
  rw [outs_lease ⟨0, 0, 0, -1⟩ 0 200 (by decide) (by decide)] at hD1 hS1
  replace hS1 : Single K1 ⟨1, 200, 30, -1⟩ 1 := hS1
  replace hD1 : doF (newK 1) 0 200 1 qL = (K1, ⟨1, 1, -1⟩, true) := hD1
  obtain ⟨K2, hD2, hS2⟩ := single_do hS1 0 200 2 (qOut node) rfl (r_qOut node nd0 nd1) (.inl rfl) (by omega) (by omega) (by omega) (by omega) (by omega)
  rw [show ans1 (⟨1, 200, 30, -1⟩ : LeaseM) 0 200 (qOut node) = (⟨1, 2, node⟩, ⟨2, 200, 30, node⟩) from outs_out node] at hD2 hS2
  have c1 := Lib.hid (fun kb lb W hK => do_is kb lb (newK 1) 0 200 1 qL _ hD1 (newK_ok 1 (by omega) (by omega)) W hK)
  have c2 := Lib.hid (fun kb lb W hK => do_is kb lb K1 0 200 2 (qOut node) _ hD2 (hS1.ok (by decide) (by decide)) W hK)
  have HA := Lib.hid hA
  clear hA hnd hD1 hD2 hS1 s0
  go_enter Try.func7, Try.ntmps7
  go_wp2_with fail
  refine (awake_any _).mono ?_
  rintro e w1 ⟨rfl, hk1⟩
  go_wp2_with fail
  refine (new1 _).mono ?_
  rintro e w2 ⟨rfl, hK2, hk2⟩
  have hk := hk1.trans hk2 (fun _ _ h => h)
  have z1 := hk1.size
  clear hk1 hk2
  go_wp2_with fail
  refine (cN.out _).mono ?_
  rintro e w' ⟨rfl, rfl⟩
  go_wp2_with fail
  refine (c1.out (w1.heap.size + 1) w1.heap.size _ hK2).mono ?_
  rintro e w3 ⟨rfl, hK3, hk3⟩
  have hk4 : Kept (fun _ => False) w w3 := hk.trans hk3 (by intro x hx h; rcases h with h | h <;> omega)
  clear hk hk3 hK2
  go_wp2_with fail
  refine (c2.out (w1.heap.size + 1) w1.heap.size _ hK3).mono ?_
  rintro e w4 ⟨rfl, hK4, hk5⟩
  have hk6 : Kept (fun _ => False) w w4 := hk4.trans hk5 (by intro x hx h; rcases h with h | h <;> omega)
  have z4 := hK4.kb.lt
  clear hk4 hk5 hK3 c1 c2 cN
  go_wp2_with fail
  go_loopw [12, 13, 14, 15] (fun now ho ep c wr => OutsRel w (w1.heap.size + 1) w1.heap.size w4.heap.size n node now ho ep c wr) (fun _ _ _ c _ => n - (intOf c).toNat)
  case atStart => exact ⟨0, 200, 30, K2, by omega, by omega, rfl, rfl, rfl, rfl, .inl rfl, by omega, ⟨hS2.ls, by have := hS2.i0; omega, by have := hS2.i1; omega⟩, keepAt_alloc hK4 _, Blk.new _ _ _, hk6.alloc _⟩
  case round =>
    obtain ⟨k, H, U, K, hkn, hk30, rfl, rfl, rfl, rfl, hH, hU, hS, hK, hB, hkk⟩ := hrel
    clear hK4 hk6 hS2
    by_cases hlt : k < n ∧ k < 30
    · obtain ⟨hlt1, hlt2⟩ := hlt
      have t1 : (k : Int) < (n : Int) := by omega
      have t2 : (k : Int) < 30 := by omega
      obtain ⟨ha, b, o, rfl, hb, hc⟩ := HA.out k hlt1
      have d0 : wr.cell? ⟨b, o + k * 12, none⟩ = some (.int .i64 (acts k).fr) := (hkk.cell (p := ⟨b, o + k * 12, none⟩) hb id).trans (hc 0 (by omega))
      obtain ⟨F, hF⟩ : ∃ F, pickZ (acts k).fr 2 = F := ⟨_, rfl⟩
      have bF := pickZ_bd (acts k).fr 2 (by omega)
      rw [hF] at bF
      obtain ⟨F0, F1⟩ := bF
      have cF := Lib.hid (fun W => pick_is (acts k).fr 2 F hF W (by omega) (by omega) ha.fr.1 ha.fr.2)
      obtain ⟨K', hD, hS'⟩ := single_do hS (31 * k + 31) (200 + F) (10 + k) qL rfl r_qL (by omega) (by omega) (by omega) (by omega) (by omega) (by omega)
      rw [outs_lease (⟨2 + k, H, U, node⟩ : LeaseM) (31 * k + 31) (200 + F) (by dsimp only; omega) (by dsimp only; omega)] at hD hS'
      have cD := Lib.hid (fun W hK => do_is (w1.heap.size + 1) w1.heap.size K (31 * k + 31) (200 + F) (10 + k) qL _ hD (hS.ok (by dsimp only; omega) (by dsimp only; omega)) W hK)
      have HS := Lib.hid hS'
      clear hF hD hS hS' ha hc HA hH hU
      go_wp2_with fail
      refine (cF.out _).mono ?_
      rintro e w' ⟨rfl, rfl⟩
      go_wp2_with fail
      refine (cD.out _ hK).mono ?_
      rintro e w6 ⟨rfl, hK6, hk6⟩
      have hlb := hB.lt
      have hB6 : Blk w6 w4.heap.size 33 [.int .i64 1, .int .i64 2, .int .i64 node, .bool false, .int .i64 0, .int .i64 0, .int .i64 0, .string ⟨#[]⟩, .bool false, .int .i64 0, .int .i64 0, .int .i64 0, .string ⟨#[]⟩] := hB.kept hk6 (by intro h; rcases h with h | h <;> omega)
      have hk7 : Kept (fun _ => False) w w6 := hkk.trans hk6 (by intro x hx h; rcases h with h | h <;> omega)
      have HREL := Lib.hid (show ∀ o, OutsRel w (w1.heap.size + 1) w1.heap.size w4.heap.size n node (.int .i64 (31 * (k : Int) + 31)) (.int .i64 (200 + F)) (.int .i64 (2 + (k : Int) + 1)) (.int .i64 ((k : Int) + 1)) (w6.alloc o) from
        fun o => ⟨k + 1, 200 + F, 31 * k + 31 + 30, K', by omega, by omega, by go_num, by rw [show (31 * ((k + 1 : Nat) : Int)) = 31 * (k : Int) + 31 by omega], rfl, by rw [show (2 + ((k + 1 : Nat) : Int)) = 2 + (k : Int) + 1 by omega], by omega, by omega,
          ⟨by rw [HS.out.ls, show (2 + ((k + 1 : Nat) : Int)) = 2 + (k : Int) + 1 by omega], by have := HS.out.i0; omega, by have := HS.out.i1; omega⟩, keepAt_alloc hK6 _, hB6.alloc _, hk7.alloc _⟩)
      clear HS hK6 hB6 hk7 hK hB hkk hk6 cD z1 z4 hlb d0 cF
      go_wp2
      exact ⟨HREL.out _, by simp [intOf]; omega⟩
    · have hl2 : (⟨2 + (k : Int), H, U, node⟩ : LeaseM).ep ≤ 100 := by dsimp only; omega
      have hlb := hB.lt
      have t2 : (k : Int) < (n : Int) → ¬ (k : Int) < 30 := by omega
      clear hlt HA
      cases right with
      | true =>
        obtain ⟨K', hD, hS'⟩ := single_do hS (31 * k) H 100 (qIn (2 + k)) rfl (r_qIn _ (by omega) (by omega)) hH (by omega) (by omega) (by omega) (by omega) (by omega)
        rw [show ans1 (⟨2 + k, H, U, node⟩ : LeaseM) (31 * k) H (qIn (2 + k)) = (⟨1, 2 + k, -1⟩, ⟨2 + k, H, U, -1⟩) from outs_in ⟨2 + k, H, U, node⟩ (31 * k) H rfl] at hD hS'
        have cD := Lib.hid (fun W hK => do_is (w1.heap.size + 1) w1.heap.size K (31 * k) H 100 (qIn (2 + k)) _ hD (hS.ok (by dsimp only; omega) (by dsimp only; omega)) W hK)
        have cL := Lib.hid (fun W hK => lease_is (w1.heap.size + 1) w1.heap.size K' 0 _ (lease_single hS') W hK (hS'.ok (by dsimp only; omega) (by dsimp only; omega)))
        have g1 : 200 ≤ H := by omega
        have g2 : H ≤ 201 := by omega
        clear hD hS hS' hH
        go_wp2_with fail
        all_goals
          refine (cD.out _ hK).mono ?_
          rintro e w8 ⟨rfl, hK8, hk8⟩
          have hB8 : Blk w8 w4.heap.size 33 [.int .i64 1, .int .i64 2, .int .i64 node, .bool false, .int .i64 0, .int .i64 0, .int .i64 0, .string ⟨#[]⟩, .bool false, .int .i64 0, .int .i64 0, .int .i64 0, .string ⟨#[]⟩] := hB.kept hk8 (by intro h; rcases h with h | h <;> omega)
          have hk9 : Kept (fun _ => False) w w8 := hkk.trans hk8 (by intro x hx h; rcases h with h | h <;> omega)
          clear hB hkk hk8 hK cD
          go_wp2_with fail
          refine (cL.out _ (keepAt_alloc hK8 _)).mono ?_
          rintro e w10 ⟨rfl, hk10⟩
          have hB10 := Blk.kept (hB8.alloc _) hk10 id
          have hU10 : Blk w10 w8.heap.size 33 [.int .i64 1, .int .i64 (2 + (k : Int)), .int .i64 (-1), .bool false, .int .i64 0, .int .i64 0, .int .i64 0, .string ⟨#[]⟩, .bool false, .int .i64 0, .int .i64 0, .int .i64 0, .string ⟨#[]⟩] := Blk.kept (Blk.new _ _ _) hk10 id
          have hk11 := (hk9.alloc _).trans hk10 (fun _ _ h => h)
          have cb := hB10.cell
          have cu := hU10.cell
          have lb10 := hB10.lt
          have lu10 := hU10.lt
          clear hB8 hk9 hK8 hk10 cL hB10 hU10
          go_wp2
          go_ret
          exact ⟨rfl, by (repeat (first | (with_reducible (exact hk11)) | (with_reducible (exact Kept.refl _ _)) | (with_reducible (refine Kept.drewN ?_ _)) | (with_reducible (refine Kept.drew ?_)) | (with_reducible (refine Kept.alloc ?_ _)) | ((with_reducible (refine Kept.cellPut ?_ ?_ _)); (focus (first | (intro _; rfl; done) | (intro _; exact .inl rfl) | (intro _; exact .inr rfl) | (intro h; exfalso; dsimp only at h; omega) | (intro h; exfalso; simp at h; omega))))))⟩
      | false =>
        obtain ⟨K', hD, hS'⟩ := single_do hS (31 * k) (401 - H) 100 (qIn (2 + k)) rfl (r_qIn _ (by omega) (by omega)) (by omega) (by omega) (by omega) (by omega) (by omega) (by omega)
        rw [show ans1 (⟨2 + k, H, U, node⟩ : LeaseM) (31 * k) (401 - H) (qIn (2 + k)) = (⟨2, 2 + k, node⟩, ⟨2 + k, H, U, node⟩) from outs_no ⟨2 + k, H, U, node⟩ (31 * k) (401 - H) (by dsimp only; omega)] at hD hS'
        have cD := Lib.hid (fun W hK => do_is (w1.heap.size + 1) w1.heap.size K (31 * k) (401 - H) 100 (qIn (2 + k)) _ hD (hS.ok (by dsimp only; omega) (by dsimp only; omega)) W hK)
        have cL := Lib.hid (fun W hK => lease_is (w1.heap.size + 1) w1.heap.size K' 0 _ (lease_single hS') W hK (hS'.ok (by dsimp only; omega) (by dsimp only; omega)))
        have g1 : 200 ≤ H := by omega
        have g2 : H ≤ 201 := by omega
        clear hD hS hS' hH
        go_wp2_with fail
        all_goals
          refine (cD.out _ hK).mono ?_
          rintro e w8 ⟨rfl, hK8, hk8⟩
          have hB8 : Blk w8 w4.heap.size 33 [.int .i64 1, .int .i64 2, .int .i64 node, .bool false, .int .i64 0, .int .i64 0, .int .i64 0, .string ⟨#[]⟩, .bool false, .int .i64 0, .int .i64 0, .int .i64 0, .string ⟨#[]⟩] := hB.kept hk8 (by intro h; rcases h with h | h <;> omega)
          have hk9 : Kept (fun _ => False) w w8 := hkk.trans hk8 (by intro x hx h; rcases h with h | h <;> omega)
          clear hB hkk hk8 hK cD
          go_wp2_with fail
          refine (cL.out _ (keepAt_alloc hK8 _)).mono ?_
          rintro e w10 ⟨rfl, hk10⟩
          have hB10 := Blk.kept (hB8.alloc _) hk10 id
          have hU10 : Blk w10 w8.heap.size 33 [.int .i64 2, .int .i64 (2 + (k : Int)), .int .i64 node, .bool false, .int .i64 0, .int .i64 0, .int .i64 0, .string ⟨#[]⟩, .bool false, .int .i64 0, .int .i64 0, .int .i64 0, .string ⟨#[]⟩] := Blk.kept (Blk.new _ _ _) hk10 id
          have hk11 := (hk9.alloc _).trans hk10 (fun _ _ h => h)
          have cb := hB10.cell
          have cu := hU10.cell
          have lb10 := hB10.lt
          have lu10 := hU10.lt
          clear hB8 hk9 hK8 hk10 cL hB10 hU10
          go_wp2
          go_ret
          exact ⟨ret_bool (by simp; omega), by (repeat (first | (with_reducible (exact hk11)) | (with_reducible (exact Kept.refl _ _)) | (with_reducible (refine Kept.drewN ?_ _)) | (with_reducible (refine Kept.drew ?_)) | (with_reducible (refine Kept.alloc ?_ _)) | ((with_reducible (refine Kept.cellPut ?_ ?_ _)); (focus (first | (intro _; rfl; done) | (intro _; exact .inl rfl) | (intro _; exact .inr rfl) | (intro h; exfalso; dsimp only at h; omega) | (intro h; exfalso; simp at h; omega))))))⟩
end Go.Proofs.Ytieeeijaojdbfaa
