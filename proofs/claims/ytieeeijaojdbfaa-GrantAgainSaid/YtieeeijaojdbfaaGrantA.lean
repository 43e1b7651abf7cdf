/- The walks over pick, within, lease, out, in: each answers what the plain model says. -/
import Derived.Test.YtieeeijaojdbfaaProg
import Derived.Test.YtieeeijaojdbfaaGrantM
import Derived.WalkKit
import Derived.WalkSpells
import Derived.WalkLawsBesides
import Derived.BigQuiet
import Derived.Deep.QuietTactic
import Derived.Deep.RegionHeld3
import Derived.Lib.Hide
namespace Go.Proofs.Ytieeeijaojdbfaa
open Go.RowKit

def pickZ (c n : Int) : Int := (if c < 0 then -(c+1) else c) % n
theorem pickZ_bd (c n : Int) (h : 0 < n) : 0 ≤ pickZ c n ∧ pickZ c n < n := ⟨Int.emod_nonneg _ (by omega), Int.emod_lt_of_pos _ h⟩

set_option maxHeartbeats 400000 in
theorem pick_any (c n : Int) (w : World) (h1 : 1 ≤ n) (h2 : n ≤ 9223372036854775807) (h3 : -9223372036854775808 ≤ c) (h4 : c ≤ 9223372036854775807) :
    Calls Try.prog 10 #[.int .i64 c, .int .i64 n] w fun e w' => e = .returned (.int .i64 (pickZ c n)) ∧ w = w' := by
  by_cases hc : c < 0
  · go_enter Try.func10, Try.ntmps10
    go_wp2
    go_ret
    refine ⟨ret_int ?_, rfl⟩
    show -((c + 1).tmod n) = _
    rw [pickZ, if_pos hc, ← Int.neg_tmod, Int.tmod_eq_emod_of_nonneg (by omega)]
  · go_enter Try.func10, Try.ntmps10
    go_wp2
    go_ret
    refine ⟨ret_int ?_, rfl⟩
    show c % n = _
    rw [pickZ, if_neg (by omega)]

set_option maxHeartbeats 400000 in
theorem within_any (n a b : Int) (w : World) :
    Calls Try.prog 22 #[.int .i64 n, .int .i64 a, .int .i64 b] w fun e w' => e = .returned (.bool (decide (a ≤ n) && decide (n ≤ b))) ∧ w = w' := by
  by_cases ha : a ≤ n
  all_goals
    go_enter Try.func22, Try.ntmps22
    go_wp2
    go_ret
    refine ⟨?_, rfl⟩
    first | (simp [ha]; done) | (simp; intro h; exfalso; omega)

/-- what lease, out, in have done: the status, and the lease of stripe i -/
def DidL (lb i : Nat) (ls : List LeaseM) (r : Int × LeaseM) (w : World) (e : Ending) (w' : World) : Prop :=
  e = .returned (.int .i64 r.1) ∧ Blk w' lb 45 (leaseCells (ls.set i r.2)) ∧ Kept (· = lb) w w'

section
variable {lb i : Nat} {ls : List LeaseM} {l : LeaseM} {w : World}
theorem lease_cells (hL : Blk w lb 45 (leaseCells ls)) (hi : ls[i]? = some l) :
    w.cell? ⟨lb, i * 4, none⟩ = some (.int .i64 l.ep) ∧ w.cell? ⟨lb, i * 4 + 1, none⟩ = some (.int .i64 l.ho) ∧ w.cell? ⟨lb, i * 4 + 2, none⟩ = some (.int .i64 l.un) ∧ w.cell? ⟨lb, i * 4 + 3, none⟩ = some (.int .i64 l.ou) := by
  refine ⟨?_, ?_, ?_, ?_⟩
  · exact (hL.cell _).trans (leaseCells_get ls i 0 l hi (by omega))
  · exact (hL.cell _).trans (leaseCells_get ls i 1 l hi (by omega))
  · exact (hL.cell _).trans (leaseCells_get ls i 2 l hi (by omega))
  · exact (hL.cell _).trans (leaseCells_get ls i 3 l hi (by omega))
theorem set_self (hi : ls[i]? = some l) : ls.set i l = ls := by
  obtain ⟨h, rfl⟩ := List.getElem?_eq_some_iff.1 hi
  exact List.set_getElem_self h
theorem did_same (hL : Blk w lb 45 (leaseCells ls)) (hi : ls[i]? = some l) {s : Int} {w' : World} (hk : Kept (fun _ => False) w w') : DidL lb i ls (s, l) w (.returned (.int .i64 s)) w' :=
  ⟨rfl, (hL.kept hk id).eq_ (by rw [set_self hi]), hk.mono (fun _ _ h => h.elim)⟩
theorem put_ep (hL : Blk w lb 45 (leaseCells ls)) (hi : ls[i]? = some l) (x : Int) : Blk (w.setCell ⟨lb, i * 4, none⟩ (.int .i64 x)) lb 45 (leaseCells (ls.set i { l with ep := x })) :=
  (hL.put _ _).eq_ (leaseCells_set ls i 0 l _ _ hi (by omega) rfl)
theorem put_ho (hL : Blk w lb 45 (leaseCells ls)) (hi : ls[i]? = some l) (x : Int) : Blk (w.setCell ⟨lb, i * 4 + 1, none⟩ (.int .i64 x)) lb 45 (leaseCells (ls.set i { l with ho := x })) :=
  (hL.put _ _).eq_ (leaseCells_set ls i 1 l _ _ hi (by omega) rfl)
theorem put_un (hL : Blk w lb 45 (leaseCells ls)) (hi : ls[i]? = some l) (x : Int) : Blk (w.setCell ⟨lb, i * 4 + 2, none⟩ (.int .i64 x)) lb 45 (leaseCells (ls.set i { l with un := x })) :=
  (hL.put _ _).eq_ (leaseCells_set ls i 2 l _ _ hi (by omega) rfl)
theorem put_ou (hL : Blk w lb 45 (leaseCells ls)) (hi : ls[i]? = some l) (x : Int) : Blk (w.setCell ⟨lb, i * 4 + 3, none⟩ (.int .i64 x)) lb 45 (leaseCells (ls.set i { l with ou := x })) :=
  (hL.put _ _).eq_ (leaseCells_set ls i 3 l _ _ hi (by omega) rfl)
theorem set_get (hi : ls[i]? = some l) (l' : LeaseM) : (ls.set i l')[i]? = some l' := by
  have := (List.getElem?_eq_some_iff.1 hi).1
  simp [this]
end

set_option maxHeartbeats 400000 in
theorem lease_any (lb i : Nat) (ls : List LeaseM) (l : LeaseM) (now fr : Int) (w : World) (hL : Blk w lb 45 (leaseCells ls)) (hi : ls[i]? = some l)
    (hb1 : 0 ≤ l.ep) (hb2 : l.ep ≤ 16777215) (hn : 0 ≤ now) (hn2 : now ≤ 1099511627776) :
    Calls Try.prog 19 #[.pointer (some ⟨lb, i * 4, none⟩), .int .i64 now, .int .i64 fr] w (DidL lb i ls (leaseF l now fr) w) := by
  obtain ⟨h0, h1, h2, h3⟩ := lease_cells hL hi
  have hf := hL.frozen
  have HL := Lib.hid hL
  have HI := Lib.hid hi
  clear hL hi
  by_cases ha : l.ho ≠ 0 ∧ l.ho ≠ fr ∧ now < l.un
  · have hF : leaseF l now fr = (7, l) := by rw [leaseF, if_pos ha]
    have HF := Lib.hid hF
    obtain ⟨a1, a2, a3⟩ := ha
    have b1 : (l.ho != 0) = true := by simpa using a1
    have b2 : (l.ho != fr) = true := by simpa using a2
    clear hF
    go_enter Try.func19, Try.ntmps19
    go_wp2
    go_ret
    rw [HF.out]
    exact did_same HL.out HI.out (Kept.refl _ _)
  · have hG : leaseF l now fr = if l.ep = 16777215 then (6, l) else (1, { l with ep := l.ep + 1, ho := fr, un := now + 30 }) := by rw [leaseF, if_neg ha]
    have HA := Lib.hid ha
    clear ha
    by_cases he : l.ep = 16777215
    · have hF : leaseF l now fr = (6, l) := by rw [hG, if_pos he]
      have HF := Lib.hid hF
      have HE := Lib.hid he
      have he2 : (l.ep == 16777215) = true := by simpa using he
      clear hG hF he
      go_enter Try.func19, Try.ntmps19
      go_wp2
      all_goals first
        | (exfalso; refine HA.out ⟨?_, ?_, ?_⟩ <;> simp_all; done)
        | (go_ret
           rw [HF.out]
           exact did_same HL.out HI.out (Kept.refl _ _))
    · have hF : leaseF l now fr = (1, { l with ep := l.ep + 1, ho := fr, un := now + 30 }) := by rw [hG, if_neg he]
      have HF := Lib.hid hF
      have he2 : (l.ep == 16777215) = false := by simpa using he
      clear hG hF he
      go_enter Try.func19, Try.ntmps19
      go_wp2
      all_goals first
        | (exfalso; refine HA.out ⟨?_, ?_, ?_⟩ <;> simp_all; done)
        | (go_ret
           rw [HF.out]
           refine ⟨rfl, (put_un (put_ho (put_ep HL.out HI.out _) (set_get HI.out _) _) (set_get (set_get HI.out _) _) _).eq_ (by simp), ?_⟩
           exact Kept.setCell (Kept.setCell (Kept.setCell (Kept.refl (· = lb) w) (p := ⟨lb, i * 4, none⟩) (fun _ => rfl) _) (p := ⟨lb, i * 4 + 1, none⟩) (fun _ => rfl) _) (p := ⟨lb, i * 4 + 2, none⟩) (fun _ => rfl) _)
end Go.Proofs.Ytieeeijaojdbfaa
