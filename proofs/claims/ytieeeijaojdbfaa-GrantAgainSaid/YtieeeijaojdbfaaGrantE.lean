/- The walks over Lease and New. -/
import Derived.Test.YtieeeijaojdbfaaGrantD
namespace Go.Proofs.Ytieeeijaojdbfaa
open Go.RowKit

def leaseOf (k : KeepM) (s : Int) : LeaseM × Bool :=
  if s < 0 then (⟨0, 0, 0, 0⟩, false) else match k.ls[s.toNat]? with | none => (⟨0, 0, 0, 0⟩, false) | some l => (l, true)
def LeasePost (r : LeaseM × Bool) (w : World) (e : Ending) (w' : World) : Prop :=
  e = .returned (.tuple #[.agg #[.int .i64 r.1.ep, .int .i64 r.1.ho, .int .i64 r.1.un, .int .i64 r.1.ou], .bool r.2]) ∧ Kept (fun _ => False) w w'

set_option maxHeartbeats 800000 in
theorem lease_of (kb lb : Nat) (k : KeepM) (s : Int) (w : World) (hK : KeepAt w kb lb k) (ho : KeepOk k) :
    Calls Try.prog 12 #[.pointer (some ⟨kb, 0, none⟩), .int .i64 s] w (LeasePost (leaseOf k s) w) := by
  have hlt := hK.kb.lt
  have hlt2 := hK.lb.lt
  have hn8 := ho.n8
  have c0 : w.cell? ⟨kb, 0, none⟩ = some (.slice (some ⟨lb, 0, none⟩) k.ls.length k.ls.length) := hK.kb.at_ rfl
  by_cases hs : s < 0
  · have HF := Lib.hid (show leaseOf k s = (⟨0, 0, 0, 0⟩, false) by rw [leaseOf, if_pos hs])
    go_enter Try.func12, Try.ntmps12
    go_wp2
    refine bodyPost_ret (v := .tuple #[.agg #[.int .i64 0, .int .i64 0, .int .i64 0, .int .i64 0], .bool false]) (by simp [results, Try.results12, go_sem, *]) rfl ?_
    rw [HF.out]
    exact ⟨rfl, by (repeat (first | (with_reducible (exact Kept.refl _ _)) | (with_reducible (refine Kept.drewN ?_ _)) | (with_reducible (refine Kept.drew ?_)) | (with_reducible (refine Kept.alloc ?_ _)) | ((with_reducible (refine Kept.cellPut ?_ ?_ _)); (focus (first | (intro _; rfl; done) | (intro _; exact .inl rfl) | (intro _; exact .inr rfl) | (intro h; exfalso; dsimp only at h; omega) | (intro h; exfalso; simp at h; omega))))))⟩
  · obtain ⟨i, rfl⟩ := Int.eq_ofNat_of_zero_le (Int.not_lt.1 hs)
    clear hs
    cases hl : k.ls[i]? with
    | none =>
      have HF := Lib.hid (show leaseOf k i = (⟨0, 0, 0, 0⟩, false) by simp [leaseOf, hl])
      have hge : k.ls.length ≤ i := by simpa using hl
      clear hl
      go_enter Try.func12, Try.ntmps12
      go_wp2
      refine bodyPost_ret (v := .tuple #[.agg #[.int .i64 0, .int .i64 0, .int .i64 0, .int .i64 0], .bool false]) (by simp [results, Try.results12, go_sem, *]) rfl ?_
      rw [HF.out]
      exact ⟨rfl, by (repeat (first | (with_reducible (exact Kept.refl _ _)) | (with_reducible (refine Kept.drewN ?_ _)) | (with_reducible (refine Kept.drew ?_)) | (with_reducible (refine Kept.alloc ?_ _)) | ((with_reducible (refine Kept.cellPut ?_ ?_ _)); (focus (first | (intro _; rfl; done) | (intro _; exact .inl rfl) | (intro _; exact .inr rfl) | (intro h; exfalso; dsimp only at h; omega) | (intro h; exfalso; simp at h; omega))))))⟩
    | some l =>
      have HF := Lib.hid (show leaseOf k i = (l, true) by
        have : ¬ (i : Int) < 0 := by omega
        simp [leaseOf, hl, this])
      have hlen := (List.getElem?_eq_some_iff.1 hl).1
      obtain ⟨d0, d1, d2, d3⟩ := lease_cells hK.lb hl
      have g1 : (0 : Int) ≤ (i : Int) := by omega
      have g2 : (i : Int) < (k.ls.length : Int) := by omega
      clear hl
      go_enter Try.func12, Try.ntmps12
      go_wp2
      refine bodyPost_ret (v := .tuple #[.agg #[.int .i64 l.ep, .int .i64 l.ho, .int .i64 l.un, .int .i64 l.ou], .bool true]) (by simp [results, Try.results12, go_sem, *]) rfl ?_
      rw [HF.out]
      exact ⟨rfl, by (repeat (first | (with_reducible (exact Kept.refl _ _)) | (with_reducible (refine Kept.drewN ?_ _)) | (with_reducible (refine Kept.drew ?_)) | (with_reducible (refine Kept.alloc ?_ _)) | ((with_reducible (refine Kept.cellPut ?_ ?_ _)); (focus (first | (intro _; rfl; done) | (intro _; exact .inl rfl) | (intro _; exact .inr rfl) | (intro h; exfalso; dsimp only at h; omega) | (intro h; exfalso; simp at h; omega))))))⟩

def newLs (n i : Nat) : List LeaseM := List.replicate i ⟨0, 0, 0, -1⟩ ++ List.replicate (n - i) ⟨0, 0, 0, 0⟩
theorem newLs_get (n i : Nat) (h : i < n) : (newLs n i)[i]? = some ⟨0, 0, 0, 0⟩ := by
  unfold newLs
  rw [List.getElem?_append_right (by simp), List.length_replicate, Nat.sub_self, List.getElem?_replicate, if_pos (by omega)]
theorem newLs_set (n i : Nat) (h : i < n) : (newLs n i).set i ⟨0, 0, 0, -1⟩ = newLs n (i + 1) := by
  unfold newLs
  rw [List.set_append_right _ _ (by simp), List.replicate_succ', List.append_assoc]
  congr 1
  obtain ⟨m, hm⟩ : ∃ m, n - i = m + 1 := ⟨n - i - 1, by omega⟩
  rw [hm, show n - (i + 1) = m by omega, List.replicate_succ]
  simp
def newK (n : Nat) : KeepM := ⟨List.replicate n ⟨0, 0, 0, -1⟩, 0, 0, ⟨0, 0, 0⟩, ⟨0, 0, 0⟩⟩
theorem newK_ok (n : Nat) (h1 : 1 ≤ n) (h8 : n ≤ 8) : KeepOk (newK n) :=
  ⟨by simpa [newK] using h1, by simpa [newK] using h8, fun l hl => by simp [newK] at hl; rw [hl.2]; decide⟩
theorem made_leases1 : madeCells (#[.int .i64 0, .int .i64 0, .int .i64 0, .int .i64 0] : Array Value) (1 * 4) = (leaseCells (newLs 1 0)).toArray := by kernel_rfl
theorem made_leases2 : madeCells (#[.int .i64 0, .int .i64 0, .int .i64 0, .int .i64 0] : Array Value) (2 * 4) = (leaseCells (newLs 2 0)).toArray := by kernel_rfl
theorem made_leases3 : madeCells (#[.int .i64 0, .int .i64 0, .int .i64 0, .int .i64 0] : Array Value) (3 * 4) = (leaseCells (newLs 3 0)).toArray := by kernel_rfl
theorem made_leases4 : madeCells (#[.int .i64 0, .int .i64 0, .int .i64 0, .int .i64 0] : Array Value) (4 * 4) = (leaseCells (newLs 4 0)).toArray := by kernel_rfl
theorem made_leases5 : madeCells (#[.int .i64 0, .int .i64 0, .int .i64 0, .int .i64 0] : Array Value) (5 * 4) = (leaseCells (newLs 5 0)).toArray := by kernel_rfl
theorem made_leases6 : madeCells (#[.int .i64 0, .int .i64 0, .int .i64 0, .int .i64 0] : Array Value) (6 * 4) = (leaseCells (newLs 6 0)).toArray := by kernel_rfl
theorem made_leases7 : madeCells (#[.int .i64 0, .int .i64 0, .int .i64 0, .int .i64 0] : Array Value) (7 * 4) = (leaseCells (newLs 7 0)).toArray := by kernel_rfl
theorem made_leases8 : madeCells (#[.int .i64 0, .int .i64 0, .int .i64 0, .int .i64 0] : Array Value) (8 * 4) = (leaseCells (newLs 8 0)).toArray := by kernel_rfl
theorem made_leases (n : Nat) (h1 : 1 ≤ n) (h8 : n ≤ 8) : madeCells (#[.int .i64 0, .int .i64 0, .int .i64 0, .int .i64 0] : Array Value) (n * 4) = (leaseCells (newLs n 0)).toArray := by
  have : n = 1 ∨ n = 2 ∨ n = 3 ∨ n = 4 ∨ n = 5 ∨ n = 6 ∨ n = 7 ∨ n = 8 := by omega
  rcases this with h | h | h | h | h | h | h | h <;> subst h
  · exact made_leases1
  · exact made_leases2
  · exact made_leases3
  · exact made_leases4
  · exact made_leases5
  · exact made_leases6
  · exact made_leases7
  · exact made_leases8
theorem lease_info : (Try.prog.info? 45).map (fun i => (i.zero, i.size, i.bytes)) = some (some (.agg #[.int .i64 0, .int .i64 0, .int .i64 0, .int .i64 0]), 4, 32) := by kernel_rfl
theorem run_makeLeases (n : Nat) (h1 : 1 ≤ n) (h8 : n ≤ 8) (w : World) : (Instr.makeSlice 54 (.int .i64 (n : Int)) (.int .i64 (n : Int))).run Try.prog w =
    .ok (.slice (some ⟨w.heap.size, 0, none⟩) n n) (w.alloc (.cells (leaseCells (newLs n 0)).toArray 45)) := by
  obtain ⟨i0, hi, hz0, hz1, hz2⟩ := info_parts lease_info
  have h := run_make (P := Try.prog) w 54 45 i0 _ Try.underlying54 hi hz0 .i64 .i64 n n (by omega) (by omega) (by rw [hz2]; omega) (by omega)
  simp only [Int.toNat_natCast, hz1] at h
  rw [h, show (Value.agg #[.int .i64 0, .int .i64 0, .int .i64 0, .int .i64 0]).cells = #[.int .i64 0, .int .i64 0, .int .i64 0, .int .i64 0] from rfl, made_leases n h1 h8]

def NewPost (n : Nat) (w : World) (e : Ending) (w' : World) : Prop :=
  e = .returned (.tuple #[.pointer (some ⟨w.heap.size + 1, 0, none⟩), .int .i64 0]) ∧ KeepAt w' (w.heap.size + 1) w.heap.size (newK n) ∧ Kept (fun _ => False) w w'

set_option maxHeartbeats 800000 in
theorem new_of (n : Nat) (h1 : 1 ≤ n) (h8 : n ≤ 8) (w : World) : Calls Try.prog 9 #[.int .i64 (n : Int)] w (NewPost n w) := by
  have hmk := run_makeLeases n h1 h8
  go_enter Try.func9, Try.ntmps9
  go_wp2
  refine seal_ (fun W => Kept (fun _ => False) w W ∧ Blk W w.heap.size 45 (leaseCells (newLs n 0)) ∧
    Blk W (w.heap.size + 1) 59 [.slice (some ⟨w.heap.size, 0, none⟩) n n, .int .i64 0, .int .i64 (⟨0, 0, 0⟩ : SayM).st, .int .i64 (⟨0, 0, 0⟩ : SayM).ep, .int .i64 (⟨0, 0, 0⟩ : SayM).ou, .bool false, .int .i64 0, .int .i64 0, .int .i64 0, .string ⟨#[]⟩, .bool false, .int .i64 0, .int .i64 0, .int .i64 0, .string ⟨#[]⟩, .int .i64 0, .int .i64 (⟨0, 0, 0⟩ : SayM).st, .int .i64 (⟨0, 0, 0⟩ : SayM).ep, .int .i64 (⟨0, 0, 0⟩ : SayM).ou, .bool false, .int .i64 0, .int .i64 0, .int .i64 0, .string ⟨#[]⟩, .bool false, .int .i64 0, .int .i64 0, .int .i64 0, .string ⟨#[]⟩]) ⟨by (repeat (first | (with_reducible (exact Kept.refl _ _)) | (with_reducible (refine Kept.drewN ?_ _)) | (with_reducible (refine Kept.drew ?_)) | (with_reducible (refine Kept.alloc ?_ _)) | ((with_reducible (refine Kept.cellPut ?_ ?_ _)); (focus (first | (intro _; rfl; done) | (intro _; exact .inl rfl) | (intro _; exact .inr rfl) | (intro h; exfalso; dsimp only at h; omega) | (intro h; exfalso; simp at h; omega)))))), by (repeat (first | (with_reducible exact hmk) | (with_reducible exact Blk.new _ _ _) | ((with_reducible refine Blk.new_ ?_); (focus (simp; done))) | (with_reducible refine Blk.drewN ?_ _) | (with_reducible refine Blk.drew ?_) | (with_reducible refine Blk.alloc ?_ _) | (with_reducible refine Blk.put ?_ _ _) | ((with_reducible refine Blk.farR ?_ ?_ _); (focus (first | (simp; done) | (simp; omega)))))), by (repeat (first | (with_reducible exact hmk) | (with_reducible exact Blk.new _ _ _) | ((with_reducible refine Blk.new_ ?_); (focus (simp; done))) | (with_reducible refine Blk.drewN ?_ _) | (with_reducible refine Blk.drew ?_) | (with_reducible refine Blk.alloc ?_ _) | (with_reducible refine Blk.put ?_ _ _) | ((with_reducible refine Blk.farR ?_ ?_ _); (focus (first | (simp; done) | (simp; omega))))))⟩ ?_
  rintro W ⟨hk0, b0, b1⟩
  have hb1 : decide ((n : Int) < 1) = false := by simp; omega
  have hb2 : decide ((8 : Int) < (n : Int)) = false := by simp; omega
  go_loopw [5, 21] (fun _ c wr => ∃ i : Nat, i ≤ n ∧ c = .int .i64 i ∧ Blk wr w.heap.size 45 (leaseCells (newLs n i)) ∧
      Blk wr (w.heap.size + 1) 59 [.slice (some ⟨w.heap.size, 0, none⟩) n n, .int .i64 0, .int .i64 (⟨0, 0, 0⟩ : SayM).st, .int .i64 (⟨0, 0, 0⟩ : SayM).ep, .int .i64 (⟨0, 0, 0⟩ : SayM).ou, .bool false, .int .i64 0, .int .i64 0, .int .i64 0, .string ⟨#[]⟩, .bool false, .int .i64 0, .int .i64 0, .int .i64 0, .string ⟨#[]⟩, .int .i64 0, .int .i64 (⟨0, 0, 0⟩ : SayM).st, .int .i64 (⟨0, 0, 0⟩ : SayM).ep, .int .i64 (⟨0, 0, 0⟩ : SayM).ou, .bool false, .int .i64 0, .int .i64 0, .int .i64 0, .string ⟨#[]⟩, .bool false, .int .i64 0, .int .i64 0, .int .i64 0, .string ⟨#[]⟩] ∧ Kept (fun _ => False) w wr) (fun _ c _ => n - (intOf c).toNat)
  case atStart => exact ⟨0, by omega, rfl, b0, b1, hk0⟩
  case round =>
    obtain ⟨i, hi, rfl, b2, b3, hk⟩ := hrel
    have c3 := b3.cell
    have g1 : (0 : Int) ≤ (i : Int) := by omega
    by_cases hlt : i < n
    · have g2 : (i : Int) < (n : Int) := by omega
      obtain ⟨d0, d1, d2, d3⟩ := lease_cells b2 (newLs_get n i hlt)
      have f2 := b2.frozen
      have HB := Lib.hid (put_ou b2 (newLs_get n i hlt) (-1))
      clear hmk hk0 b0 b1
      go_wp2
      go_roundw
      case rel => exact ⟨i + 1, by omega, by go_num, HB.out.eq_ (by rw [newLs_set n i hlt]), b3.far (by simp) _, hk.setCell (by simp) _⟩
      case measure => simp [intOf]; omega
    · have e : i = n := by omega
      subst e
      clear hmk hk0 b0 b1
      go_wp2
      go_ret2
      exact ⟨rfl, ⟨b3.eq_ (by simp [keepCells, newK, SayM.cells]), b2.eq_ (by simp [newK, newLs])⟩, hk⟩

set_option maxHeartbeats 800000 in
theorem new_no (n : Int) (h : n < 1 ∨ 8 < n) (w : World) : Calls Try.prog 9 #[.int .i64 n] w fun e w' => e = .returned (.tuple #[.pointer none, .int .i64 1]) ∧ Kept (fun _ => False) w w' := by
  by_cases h1 : n < 1
  all_goals
    have h2 := h
    clear h
    go_enter Try.func9, Try.ntmps9
    go_wp2
    go_ret2
    exact ⟨rfl, Kept.refl _ _⟩
end Go.Proofs.Ytieeeijaojdbfaa
