/- The first calls whose answers are fixed: awake answers true. -/
import Derived.Test.YtieeeijaojdbfaaGrantE
namespace Go.Proofs.Ytieeeijaojdbfaa
open Go.RowKit

theorem new1 (w : World) : Calls Try.prog 9 #[.int .i64 1] w (NewPost 1 w) := new_of 1 (by omega) (by omega) w
theorem new2 (w : World) : Calls Try.prog 9 #[.int .i64 2] w (NewPost 2 w) := new_of 2 (by omega) (by omega) w
theorem new3 (w : World) : Calls Try.prog 9 #[.int .i64 3] w (NewPost 3 w) := new_of 3 (by omega) (by omega) w

theorem do_is (kb lb : Nat) (k : KeepM) (now fr id : Int) (q : AskM) (r : KeepM × SayM × Bool) (h : doF k now fr id q = r) (ho : KeepOk k) (w : World) (hK : KeepAt w kb lb k) :
    Calls Try.prog 11 #[.pointer (some ⟨kb, 0, none⟩), .int .i64 now, .int .i64 fr, .int .i64 id, .agg #[.int .i64 q.kind, .int .i64 q.stripe, .int .i64 q.epoch, .int .i64 q.seq, .int .i64 q.mask, .int .i64 q.node, .int .i64 q.oe, .int .i64 q.os, .string q.block]] w (DoPost kb lb r w) := h ▸ do_any kb lb k now fr id q w hK ho

def qL : AskM := ⟨8, 0, 0, 0, 0, 0, 0, 0, ⟨#[]⟩⟩
def qO : AskM := ⟨9, 0, 1, 0, 0, 0, 0, 0, ⟨#[]⟩⟩
def kA : KeepM := ⟨[⟨1, 200, 30, -1⟩], 1, 0, ⟨1, 1, -1⟩, ⟨0, 0, 0⟩⟩
def kB : KeepM := ⟨[⟨1, 200, 30, -1⟩], 1, 1, ⟨1, 1, -1⟩, ⟨7, 1, -1⟩⟩
def kC : KeepM := ⟨[⟨2, 201, 60, -1⟩], 1, 2, ⟨1, 1, -1⟩, ⟨1, 2, -1⟩⟩
def kD : KeepM := ⟨[⟨2, 201, 60, -1⟩], 2, 2, ⟨2, 2, -1⟩, ⟨1, 2, -1⟩⟩
theorem r_qL : rightAsk qL = true := by simp [rightAsk, qL]
theorem r_qO : rightAsk qO = true := by simp [rightAsk, qO]
theorem clampT_id (n : Int) (h0 : 0 ≤ n) (h1 : n ≤ 1099511627776) : clampT n = n := by unfold clampT; omega
theorem aA : doF (newK 1) 0 200 1 qL = (kA, ⟨1, 1, -1⟩, true) := by simp [doF, ansF, r_qL, clampT_id]; simp [newK, qL, ans1, ansL, leaseF, kA]
theorem aB : doF kA 5 201 1 qL = (kB, ⟨7, 1, -1⟩, true) := by simp [doF, ansF, r_qL, clampT_id]; simp [qL, ans1, ansL, leaseF, kA, kB]
theorem aC : doF kB 30 201 2 qL = (kC, ⟨1, 2, -1⟩, true) := by simp [doF, ansF, r_qL, clampT_id]; simp [qL, ans1, ansL, leaseF, kC, kB]
theorem aD : doF kC 31 200 2 qO = (kD, ⟨2, 2, -1⟩, true) := by simp [doF, ansF, r_qO, clampT_id]; simp [qO, ans1, ansL, outF, kC, kD]
theorem aF : doF kD 32 201 2 qL = (kD, ⟨1, 2, -1⟩, true) := by simp [doF, kD]
theorem aG : doF kD 33 201 1 qL = (kD, ⟨0, 0, 0⟩, false) := by simp [doF, kD]
theorem okA : KeepOk kA := ⟨by decide, by decide, by decide⟩
theorem okB : KeepOk kB := ⟨by decide, by decide, by decide⟩
theorem okC : KeepOk kC := ⟨by decide, by decide, by decide⟩
theorem okD : KeepOk kD := ⟨by decide, by decide, by decide⟩

theorem keepAt_kept {w w' : World} {kb lb : Nat} {k : KeepM} {S : Nat → Prop} (hK : KeepAt w kb lb k) (h : Kept S w w') (h1 : ¬ S kb) (h2 : ¬ S lb) : KeepAt w' kb lb k := ⟨hK.kb.kept h h1, hK.lb.kept h h2⟩
theorem keepAt_alloc {w : World} {kb lb : Nat} {k : KeepM} (hK : KeepAt w kb lb k) (o : Obj) : KeepAt (w.alloc o) kb lb k := ⟨hK.kb.alloc o, hK.lb.alloc o⟩

set_option maxHeartbeats 1600000 in
theorem awake_any (w : World) : Calls Try.prog 8 #[] w fun e w' => e = .returned (.bool true) ∧ Kept (fun _ => False) w w' := by
  go_enter Try.func8, Try.ntmps8
  go_wp2_with fail
  refine (new1 _).mono ?_
  rintro e w1 ⟨rfl, hK1, hk1⟩
  go_wp2_with fail
  refine (new_no 9 (.inr (by decide)) _).mono ?_
  rintro e w2 ⟨rfl, hk2⟩
  have hK2 := keepAt_same hK1 hk2
  have hk := hk1.trans hk2 (fun _ _ h => h)
  have z2 := hK2.kb.lt
  clear hK1 hk1 hk2
  go_wp2_with fail
  refine (do_is (w.heap.size + 1) w.heap.size _ 0 200 1 qL _ aA (newK_ok 1 (by decide) (by decide)) _ (keepAt_alloc hK2 _)).mono ?_
  rintro e w3 ⟨rfl, hK3, hk'⟩
  have b5n : Blk w3 (w2.heap.size) 37 [.int .i64 8, .int .i64 0, .int .i64 0, .int .i64 0, .int .i64 0, .int .i64 0, .int .i64 0, .int .i64 0, .string ⟨#[]⟩] := Blk.kept (Blk.new _ _ _) hk' (by intro h; rcases h with h | h <;> omega)
  have hkn : Kept (fun _ => False) w w3 := Kept.trans (hk.alloc _) hk' (by intro x hx h; rcases h with h | h <;> omega)
  have z3 := hk'.size
  simp only [World.size_alloc] at z3
  clear hk hk' hK2 
  have b5 := b5n; clear b5n; have lb5 := b5.lt
  have hk := hkn; clear hkn
  have c5 := b5.cell
  go_wp2_with fail
  refine (do_is (w.heap.size + 1) w.heap.size _ 5 201 1 qL _ aB okA _ (keepAt_alloc hK3 _)).mono ?_
  rintro e w4 ⟨rfl, hK4, hk'⟩
  have b5n : Blk w4 (w2.heap.size) 37 [.int .i64 8, .int .i64 0, .int .i64 0, .int .i64 0, .int .i64 0, .int .i64 0, .int .i64 0, .int .i64 0, .string ⟨#[]⟩] := Blk.kept (b5.alloc _) hk' (by intro h; rcases h with h | h <;> omega)
  have r0n : Blk w4 (w3.heap.size) 33 [.int .i64 1, .int .i64 1, .int .i64 (-1), .bool false, .int .i64 0, .int .i64 0, .int .i64 0, .string ⟨#[]⟩, .bool false, .int .i64 0, .int .i64 0, .int .i64 0, .string ⟨#[]⟩] := Blk.kept (Blk.new _ _ _) hk' (by intro h; rcases h with h | h <;> omega)
  have hkn : Kept (fun _ => False) w w4 := Kept.trans (hk.alloc _) hk' (by intro x hx h; rcases h with h | h <;> omega)
  have z4 := hk'.size
  simp only [World.size_alloc] at z4
  clear hk hk' hK3 b5 lb5
  clear c5
  have b5 := b5n; clear b5n; have lb5 := b5.lt
  have r0 := r0n; clear r0n; have lr0 := r0.lt
  have hk := hkn; clear hkn
  have c5 := b5.cell
  go_wp2_with fail
  refine (do_is (w.heap.size + 1) w.heap.size _ 30 201 2 qL _ aC okB _ (keepAt_alloc hK4 _)).mono ?_
  rintro e w5 ⟨rfl, hK5, hk'⟩
  have b5n : Blk w5 (w2.heap.size) 37 [.int .i64 8, .int .i64 0, .int .i64 0, .int .i64 0, .int .i64 0, .int .i64 0, .int .i64 0, .int .i64 0, .string ⟨#[]⟩] := Blk.kept (b5.alloc _) hk' (by intro h; rcases h with h | h <;> omega)
  have r0n : Blk w5 (w3.heap.size) 33 [.int .i64 1, .int .i64 1, .int .i64 (-1), .bool false, .int .i64 0, .int .i64 0, .int .i64 0, .string ⟨#[]⟩, .bool false, .int .i64 0, .int .i64 0, .int .i64 0, .string ⟨#[]⟩] := Blk.kept (r0.alloc _) hk' (by intro h; rcases h with h | h <;> omega)
  have r1n : Blk w5 (w4.heap.size) 33 [.int .i64 7, .int .i64 1, .int .i64 (-1), .bool false, .int .i64 0, .int .i64 0, .int .i64 0, .string ⟨#[]⟩, .bool false, .int .i64 0, .int .i64 0, .int .i64 0, .string ⟨#[]⟩] := Blk.kept (Blk.new _ _ _) hk' (by intro h; rcases h with h | h <;> omega)
  have hkn : Kept (fun _ => False) w w5 := Kept.trans (hk.alloc _) hk' (by intro x hx h; rcases h with h | h <;> omega)
  have z5 := hk'.size
  simp only [World.size_alloc] at z5
  clear hk hk' hK4 b5 lb5 r0 lr0
  clear c5
  have b5 := b5n; clear b5n; have lb5 := b5.lt
  have r0 := r0n; clear r0n; have lr0 := r0.lt
  have r1 := r1n; clear r1n; have lr1 := r1.lt
  have hk := hkn; clear hkn
  have c5 := b5.cell
  go_wp2_with fail
  refine (do_is (w.heap.size + 1) w.heap.size _ 31 200 2 qO _ aD okC _ (keepAt_alloc hK5 _)).mono ?_
  rintro e w6 ⟨rfl, hK6, hk'⟩
  have b5n : Blk w6 (w2.heap.size) 37 [.int .i64 8, .int .i64 0, .int .i64 0, .int .i64 0, .int .i64 0, .int .i64 0, .int .i64 0, .int .i64 0, .string ⟨#[]⟩] := Blk.kept (b5.alloc _) hk' (by intro h; rcases h with h | h <;> omega)
  have r0n : Blk w6 (w3.heap.size) 33 [.int .i64 1, .int .i64 1, .int .i64 (-1), .bool false, .int .i64 0, .int .i64 0, .int .i64 0, .string ⟨#[]⟩, .bool false, .int .i64 0, .int .i64 0, .int .i64 0, .string ⟨#[]⟩] := Blk.kept (r0.alloc _) hk' (by intro h; rcases h with h | h <;> omega)
  have r1n : Blk w6 (w4.heap.size) 33 [.int .i64 7, .int .i64 1, .int .i64 (-1), .bool false, .int .i64 0, .int .i64 0, .int .i64 0, .string ⟨#[]⟩, .bool false, .int .i64 0, .int .i64 0, .int .i64 0, .string ⟨#[]⟩] := Blk.kept (r1.alloc _) hk' (by intro h; rcases h with h | h <;> omega)
  have r2n : Blk w6 (w5.heap.size) 33 [.int .i64 1, .int .i64 2, .int .i64 (-1), .bool false, .int .i64 0, .int .i64 0, .int .i64 0, .string ⟨#[]⟩, .bool false, .int .i64 0, .int .i64 0, .int .i64 0, .string ⟨#[]⟩] := Blk.kept (Blk.new _ _ _) hk' (by intro h; rcases h with h | h <;> omega)
  have hkn : Kept (fun _ => False) w w6 := Kept.trans (hk.alloc _) hk' (by intro x hx h; rcases h with h | h <;> omega)
  have z6 := hk'.size
  simp only [World.size_alloc] at z6
  clear hk hk' hK5 b5 lb5 r0 lr0 r1 lr1
  clear c5
  have b5 := b5n; clear b5n; have lb5 := b5.lt
  have r0 := r0n; clear r0n; have lr0 := r0.lt
  have r1 := r1n; clear r1n; have lr1 := r1.lt
  have r2 := r2n; clear r2n; have lr2 := r2.lt
  have hk := hkn; clear hkn
  have c5 := b5.cell
  go_wp2_with fail
  refine (do_is (w.heap.size + 1) w.heap.size _ 32 201 2 qL _ aF okD _ (keepAt_alloc hK6 _)).mono ?_
  rintro e w7 ⟨rfl, hK7, hk'⟩
  have b5n : Blk w7 (w2.heap.size) 37 [.int .i64 8, .int .i64 0, .int .i64 0, .int .i64 0, .int .i64 0, .int .i64 0, .int .i64 0, .int .i64 0, .string ⟨#[]⟩] := Blk.kept (b5.alloc _) hk' (by intro h; rcases h with h | h <;> omega)
  have r0n : Blk w7 (w3.heap.size) 33 [.int .i64 1, .int .i64 1, .int .i64 (-1), .bool false, .int .i64 0, .int .i64 0, .int .i64 0, .string ⟨#[]⟩, .bool false, .int .i64 0, .int .i64 0, .int .i64 0, .string ⟨#[]⟩] := Blk.kept (r0.alloc _) hk' (by intro h; rcases h with h | h <;> omega)
  have r1n : Blk w7 (w4.heap.size) 33 [.int .i64 7, .int .i64 1, .int .i64 (-1), .bool false, .int .i64 0, .int .i64 0, .int .i64 0, .string ⟨#[]⟩, .bool false, .int .i64 0, .int .i64 0, .int .i64 0, .string ⟨#[]⟩] := Blk.kept (r1.alloc _) hk' (by intro h; rcases h with h | h <;> omega)
  have r2n : Blk w7 (w5.heap.size) 33 [.int .i64 1, .int .i64 2, .int .i64 (-1), .bool false, .int .i64 0, .int .i64 0, .int .i64 0, .string ⟨#[]⟩, .bool false, .int .i64 0, .int .i64 0, .int .i64 0, .string ⟨#[]⟩] := Blk.kept (r2.alloc _) hk' (by intro h; rcases h with h | h <;> omega)
  have r3n : Blk w7 (w6.heap.size) 33 [.int .i64 2, .int .i64 2, .int .i64 (-1), .bool false, .int .i64 0, .int .i64 0, .int .i64 0, .string ⟨#[]⟩, .bool false, .int .i64 0, .int .i64 0, .int .i64 0, .string ⟨#[]⟩] := Blk.kept (Blk.new _ _ _) hk' (by intro h; rcases h with h | h <;> omega)
  have hkn : Kept (fun _ => False) w w7 := Kept.trans (hk.alloc _) hk' (by intro x hx h; rcases h with h | h <;> omega)
  have z7 := hk'.size
  simp only [World.size_alloc] at z7
  clear hk hk' hK6 b5 lb5 r0 lr0 r1 lr1 r2 lr2
  clear c5
  have b5 := b5n; clear b5n; have lb5 := b5.lt
  have r0 := r0n; clear r0n; have lr0 := r0.lt
  have r1 := r1n; clear r1n; have lr1 := r1.lt
  have r2 := r2n; clear r2n; have lr2 := r2.lt
  have r3 := r3n; clear r3n; have lr3 := r3.lt
  have hk := hkn; clear hkn
  have c5 := b5.cell
  go_wp2_with fail
  refine (do_is (w.heap.size + 1) w.heap.size _ 33 201 1 qL _ aG okD _ (keepAt_alloc hK7 _)).mono ?_
  rintro e w8 ⟨rfl, hK8, hk'⟩
  have b5n : Blk w8 (w2.heap.size) 37 [.int .i64 8, .int .i64 0, .int .i64 0, .int .i64 0, .int .i64 0, .int .i64 0, .int .i64 0, .int .i64 0, .string ⟨#[]⟩] := Blk.kept (b5.alloc _) hk' (by intro h; rcases h with h | h <;> omega)
  have r0n : Blk w8 (w3.heap.size) 33 [.int .i64 1, .int .i64 1, .int .i64 (-1), .bool false, .int .i64 0, .int .i64 0, .int .i64 0, .string ⟨#[]⟩, .bool false, .int .i64 0, .int .i64 0, .int .i64 0, .string ⟨#[]⟩] := Blk.kept (r0.alloc _) hk' (by intro h; rcases h with h | h <;> omega)
  have r1n : Blk w8 (w4.heap.size) 33 [.int .i64 7, .int .i64 1, .int .i64 (-1), .bool false, .int .i64 0, .int .i64 0, .int .i64 0, .string ⟨#[]⟩, .bool false, .int .i64 0, .int .i64 0, .int .i64 0, .string ⟨#[]⟩] := Blk.kept (r1.alloc _) hk' (by intro h; rcases h with h | h <;> omega)
  have r2n : Blk w8 (w5.heap.size) 33 [.int .i64 1, .int .i64 2, .int .i64 (-1), .bool false, .int .i64 0, .int .i64 0, .int .i64 0, .string ⟨#[]⟩, .bool false, .int .i64 0, .int .i64 0, .int .i64 0, .string ⟨#[]⟩] := Blk.kept (r2.alloc _) hk' (by intro h; rcases h with h | h <;> omega)
  have r3n : Blk w8 (w6.heap.size) 33 [.int .i64 2, .int .i64 2, .int .i64 (-1), .bool false, .int .i64 0, .int .i64 0, .int .i64 0, .string ⟨#[]⟩, .bool false, .int .i64 0, .int .i64 0, .int .i64 0, .string ⟨#[]⟩] := Blk.kept (r3.alloc _) hk' (by intro h; rcases h with h | h <;> omega)
  have r4n : Blk w8 (w7.heap.size) 33 [.int .i64 1, .int .i64 2, .int .i64 (-1), .bool false, .int .i64 0, .int .i64 0, .int .i64 0, .string ⟨#[]⟩, .bool false, .int .i64 0, .int .i64 0, .int .i64 0, .string ⟨#[]⟩] := Blk.kept (Blk.new _ _ _) hk' (by intro h; rcases h with h | h <;> omega)
  have hkn : Kept (fun _ => False) w w8 := Kept.trans (hk.alloc _) hk' (by intro x hx h; rcases h with h | h <;> omega)
  have z8 := hk'.size
  simp only [World.size_alloc] at z8
  clear hk hk' hK7 b5 lb5 r0 lr0 r1 lr1 r2 lr2 r3 lr3
  clear c5
  have b5 := b5n; clear b5n; have lb5 := b5.lt
  have r0 := r0n; clear r0n; have lr0 := r0.lt
  have r1 := r1n; clear r1n; have lr1 := r1.lt
  have r2 := r2n; clear r2n; have lr2 := r2.lt
  have r3 := r3n; clear r3n; have lr3 := r3.lt
  have r4 := r4n; clear r4n; have lr4 := r4.lt
  have hk := hkn; clear hkn
  have c5 := b5.cell
  have c10 := r0.cell
  have c11 := r1.cell
  have c12 := r2.cell
  have c13 := r3.cell
  have c14 := r4.cell
  go_wp2
  go_ret
  exact ⟨rfl, by (repeat (first | (with_reducible (exact hk)) | (with_reducible (exact Kept.refl _ _)) | (with_reducible (refine Kept.drewN ?_ _)) | (with_reducible (refine Kept.drew ?_)) | (with_reducible (refine Kept.alloc ?_ _)) | ((with_reducible (refine Kept.cellPut ?_ ?_ _)); (focus (first | (intro _; rfl; done) | (intro _; exact .inl rfl) | (intro _; exact .inr rfl) | (intro h; exfalso; dsimp only at h; omega) | (intro h; exfalso; simp at h; omega))))))⟩
end Go.Proofs.Ytieeeijaojdbfaa
