/- The walks over Do, Lease, New. -/
import Derived.Test.YtieeeijaojdbfaaGrantC
namespace Go.Proofs.Ytieeeijaojdbfaa
open Go.RowKit

def DoPost (kb lb : Nat) (r : KeepM × SayM × Bool) (w : World) (e : Ending) (w' : World) : Prop :=
  e = .returned (.tuple #[.agg #[.int .i64 r.2.1.st, .int .i64 r.2.1.ep, .int .i64 r.2.1.ou, .bool false, .int .i64 0, .int .i64 0, .int .i64 0, .string ⟨#[]⟩, .bool false, .int .i64 0, .int .i64 0, .int .i64 0, .string ⟨#[]⟩], .bool r.2.2]) ∧ KeepAt w' kb lb r.1 ∧ Kept (fun x => x = kb ∨ x = lb) w w'

theorem after_ans {w W w3 : World} {kb lb : Nat} {k : KeepM} {cs : List Value} (hk3 : Kept (· = lb) W w3) (hK : KeepAt w kb lb k) (h0 : Kept (fun _ => False) w W) (b1 : Blk W (w.heap.size + 1) 33 cs) :
    Blk w3 kb 59 (keepCells lb k) ∧ Blk w3 (w.heap.size + 1) 33 cs ∧ Kept (· = lb) w w3 := by
  have hne := hK.kb.ne hK.lb (by decide)
  have hlt := hK.lb.lt
  exact ⟨(hK.kb.kept h0 id).kept hk3 hne, b1.kept hk3 (by omega), (h0.mono (S := (· = lb)) (fun _ _ h => h.elim)).trans hk3 (fun _ _ h => h)⟩
theorem clampT_bd (n : Int) : 0 ≤ clampT n ∧ clampT n ≤ 1099511627776 := by unfold clampT; omega


theorem doPost_same {w w' : World} {kb lb : Nat} {k : KeepM} {s : SayM} {b : Bool} (hK : KeepAt w kb lb k) (h : Kept (fun _ => False) w w') :
    DoPost kb lb (k, s, b) w (.returned (.tuple #[.agg #[.int .i64 s.st, .int .i64 s.ep, .int .i64 s.ou, .bool false, .int .i64 0, .int .i64 0, .int .i64 0, .string ⟨#[]⟩, .bool false, .int .i64 0, .int .i64 0, .int .i64 0, .string ⟨#[]⟩], .bool b])) w' := ⟨rfl, ⟨hK.kb.kept h id, hK.lb.kept h id⟩, h.mono (fun _ _ h => h.elim)⟩
theorem keepAt_same {w w' : World} {kb lb : Nat} {k : KeepM} (hK : KeepAt w kb lb k) (h : Kept (fun _ => False) w w') : KeepAt w' kb lb k := ⟨hK.kb.kept h id, hK.lb.kept h id⟩

set_option maxHeartbeats 800000 in
theorem do_no (kb lb : Nat) (k : KeepM) (now fr id : Int) (q : AskM) (w : World) (hK : KeepAt w kb lb k) (h : fr < 200 ∨ fr ≥ 202 ∨ id < 1 ∨ id > 1099511627776) :
    Calls Try.prog 11 #[.pointer (some ⟨kb, 0, none⟩), .int .i64 now, .int .i64 fr, .int .i64 id, .agg #[.int .i64 q.kind, .int .i64 q.stripe, .int .i64 q.epoch, .int .i64 q.seq, .int .i64 q.mask, .int .i64 q.node, .int .i64 q.oe, .int .i64 q.os, .string q.block]] w (DoPost kb lb (k, ⟨0, 0, 0⟩, false) w) := by
  have HK := Lib.hid hK
  clear hK
  by_cases h1 : fr < 200
  · clear h
    go_enter Try.func11, Try.ntmps11
    go_wp2
    refine bodyPost_ret (v := .tuple #[.agg #[.int .i64 0, .int .i64 0, .int .i64 0, .bool false, .int .i64 0, .int .i64 0, .int .i64 0, .string ⟨#[]⟩, .bool false, .int .i64 0, .int .i64 0, .int .i64 0, .string ⟨#[]⟩], .bool false]) (by simp [results, Try.results11, go_sem, *]) rfl ?_
    exact doPost_same HK.out (by (repeat (first | (with_reducible (exact Kept.refl _ _)) | (with_reducible (refine Kept.drewN ?_ _)) | (with_reducible (refine Kept.drew ?_)) | (with_reducible (refine Kept.alloc ?_ _)) | ((with_reducible (refine Kept.cellPut ?_ ?_ _)); (focus (first | (intro _; rfl; done) | (intro _; exact .inl rfl) | (intro _; exact .inr rfl) | (intro h; exfalso; dsimp only at h; omega) | (intro h; exfalso; simp at h; omega)))))))
  · by_cases h2 : fr ≥ 202
    · clear h
      go_enter Try.func11, Try.ntmps11
      go_wp2
      refine bodyPost_ret (v := .tuple #[.agg #[.int .i64 0, .int .i64 0, .int .i64 0, .bool false, .int .i64 0, .int .i64 0, .int .i64 0, .string ⟨#[]⟩, .bool false, .int .i64 0, .int .i64 0, .int .i64 0, .string ⟨#[]⟩], .bool false]) (by simp [results, Try.results11, go_sem, *]) rfl ?_
      exact doPost_same HK.out (by (repeat (first | (with_reducible (exact Kept.refl _ _)) | (with_reducible (refine Kept.drewN ?_ _)) | (with_reducible (refine Kept.drew ?_)) | (with_reducible (refine Kept.alloc ?_ _)) | ((with_reducible (refine Kept.cellPut ?_ ?_ _)); (focus (first | (intro _; rfl; done) | (intro _; exact .inl rfl) | (intro _; exact .inr rfl) | (intro h; exfalso; dsimp only at h; omega) | (intro h; exfalso; simp at h; omega)))))))
    · by_cases h3 : id < 1
      · clear h
        go_enter Try.func11, Try.ntmps11
        go_wp2
        refine bodyPost_ret (v := .tuple #[.agg #[.int .i64 0, .int .i64 0, .int .i64 0, .bool false, .int .i64 0, .int .i64 0, .int .i64 0, .string ⟨#[]⟩, .bool false, .int .i64 0, .int .i64 0, .int .i64 0, .string ⟨#[]⟩], .bool false]) (by simp [results, Try.results11, go_sem, *]) rfl ?_
        exact doPost_same HK.out (by (repeat (first | (with_reducible (exact Kept.refl _ _)) | (with_reducible (refine Kept.drewN ?_ _)) | (with_reducible (refine Kept.drew ?_)) | (with_reducible (refine Kept.alloc ?_ _)) | ((with_reducible (refine Kept.cellPut ?_ ?_ _)); (focus (first | (intro _; rfl; done) | (intro _; exact .inl rfl) | (intro _; exact .inr rfl) | (intro h; exfalso; dsimp only at h; omega) | (intro h; exfalso; simp at h; omega)))))))
      · have h4 : id > 1099511627776 := by omega
        clear h
        go_enter Try.func11, Try.ntmps11
        go_wp2
        refine bodyPost_ret (v := .tuple #[.agg #[.int .i64 0, .int .i64 0, .int .i64 0, .bool false, .int .i64 0, .int .i64 0, .int .i64 0, .string ⟨#[]⟩, .bool false, .int .i64 0, .int .i64 0, .int .i64 0, .string ⟨#[]⟩], .bool false]) (by simp [results, Try.results11, go_sem, *]) rfl ?_
        exact doPost_same HK.out (by (repeat (first | (with_reducible (exact Kept.refl _ _)) | (with_reducible (refine Kept.drewN ?_ _)) | (with_reducible (refine Kept.drew ?_)) | (with_reducible (refine Kept.alloc ?_ _)) | ((with_reducible (refine Kept.cellPut ?_ ?_ _)); (focus (first | (intro _; rfl; done) | (intro _; exact .inl rfl) | (intro _; exact .inr rfl) | (intro h; exfalso; dsimp only at h; omega) | (intro h; exfalso; simp at h; omega)))))))

set_option maxHeartbeats 800000 in
theorem do_old0 (kb lb : Nat) (k : KeepM) (now id : Int) (q : AskM) (w : World) (hK : KeepAt w kb lb k) (h1 : 1 ≤ id) (h2 : id ≤ 1099511627776) (h : id < k.i0) :
    Calls Try.prog 11 #[.pointer (some ⟨kb, 0, none⟩), .int .i64 now, .int .i64 200, .int .i64 id, .agg #[.int .i64 q.kind, .int .i64 q.stripe, .int .i64 q.epoch, .int .i64 q.seq, .int .i64 q.mask, .int .i64 q.node, .int .i64 q.oe, .int .i64 q.os, .string q.block]] w (DoPost kb lb (k, ⟨0, 0, 0⟩, false) w) := by
  have HK := Lib.hid hK
  have hlt := hK.kb.lt
  have c0 : ∀ i, w.cell? ⟨kb, i, none⟩ = [.slice (some ⟨lb, 0, none⟩) k.ls.length k.ls.length, .int .i64 k.i0, .int .i64 k.s0.st, .int .i64 k.s0.ep, .int .i64 k.s0.ou, .bool false, .int .i64 0, .int .i64 0, .int .i64 0, .string ⟨#[]⟩, .bool false, .int .i64 0, .int .i64 0, .int .i64 0, .string ⟨#[]⟩, .int .i64 k.i1, .int .i64 k.s1.st, .int .i64 k.s1.ep, .int .i64 k.s1.ou, .bool false, .int .i64 0, .int .i64 0, .int .i64 0, .string ⟨#[]⟩, .bool false, .int .i64 0, .int .i64 0, .int .i64 0, .string ⟨#[]⟩][i]? := hK.kb.cell
  clear hK
  go_enter Try.func11, Try.ntmps11
  go_wp2
  refine bodyPost_ret (v := .tuple #[.agg #[.int .i64 0, .int .i64 0, .int .i64 0, .bool false, .int .i64 0, .int .i64 0, .int .i64 0, .string ⟨#[]⟩, .bool false, .int .i64 0, .int .i64 0, .int .i64 0, .string ⟨#[]⟩], .bool false]) (by simp [results, Try.results11, go_sem, *]) rfl ?_
  exact doPost_same HK.out (by (repeat (first | (with_reducible (exact Kept.refl _ _)) | (with_reducible (refine Kept.drewN ?_ _)) | (with_reducible (refine Kept.drew ?_)) | (with_reducible (refine Kept.alloc ?_ _)) | ((with_reducible (refine Kept.cellPut ?_ ?_ _)); (focus (first | (intro _; rfl; done) | (intro _; exact .inl rfl) | (intro _; exact .inr rfl) | (intro h; exfalso; dsimp only at h; omega) | (intro h; exfalso; simp at h; omega)))))))

set_option maxHeartbeats 800000 in
theorem do_same0 (kb lb : Nat) (k : KeepM) (now : Int) (q : AskM) (w : World) (hK : KeepAt w kb lb k) (h1 : 1 ≤ k.i0) (h2 : k.i0 ≤ 1099511627776) :
    Calls Try.prog 11 #[.pointer (some ⟨kb, 0, none⟩), .int .i64 now, .int .i64 200, .int .i64 k.i0, .agg #[.int .i64 q.kind, .int .i64 q.stripe, .int .i64 q.epoch, .int .i64 q.seq, .int .i64 q.mask, .int .i64 q.node, .int .i64 q.oe, .int .i64 q.os, .string q.block]] w (DoPost kb lb (k, k.s0, true) w) := by
  have HK := Lib.hid hK
  have hlt := hK.kb.lt
  have c0 : ∀ i, w.cell? ⟨kb, i, none⟩ = [.slice (some ⟨lb, 0, none⟩) k.ls.length k.ls.length, .int .i64 k.i0, .int .i64 k.s0.st, .int .i64 k.s0.ep, .int .i64 k.s0.ou, .bool false, .int .i64 0, .int .i64 0, .int .i64 0, .string ⟨#[]⟩, .bool false, .int .i64 0, .int .i64 0, .int .i64 0, .string ⟨#[]⟩, .int .i64 k.i1, .int .i64 k.s1.st, .int .i64 k.s1.ep, .int .i64 k.s1.ou, .bool false, .int .i64 0, .int .i64 0, .int .i64 0, .string ⟨#[]⟩, .bool false, .int .i64 0, .int .i64 0, .int .i64 0, .string ⟨#[]⟩][i]? := hK.kb.cell
  clear hK
  go_enter Try.func11, Try.ntmps11
  go_wp2
  refine bodyPost_ret (v := .tuple #[.agg #[.int .i64 k.s0.st, .int .i64 k.s0.ep, .int .i64 k.s0.ou, .bool false, .int .i64 0, .int .i64 0, .int .i64 0, .string ⟨#[]⟩, .bool false, .int .i64 0, .int .i64 0, .int .i64 0, .string ⟨#[]⟩], .bool true]) (by simp [results, Try.results11, go_sem, *]) rfl ?_
  exact doPost_same HK.out (by (repeat (first | (with_reducible (exact Kept.refl _ _)) | (with_reducible (refine Kept.drewN ?_ _)) | (with_reducible (refine Kept.drew ?_)) | (with_reducible (refine Kept.alloc ?_ _)) | ((with_reducible (refine Kept.cellPut ?_ ?_ _)); (focus (first | (intro _; rfl; done) | (intro _; exact .inl rfl) | (intro _; exact .inr rfl) | (intro h; exfalso; dsimp only at h; omega) | (intro h; exfalso; simp at h; omega)))))))

set_option maxHeartbeats 1600000 in
theorem do_new0 (kb lb : Nat) (k : KeepM) (now id : Int) (q : AskM) (w : World) (hK : KeepAt w kb lb k) (ho : KeepOk k) (h1 : 1 ≤ id) (h2 : id ≤ 1099511627776) (h : k.i0 < id) :
    Calls Try.prog 11 #[.pointer (some ⟨kb, 0, none⟩), .int .i64 now, .int .i64 200, .int .i64 id, .agg #[.int .i64 q.kind, .int .i64 q.stripe, .int .i64 q.epoch, .int .i64 q.seq, .int .i64 q.mask, .int .i64 q.node, .int .i64 q.oe, .int .i64 q.os, .string q.block]] w
      (DoPost kb lb ({ k with ls := (ansF k.ls (clampT now) 200 q).2, i0 := id, s0 := (ansF k.ls (clampT now) 200 q).1 }, (ansF k.ls (clampT now) 200 q).1, true) w) := by
  have HO := Lib.hid ho
  have hlt := hK.kb.lt
  have hlt2 := hK.lb.lt
  have hne := hK.kb.ne hK.lb (by decide)
  have c0 : ∀ i, w.cell? ⟨kb, i, none⟩ = [.slice (some ⟨lb, 0, none⟩) k.ls.length k.ls.length, .int .i64 k.i0, .int .i64 k.s0.st, .int .i64 k.s0.ep, .int .i64 k.s0.ou, .bool false, .int .i64 0, .int .i64 0, .int .i64 0, .string ⟨#[]⟩, .bool false, .int .i64 0, .int .i64 0, .int .i64 0, .string ⟨#[]⟩, .int .i64 k.i1, .int .i64 k.s1.st, .int .i64 k.s1.ep, .int .i64 k.s1.ou, .bool false, .int .i64 0, .int .i64 0, .int .i64 0, .string ⟨#[]⟩, .bool false, .int .i64 0, .int .i64 0, .int .i64 0, .string ⟨#[]⟩][i]? := hK.kb.cell
  obtain ⟨R, hR⟩ : ∃ R, R = ansF k.ls (clampT now) 200 q := ⟨_, rfl⟩
  obtain ⟨c, hc, hcase⟩ : ∃ c, clampT now = c ∧ ((now < 0 ∧ c = 0) ∨ (0 ≤ now ∧ now ≤ 1099511627776 ∧ c = now) ∨ (1099511627776 < now ∧ c = 1099511627776)) := ⟨_, rfl, by unfold clampT; omega⟩
  have hcb := clampT_bd now
  rw [hc] at hcb
  have HC := Lib.hid (fun (W : World) (hB : KeepAt W kb lb k) => ((hc ▸ hR) ▸ answer_any kb lb k.ls _ c 200 q W hB.kb hB.lb ho.n8 ho.ep hcb.1 hcb.2 : Calls Try.prog 15 #[.pointer (some ⟨kb, 0, none⟩), .int .i64 c, .int .i64 200, .agg #[.int .i64 q.kind, .int .i64 q.stripe, .int .i64 q.epoch, .int .i64 q.seq, .int .i64 q.mask, .int .i64 q.node, .int .i64 q.oe, .int .i64 q.os, .string q.block]] W (AnsL lb R W)))
  rw [← hR]
  have hR2 : R.2.length = k.ls.length := by rw [hR]; exact length_ansF _ _ _ _
  clear hR ho hc hcb
  rcases hcase with ⟨m1, rfl⟩ | ⟨m1, m2, rfl⟩ | ⟨m1, rfl⟩
  all_goals
    go_enter Try.func11, Try.ntmps11
    go_wp2_with fail
    refine (HC.out _ (keepAt_same hK (by (repeat (first | (with_reducible (exact Kept.refl _ _)) | (with_reducible (refine Kept.drewN ?_ _)) | (with_reducible (refine Kept.drew ?_)) | (with_reducible (refine Kept.alloc ?_ _)) | ((with_reducible (refine Kept.cellPut ?_ ?_ _)); (focus (first | (intro _; rfl; done) | (intro _; exact .inl rfl) | (intro _; exact .inr rfl) | (intro h; exfalso; dsimp only at h; omega) | (intro h; exfalso; simp at h; omega))))))))).mono ?_
    rintro e w3 ⟨rfl, hB3, hk3⟩
    obtain ⟨k3, b3, hk⟩ := after_ans (cs := [.int .i64 0, .int .i64 0, .int .i64 0, .bool false, .int .i64 0, .int .i64 0, .int .i64 0, .string ⟨#[]⟩, .bool false, .int .i64 0, .int .i64 0, .int .i64 0, .string ⟨#[]⟩]) hk3 hK (by (repeat (first | (with_reducible (exact Kept.refl _ _)) | (with_reducible (refine Kept.drewN ?_ _)) | (with_reducible (refine Kept.drew ?_)) | (with_reducible (refine Kept.alloc ?_ _)) | ((with_reducible (refine Kept.cellPut ?_ ?_ _)); (focus (first | (intro _; rfl; done) | (intro _; exact .inl rfl) | (intro _; exact .inr rfl) | (intro h; exfalso; dsimp only at h; omega) | (intro h; exfalso; simp at h; omega))))))) (by (repeat (first | (with_reducible exact hK) | (with_reducible exact Blk.new _ _ _) | ((with_reducible refine Blk.new_ ?_); (focus (simp; done))) | (with_reducible refine Blk.drewN ?_ _) | (with_reducible refine Blk.drew ?_) | (with_reducible refine Blk.alloc ?_ _) | (with_reducible refine Blk.put ?_ _ _) | ((with_reducible refine Blk.farR ?_ ?_ _); (focus (first | (simp; done) | (simp; omega)))))))
    have c3 : ∀ i, w3.cell? ⟨kb, i, none⟩ = [.slice (some ⟨lb, 0, none⟩) k.ls.length k.ls.length, .int .i64 k.i0, .int .i64 k.s0.st, .int .i64 k.s0.ep, .int .i64 k.s0.ou, .bool false, .int .i64 0, .int .i64 0, .int .i64 0, .string ⟨#[]⟩, .bool false, .int .i64 0, .int .i64 0, .int .i64 0, .string ⟨#[]⟩, .int .i64 k.i1, .int .i64 k.s1.st, .int .i64 k.s1.ep, .int .i64 k.s1.ou, .bool false, .int .i64 0, .int .i64 0, .int .i64 0, .string ⟨#[]⟩, .bool false, .int .i64 0, .int .i64 0, .int .i64 0, .string ⟨#[]⟩][i]? := k3.cell
    have f3 := k3.frozen
    have d3 := b3.cell
    have e3 := b3.frozen
    have hlt3 := k3.lt
    have hlt4 := b3.lt
    have n1 : w.heap.size + 1 ≠ kb := by omega
    have n2 : kb ≠ w.heap.size + 1 := by omega
    have hk' := hk.mono (S := fun x => x = kb ∨ x = lb) (fun _ _ h => .inr h)
    clear c0 hk3
    go_wp2
    refine bodyPost_ret (v := .tuple #[.agg #[.int .i64 R.1.st, .int .i64 R.1.ep, .int .i64 R.1.ou, .bool false, .int .i64 0, .int .i64 0, .int .i64 0, .string ⟨#[]⟩, .bool false, .int .i64 0, .int .i64 0, .int .i64 0, .string ⟨#[]⟩], .bool true]) (by simp [results, Try.results11, go_sem, *]) rfl ?_
    refine ⟨rfl, ⟨?_, by (repeat (first | (with_reducible exact hB3) | (with_reducible exact Blk.new _ _ _) | ((with_reducible refine Blk.new_ ?_); (focus (simp; done))) | (with_reducible refine Blk.drewN ?_ _) | (with_reducible refine Blk.drew ?_) | (with_reducible refine Blk.alloc ?_ _) | (with_reducible refine Blk.put ?_ _ _) | ((with_reducible refine Blk.farR ?_ ?_ _); (focus (first | (simp; done) | (simp; omega))))))⟩, by (repeat (first | (with_reducible (exact hk')) | (with_reducible (exact Kept.refl _ _)) | (with_reducible (refine Kept.drewN ?_ _)) | (with_reducible (refine Kept.drew ?_)) | (with_reducible (refine Kept.alloc ?_ _)) | ((with_reducible (refine Kept.cellPut ?_ ?_ _)); (focus (first | (intro _; rfl; done) | (intro _; exact .inl rfl) | (intro _; exact .inr rfl) | (intro h; exfalso; dsimp only at h; omega) | (intro h; exfalso; simp at h; omega))))))⟩
    exact (((((((((((((((((((((((((((k3.put 1 _).put 2 _).put 3 _).put 4 _).put 5 _).put 6 _).put 7 _).put 8 _).put 9 _).put 10 _).put 11 _).put 12 _).put 13 _).put 14 _).far n1 _).far n1 _).far n1 _).far n1 _).far n1 _).far n1 _).far n1 _).far n1 _).far n1 _).far n1 _).far n1 _).far n1 _).far n1 _).eq_ (by simp [keepCells, SayM.cells, hR2])


set_option maxHeartbeats 800000 in
theorem do_old1 (kb lb : Nat) (k : KeepM) (now id : Int) (q : AskM) (w : World) (hK : KeepAt w kb lb k) (h1 : 1 ≤ id) (h2 : id ≤ 1099511627776) (h : id < k.i1) :
    Calls Try.prog 11 #[.pointer (some ⟨kb, 0, none⟩), .int .i64 now, .int .i64 201, .int .i64 id, .agg #[.int .i64 q.kind, .int .i64 q.stripe, .int .i64 q.epoch, .int .i64 q.seq, .int .i64 q.mask, .int .i64 q.node, .int .i64 q.oe, .int .i64 q.os, .string q.block]] w (DoPost kb lb (k, ⟨0, 0, 0⟩, false) w) := by
  have HK := Lib.hid hK
  have hlt := hK.kb.lt
  have c0 : ∀ i, w.cell? ⟨kb, i, none⟩ = [.slice (some ⟨lb, 0, none⟩) k.ls.length k.ls.length, .int .i64 k.i0, .int .i64 k.s0.st, .int .i64 k.s0.ep, .int .i64 k.s0.ou, .bool false, .int .i64 0, .int .i64 0, .int .i64 0, .string ⟨#[]⟩, .bool false, .int .i64 0, .int .i64 0, .int .i64 0, .string ⟨#[]⟩, .int .i64 k.i1, .int .i64 k.s1.st, .int .i64 k.s1.ep, .int .i64 k.s1.ou, .bool false, .int .i64 0, .int .i64 0, .int .i64 0, .string ⟨#[]⟩, .bool false, .int .i64 0, .int .i64 0, .int .i64 0, .string ⟨#[]⟩][i]? := hK.kb.cell
  clear hK
  go_enter Try.func11, Try.ntmps11
  go_wp2
  refine bodyPost_ret (v := .tuple #[.agg #[.int .i64 0, .int .i64 0, .int .i64 0, .bool false, .int .i64 0, .int .i64 0, .int .i64 0, .string ⟨#[]⟩, .bool false, .int .i64 0, .int .i64 0, .int .i64 0, .string ⟨#[]⟩], .bool false]) (by simp [results, Try.results11, go_sem, *]) rfl ?_
  exact doPost_same HK.out (by (repeat (first | (with_reducible (exact Kept.refl _ _)) | (with_reducible (refine Kept.drewN ?_ _)) | (with_reducible (refine Kept.drew ?_)) | (with_reducible (refine Kept.alloc ?_ _)) | ((with_reducible (refine Kept.cellPut ?_ ?_ _)); (focus (first | (intro _; rfl; done) | (intro _; exact .inl rfl) | (intro _; exact .inr rfl) | (intro h; exfalso; dsimp only at h; omega) | (intro h; exfalso; simp at h; omega)))))))

set_option maxHeartbeats 800000 in
theorem do_same1 (kb lb : Nat) (k : KeepM) (now : Int) (q : AskM) (w : World) (hK : KeepAt w kb lb k) (h1 : 1 ≤ k.i1) (h2 : k.i1 ≤ 1099511627776) :
    Calls Try.prog 11 #[.pointer (some ⟨kb, 0, none⟩), .int .i64 now, .int .i64 201, .int .i64 k.i1, .agg #[.int .i64 q.kind, .int .i64 q.stripe, .int .i64 q.epoch, .int .i64 q.seq, .int .i64 q.mask, .int .i64 q.node, .int .i64 q.oe, .int .i64 q.os, .string q.block]] w (DoPost kb lb (k, k.s1, true) w) := by
  have HK := Lib.hid hK
  have hlt := hK.kb.lt
  have c0 : ∀ i, w.cell? ⟨kb, i, none⟩ = [.slice (some ⟨lb, 0, none⟩) k.ls.length k.ls.length, .int .i64 k.i0, .int .i64 k.s0.st, .int .i64 k.s0.ep, .int .i64 k.s0.ou, .bool false, .int .i64 0, .int .i64 0, .int .i64 0, .string ⟨#[]⟩, .bool false, .int .i64 0, .int .i64 0, .int .i64 0, .string ⟨#[]⟩, .int .i64 k.i1, .int .i64 k.s1.st, .int .i64 k.s1.ep, .int .i64 k.s1.ou, .bool false, .int .i64 0, .int .i64 0, .int .i64 0, .string ⟨#[]⟩, .bool false, .int .i64 0, .int .i64 0, .int .i64 0, .string ⟨#[]⟩][i]? := hK.kb.cell
  clear hK
  go_enter Try.func11, Try.ntmps11
  go_wp2
  refine bodyPost_ret (v := .tuple #[.agg #[.int .i64 k.s1.st, .int .i64 k.s1.ep, .int .i64 k.s1.ou, .bool false, .int .i64 0, .int .i64 0, .int .i64 0, .string ⟨#[]⟩, .bool false, .int .i64 0, .int .i64 0, .int .i64 0, .string ⟨#[]⟩], .bool true]) (by simp [results, Try.results11, go_sem, *]) rfl ?_
  exact doPost_same HK.out (by (repeat (first | (with_reducible (exact Kept.refl _ _)) | (with_reducible (refine Kept.drewN ?_ _)) | (with_reducible (refine Kept.drew ?_)) | (with_reducible (refine Kept.alloc ?_ _)) | ((with_reducible (refine Kept.cellPut ?_ ?_ _)); (focus (first | (intro _; rfl; done) | (intro _; exact .inl rfl) | (intro _; exact .inr rfl) | (intro h; exfalso; dsimp only at h; omega) | (intro h; exfalso; simp at h; omega)))))))

set_option maxHeartbeats 1600000 in
theorem do_new1 (kb lb : Nat) (k : KeepM) (now id : Int) (q : AskM) (w : World) (hK : KeepAt w kb lb k) (ho : KeepOk k) (h1 : 1 ≤ id) (h2 : id ≤ 1099511627776) (h : k.i1 < id) :
    Calls Try.prog 11 #[.pointer (some ⟨kb, 0, none⟩), .int .i64 now, .int .i64 201, .int .i64 id, .agg #[.int .i64 q.kind, .int .i64 q.stripe, .int .i64 q.epoch, .int .i64 q.seq, .int .i64 q.mask, .int .i64 q.node, .int .i64 q.oe, .int .i64 q.os, .string q.block]] w
      (DoPost kb lb ({ k with ls := (ansF k.ls (clampT now) 201 q).2, i1 := id, s1 := (ansF k.ls (clampT now) 201 q).1 }, (ansF k.ls (clampT now) 201 q).1, true) w) := by
  have HO := Lib.hid ho
  have hlt := hK.kb.lt
  have hlt2 := hK.lb.lt
  have hne := hK.kb.ne hK.lb (by decide)
  have c0 : ∀ i, w.cell? ⟨kb, i, none⟩ = [.slice (some ⟨lb, 0, none⟩) k.ls.length k.ls.length, .int .i64 k.i0, .int .i64 k.s0.st, .int .i64 k.s0.ep, .int .i64 k.s0.ou, .bool false, .int .i64 0, .int .i64 0, .int .i64 0, .string ⟨#[]⟩, .bool false, .int .i64 0, .int .i64 0, .int .i64 0, .string ⟨#[]⟩, .int .i64 k.i1, .int .i64 k.s1.st, .int .i64 k.s1.ep, .int .i64 k.s1.ou, .bool false, .int .i64 0, .int .i64 0, .int .i64 0, .string ⟨#[]⟩, .bool false, .int .i64 0, .int .i64 0, .int .i64 0, .string ⟨#[]⟩][i]? := hK.kb.cell
  obtain ⟨R, hR⟩ : ∃ R, R = ansF k.ls (clampT now) 201 q := ⟨_, rfl⟩
  obtain ⟨c, hc, hcase⟩ : ∃ c, clampT now = c ∧ ((now < 0 ∧ c = 0) ∨ (0 ≤ now ∧ now ≤ 1099511627776 ∧ c = now) ∨ (1099511627776 < now ∧ c = 1099511627776)) := ⟨_, rfl, by unfold clampT; omega⟩
  have hcb := clampT_bd now
  rw [hc] at hcb
  have HC := Lib.hid (fun (W : World) (hB : KeepAt W kb lb k) => ((hc ▸ hR) ▸ answer_any kb lb k.ls _ c 201 q W hB.kb hB.lb ho.n8 ho.ep hcb.1 hcb.2 : Calls Try.prog 15 #[.pointer (some ⟨kb, 0, none⟩), .int .i64 c, .int .i64 201, .agg #[.int .i64 q.kind, .int .i64 q.stripe, .int .i64 q.epoch, .int .i64 q.seq, .int .i64 q.mask, .int .i64 q.node, .int .i64 q.oe, .int .i64 q.os, .string q.block]] W (AnsL lb R W)))
  rw [← hR]
  have hR2 : R.2.length = k.ls.length := by rw [hR]; exact length_ansF _ _ _ _
  clear hR ho hc hcb
  rcases hcase with ⟨m1, rfl⟩ | ⟨m1, m2, rfl⟩ | ⟨m1, rfl⟩
  all_goals
    go_enter Try.func11, Try.ntmps11
    go_wp2_with fail
    refine (HC.out _ (keepAt_same hK (by (repeat (first | (with_reducible (exact Kept.refl _ _)) | (with_reducible (refine Kept.drewN ?_ _)) | (with_reducible (refine Kept.drew ?_)) | (with_reducible (refine Kept.alloc ?_ _)) | ((with_reducible (refine Kept.cellPut ?_ ?_ _)); (focus (first | (intro _; rfl; done) | (intro _; exact .inl rfl) | (intro _; exact .inr rfl) | (intro h; exfalso; dsimp only at h; omega) | (intro h; exfalso; simp at h; omega))))))))).mono ?_
    rintro e w3 ⟨rfl, hB3, hk3⟩
    obtain ⟨k3, b3, hk⟩ := after_ans (cs := [.int .i64 0, .int .i64 0, .int .i64 0, .bool false, .int .i64 0, .int .i64 0, .int .i64 0, .string ⟨#[]⟩, .bool false, .int .i64 0, .int .i64 0, .int .i64 0, .string ⟨#[]⟩]) hk3 hK (by (repeat (first | (with_reducible (exact Kept.refl _ _)) | (with_reducible (refine Kept.drewN ?_ _)) | (with_reducible (refine Kept.drew ?_)) | (with_reducible (refine Kept.alloc ?_ _)) | ((with_reducible (refine Kept.cellPut ?_ ?_ _)); (focus (first | (intro _; rfl; done) | (intro _; exact .inl rfl) | (intro _; exact .inr rfl) | (intro h; exfalso; dsimp only at h; omega) | (intro h; exfalso; simp at h; omega))))))) (by (repeat (first | (with_reducible exact hK) | (with_reducible exact Blk.new _ _ _) | ((with_reducible refine Blk.new_ ?_); (focus (simp; done))) | (with_reducible refine Blk.drewN ?_ _) | (with_reducible refine Blk.drew ?_) | (with_reducible refine Blk.alloc ?_ _) | (with_reducible refine Blk.put ?_ _ _) | ((with_reducible refine Blk.farR ?_ ?_ _); (focus (first | (simp; done) | (simp; omega)))))))
    have c3 : ∀ i, w3.cell? ⟨kb, i, none⟩ = [.slice (some ⟨lb, 0, none⟩) k.ls.length k.ls.length, .int .i64 k.i0, .int .i64 k.s0.st, .int .i64 k.s0.ep, .int .i64 k.s0.ou, .bool false, .int .i64 0, .int .i64 0, .int .i64 0, .string ⟨#[]⟩, .bool false, .int .i64 0, .int .i64 0, .int .i64 0, .string ⟨#[]⟩, .int .i64 k.i1, .int .i64 k.s1.st, .int .i64 k.s1.ep, .int .i64 k.s1.ou, .bool false, .int .i64 0, .int .i64 0, .int .i64 0, .string ⟨#[]⟩, .bool false, .int .i64 0, .int .i64 0, .int .i64 0, .string ⟨#[]⟩][i]? := k3.cell
    have f3 := k3.frozen
    have d3 := b3.cell
    have e3 := b3.frozen
    have hlt3 := k3.lt
    have hlt4 := b3.lt
    have n1 : w.heap.size + 1 ≠ kb := by omega
    have n2 : kb ≠ w.heap.size + 1 := by omega
    have hk' := hk.mono (S := fun x => x = kb ∨ x = lb) (fun _ _ h => .inr h)
    clear c0 hk3
    go_wp2
    refine bodyPost_ret (v := .tuple #[.agg #[.int .i64 R.1.st, .int .i64 R.1.ep, .int .i64 R.1.ou, .bool false, .int .i64 0, .int .i64 0, .int .i64 0, .string ⟨#[]⟩, .bool false, .int .i64 0, .int .i64 0, .int .i64 0, .string ⟨#[]⟩], .bool true]) (by simp [results, Try.results11, go_sem, *]) rfl ?_
    refine ⟨rfl, ⟨?_, by (repeat (first | (with_reducible exact hB3) | (with_reducible exact Blk.new _ _ _) | ((with_reducible refine Blk.new_ ?_); (focus (simp; done))) | (with_reducible refine Blk.drewN ?_ _) | (with_reducible refine Blk.drew ?_) | (with_reducible refine Blk.alloc ?_ _) | (with_reducible refine Blk.put ?_ _ _) | ((with_reducible refine Blk.farR ?_ ?_ _); (focus (first | (simp; done) | (simp; omega))))))⟩, by (repeat (first | (with_reducible (exact hk')) | (with_reducible (exact Kept.refl _ _)) | (with_reducible (refine Kept.drewN ?_ _)) | (with_reducible (refine Kept.drew ?_)) | (with_reducible (refine Kept.alloc ?_ _)) | ((with_reducible (refine Kept.cellPut ?_ ?_ _)); (focus (first | (intro _; rfl; done) | (intro _; exact .inl rfl) | (intro _; exact .inr rfl) | (intro h; exfalso; dsimp only at h; omega) | (intro h; exfalso; simp at h; omega))))))⟩
    exact (((((((((((((((((((((((((((k3.put 15 _).put 16 _).put 17 _).put 18 _).put 19 _).put 20 _).put 21 _).put 22 _).put 23 _).put 24 _).put 25 _).put 26 _).put 27 _).put 28 _).far n1 _).far n1 _).far n1 _).far n1 _).far n1 _).far n1 _).far n1 _).far n1 _).far n1 _).far n1 _).far n1 _).far n1 _).far n1 _).eq_ (by simp [keepCells, SayM.cells, hR2])

theorem do_any (kb lb : Nat) (k : KeepM) (now fr id : Int) (q : AskM) (w : World) (hK : KeepAt w kb lb k) (ho : KeepOk k) :
    Calls Try.prog 11 #[.pointer (some ⟨kb, 0, none⟩), .int .i64 now, .int .i64 fr, .int .i64 id, .agg #[.int .i64 q.kind, .int .i64 q.stripe, .int .i64 q.epoch, .int .i64 q.seq, .int .i64 q.mask, .int .i64 q.node, .int .i64 q.oe, .int .i64 q.os, .string q.block]] w (DoPost kb lb (doF k now fr id q) w) := by
  unfold doF
  split
  · rename_i h; exact do_no kb lb k now fr id q w hK h
  · rename_i h
    split
    · rename_i h0
      subst h0
      split
      · exact do_old0 kb lb k now id q w hK (by omega) (by omega) (by assumption)
      · split
        · exact do_new0 kb lb k now id q w hK ho (by omega) (by omega) (by assumption)
        · have e : id = k.i0 := by omega
          subst e
          exact do_same0 kb lb k now q w hK (by omega) (by omega)
    · have h0 : fr = 201 := by omega
      subst h0
      split
      · exact do_old1 kb lb k now id q w hK (by omega) (by omega) (by assumption)
      · split
        · exact do_new1 kb lb k now id q w hK ho (by omega) (by omega) (by assumption)
        · have e : id = k.i1 := by omega
          subst e
          exact do_same1 kb lb k now q w hK (by omega) (by omega)
end Go.Proofs.Ytieeeijaojdbfaa
