/- The walks over answer and Do. -/
import Derived.Test.YtieeeijaojdbfaaRight
import Derived.Test.YtieeeijaojdbfaaExt
namespace Go.Proofs.Ytieeeijaojdbfaa
open Go.RowKit

def keepCells (lb : Nat) (k : KeepM) : List Value :=
  [.slice (some ⟨lb, 0, none⟩) k.ls.length k.ls.length, .int .i64 k.i0] ++ k.s0.cells ++ [.int .i64 k.i1] ++ k.s1.cells

structure KeepAt (w : World) (kb lb : Nat) (k : KeepM) : Prop where
  kb : Blk w kb 59 (keepCells lb k)
  lb : Blk w lb 45 (leaseCells k.ls)

structure KeepOk (k : KeepM) : Prop where
  n1 : 1 ≤ k.ls.length
  n8 : k.ls.length ≤ 8
  ep : ∀ l ∈ k.ls, 0 ≤ l.ep ∧ l.ep ≤ 16777215

/-- what answer has done -/
def AnsL (lb : Nat) (r : SayM × List LeaseM) (w : World) (e : Ending) (w' : World) : Prop :=
  e = .returned (.agg #[.int .i64 r.1.st, .int .i64 r.1.ep, .int .i64 r.1.ou, .bool false, .int .i64 0, .int .i64 0, .int .i64 0, .string ⟨#[]⟩, .bool false, .int .i64 0, .int .i64 0, .int .i64 0, .string ⟨#[]⟩]) ∧ Blk w' lb 45 (leaseCells r.2) ∧ Kept (· = lb) w w'

set_option maxHeartbeats 400000 in
theorem answer_wrong (kb lb : Nat) (ls : List LeaseM) (kr : List Value) (now fr : Int) (q : AskM) (w : World) (hK : Blk w kb 59 (.slice (some ⟨lb, 0, none⟩) ls.length ls.length :: kr))
    (hL : Blk w lb 45 (leaseCells ls)) (hr : rightAsk q = false) :
    Calls Try.prog 15 #[.pointer (some ⟨kb, 0, none⟩), .int .i64 now, .int .i64 fr, .agg #[.int .i64 q.kind, .int .i64 q.stripe, .int .i64 q.epoch, .int .i64 q.seq, .int .i64 q.mask, .int .i64 q.node, .int .i64 q.oe, .int .i64 q.os, .string q.block]] w (AnsL lb (badS, ls) w) := by
  have HR := Lib.hid hr
  clear hr
  go_enter Try.func15, Try.ntmps15
  go_wp2_with fail
  refine seal_ (fun W => Kept (fun _ => False) w W ∧ Blk W w.heap.size 37 [.int .i64 q.kind, .int .i64 q.stripe, .int .i64 q.epoch, .int .i64 q.seq, .int .i64 q.mask, .int .i64 q.node, .int .i64 q.oe, .int .i64 q.os, .string q.block] ∧
    Blk W (w.heap.size + 1) 33 [.int .i64 0, .int .i64 0, .int .i64 0, .bool false, .int .i64 0, .int .i64 0, .int .i64 0, .string ⟨#[]⟩, .bool false, .int .i64 0, .int .i64 0, .int .i64 0, .string ⟨#[]⟩] ∧ Blk W (w.heap.size + 1 + 1) 33 [.int .i64 6, .int .i64 0, .int .i64 (-1), .bool false, .int .i64 0, .int .i64 0, .int .i64 0, .string ⟨#[]⟩, .bool false, .int .i64 0, .int .i64 0, .int .i64 0, .string ⟨#[]⟩]) ⟨by (repeat (first | (with_reducible (exact Kept.refl _ _)) | (with_reducible (refine Kept.drewN ?_ _)) | (with_reducible (refine Kept.drew ?_)) | (with_reducible (refine Kept.alloc ?_ _)) | ((with_reducible (refine Kept.cellPut ?_ ?_ _)); (focus (first | (intro _; rfl; done) | (intro _; exact .inl rfl) | (intro _; exact .inr rfl) | (intro h; exfalso; dsimp only at h; omega) | (intro h; exfalso; simp at h; omega)))))), by (repeat (first | (with_reducible exact hK) | (with_reducible exact Blk.new _ _ _) | ((with_reducible refine Blk.new_ ?_); (focus (simp; done))) | (with_reducible refine Blk.drewN ?_ _) | (with_reducible refine Blk.drew ?_) | (with_reducible refine Blk.alloc ?_ _) | (with_reducible refine Blk.put ?_ _ _) | ((with_reducible refine Blk.farR ?_ ?_ _); (focus (first | (simp; done) | (simp; omega)))))), by (repeat (first | (with_reducible exact hK) | (with_reducible exact Blk.new _ _ _) | ((with_reducible refine Blk.new_ ?_); (focus (simp; done))) | (with_reducible refine Blk.drewN ?_ _) | (with_reducible refine Blk.drew ?_) | (with_reducible refine Blk.alloc ?_ _) | (with_reducible refine Blk.put ?_ _ _) | ((with_reducible refine Blk.farR ?_ ?_ _); (focus (first | (simp; done) | (simp; omega)))))), by (repeat (first | (with_reducible exact hK) | (with_reducible exact Blk.new _ _ _) | ((with_reducible refine Blk.new_ ?_); (focus (simp; done))) | (with_reducible refine Blk.drewN ?_ _) | (with_reducible refine Blk.drew ?_) | (with_reducible refine Blk.alloc ?_ _) | (with_reducible refine Blk.put ?_ _ _) | ((with_reducible refine Blk.farR ?_ ?_ _); (focus (first | (simp; done) | (simp; omega))))))⟩ ?_
  rintro W ⟨hk0, b0, b1, b2⟩
  have c0 := b0.cell
  have cK := (hK.kept hk0 id).cell
  (refine wp_region_ext (by kernel_rfl) (by kernel_rfl) ?_; (repeat (go_big_quiet_step ((go_at_call 18; exact quiet_kept (right_is false q HR.out _))))); refine wpQuiet_nil ?_)
  intro w1 hk1
  have c1 := (b1.kept hk1 id).cell
  have f1 := (b1.kept hk1 id).frozen
  have c2 := (b2.kept hk1 id).cell
  clear c0 cK
  go_wp2
  have hL1 := (hL.kept hk0 id).kept hk1 id
  have hk := (hk0.trans hk1 (fun _ _ h => h)).mono (S := (· = lb)) (fun _ _ h => h.elim)
  have hlt := hL.lt
  refine bodyPost_ret (v := .agg #[.int .i64 6, .int .i64 0, .int .i64 (-1), .bool false, .int .i64 0, .int .i64 0, .int .i64 0, .string ⟨#[]⟩, .bool false, .int .i64 0, .int .i64 0, .int .i64 0, .string ⟨#[]⟩]) (by simp [results, Try.results15, go_sem, *]) rfl ?_
  exact ⟨rfl, by (repeat (first | (with_reducible exact hL1) | (with_reducible exact Blk.new _ _ _) | ((with_reducible refine Blk.new_ ?_); (focus (simp; done))) | (with_reducible refine Blk.drewN ?_ _) | (with_reducible refine Blk.drew ?_) | (with_reducible refine Blk.alloc ?_ _) | (with_reducible refine Blk.put ?_ _ _) | ((with_reducible refine Blk.farR ?_ ?_ _); (focus (first | (simp; done) | (simp; omega)))))), by (repeat (first | (with_reducible (exact hk)) | (with_reducible (exact Kept.refl _ _)) | (with_reducible (refine Kept.drewN ?_ _)) | (with_reducible (refine Kept.drew ?_)) | (with_reducible (refine Kept.alloc ?_ _)) | ((with_reducible (refine Kept.cellPut ?_ ?_ _)); (focus (first | (intro _; rfl; done) | (intro _; exact .inl rfl) | (intro _; exact .inr rfl) | (intro h; exfalso; dsimp only at h; omega) | (intro h; exfalso; simp at h; omega))))))⟩

set_option maxHeartbeats 800000 in
theorem answer_8 (kb lb i : Nat) (ls : List LeaseM) (l : LeaseM) (kr : List Value) (now fr : Int) (q : AskM) (w : World) (hK : Blk w kb 59 (.slice (some ⟨lb, 0, none⟩) ls.length ls.length :: kr))
    (hL : Blk w lb 45 (leaseCells ls)) (hr : rightAsk q = true) (hs : q.stripe = i) (hl : ls[i]? = some l) (_hn8 : ls.length ≤ 8) (hk : q.kind = 8)
    (hb1 : 0 ≤ l.ep) (hb2 : l.ep ≤ 16777215) (hn : 0 ≤ now) (hn2 : now ≤ 1099511627776) :
    Calls Try.prog 15 #[.pointer (some ⟨kb, 0, none⟩), .int .i64 now, .int .i64 fr, .agg #[.int .i64 q.kind, .int .i64 q.stripe, .int .i64 q.epoch, .int .i64 q.seq, .int .i64 q.mask, .int .i64 q.node, .int .i64 q.oe, .int .i64 q.os, .string q.block]] w (AnsL lb ((ans1 l now fr q).1, ls.set i (ans1 l now fr q).2) w) := by
  obtain ⟨kind, stripe, epoch, seq, mask, node, oe, os, block⟩ := q
  dsimp only at *
  subst hs hk
  have hlen := (List.getElem?_eq_some_iff.1 hl).1
  have HR := Lib.hid hr
  have HL := Lib.hid hl
  have hlt := hL.lt
  have n1 : ¬ (w.heap.size + 1 = lb) := by omega
  have n2 : ¬ (w.heap.size + 1 + 1 = lb) := by omega
  have hge : decide ((ls.length : Int) ≤ (i : Int)) = false := by simp; omega
  have g1 : (0 : Int) ≤ (i : Int) := by omega
  have g2 : (i : Int) < (ls.length : Int) := by omega
  clear hr hl
  go_enter Try.func15, Try.ntmps15
  go_wp2_with fail
  refine seal_ (fun W => Kept (fun _ => False) w W ∧ Blk W w.heap.size 37 [.int .i64 8, .int .i64 i, .int .i64 epoch, .int .i64 seq, .int .i64 mask, .int .i64 node, .int .i64 oe, .int .i64 os, .string block] ∧
    Blk W (w.heap.size + 1) 33 [.int .i64 0, .int .i64 0, .int .i64 0, .bool false, .int .i64 0, .int .i64 0, .int .i64 0, .string ⟨#[]⟩, .bool false, .int .i64 0, .int .i64 0, .int .i64 0, .string ⟨#[]⟩] ∧ Blk W (w.heap.size + 1 + 1) 33 [.int .i64 6, .int .i64 0, .int .i64 (-1), .bool false, .int .i64 0, .int .i64 0, .int .i64 0, .string ⟨#[]⟩, .bool false, .int .i64 0, .int .i64 0, .int .i64 0, .string ⟨#[]⟩]) ⟨by (repeat (first | (with_reducible (exact Kept.refl _ _)) | (with_reducible (refine Kept.drewN ?_ _)) | (with_reducible (refine Kept.drew ?_)) | (with_reducible (refine Kept.alloc ?_ _)) | ((with_reducible (refine Kept.cellPut ?_ ?_ _)); (focus (first | (intro _; rfl; done) | (intro _; exact .inl rfl) | (intro _; exact .inr rfl) | (intro h; exfalso; dsimp only at h; omega) | (intro h; exfalso; simp at h; omega)))))), by (repeat (first | (with_reducible exact hK) | (with_reducible exact Blk.new _ _ _) | ((with_reducible refine Blk.new_ ?_); (focus (simp; done))) | (with_reducible refine Blk.drewN ?_ _) | (with_reducible refine Blk.drew ?_) | (with_reducible refine Blk.alloc ?_ _) | (with_reducible refine Blk.put ?_ _ _) | ((with_reducible refine Blk.farR ?_ ?_ _); (focus (first | (simp; done) | (simp; omega)))))), by (repeat (first | (with_reducible exact hK) | (with_reducible exact Blk.new _ _ _) | ((with_reducible refine Blk.new_ ?_); (focus (simp; done))) | (with_reducible refine Blk.drewN ?_ _) | (with_reducible refine Blk.drew ?_) | (with_reducible refine Blk.alloc ?_ _) | (with_reducible refine Blk.put ?_ _ _) | ((with_reducible refine Blk.farR ?_ ?_ _); (focus (first | (simp; done) | (simp; omega)))))), by (repeat (first | (with_reducible exact hK) | (with_reducible exact Blk.new _ _ _) | ((with_reducible refine Blk.new_ ?_); (focus (simp; done))) | (with_reducible refine Blk.drewN ?_ _) | (with_reducible refine Blk.drew ?_) | (with_reducible refine Blk.alloc ?_ _) | (with_reducible refine Blk.put ?_ _ _) | ((with_reducible refine Blk.farR ?_ ?_ _); (focus (first | (simp; done) | (simp; omega))))))⟩ ?_
  rintro W ⟨hk0, b0, b1, b2⟩
  have c0 := b0.cell
  have hK1 := hK.kept hk0 id
  have hL1 := hL.kept hk0 id
  have cK := hK1.cell
  clear hK hL
  (refine wp_region_ext (by kernel_rfl) (by kernel_rfl) ?_; (repeat (go_big_quiet_step ((go_at_call 18; exact quiet_kept (right_is true ⟨8, i, epoch, seq, mask, node, oe, os, block⟩ HR.out _))))); refine wpQuiet_nil ?_)
  intro w1 hk1
  have b0' := b0.kept hk1 id
  have b1' := b1.kept hk1 id
  have b2' := b2.kept hk1 id
  have hK2 := hK1.kept hk1 id
  have hL2 := hL1.kept hk1 id
  have hk01 := hk0.trans hk1 (fun _ _ h => h)
  clear c0 cK b0 b1 b2 hK1 hL1 hk0 hk1
  have c0 := b0'.cell
  have cK := hK2.cell
  go_wp2
  (refine wp_region_ext (by kernel_rfl) (by kernel_rfl) ?_; (repeat (go_big_quiet_step ((fail)))); refine wpQuiet_nil ?_)
  intro w2 hk2
  have b0 := b0'.kept hk2 id
  have b1 := b1'.kept hk2 id
  have b2 := b2'.kept hk2 id
  have hL3 := hL2.kept hk2 id
  have hk02 := hk01.trans hk2 (fun _ _ h => h)
  clear c0 cK b0' b1' b2' hK2 hL2 hk01 hk2
  have c0 := b0.cell
  obtain ⟨R, hR⟩ : ∃ R, R = leaseF l now fr := ⟨_, rfl⟩
  have HC := Lib.hid (fun (W : World) (hB : Blk W lb 45 (leaseCells ls)) => (hR ▸ lease_any lb i ls l now fr W hB HL.out hb1 hb2 hn hn2 : Calls Try.prog 19 #[.pointer (some ⟨lb, i * 4, none⟩), .int .i64 now, .int .i64 fr] W (DidL lb i ls R W)))
  have HA := Lib.hid (show ansL l now fr ⟨8, i, epoch, seq, mask, node, oe, os, block⟩ = R by rw [hR]; simp [ansL])
  clear hR
  by_cases h6 : R.1 = 6
  · have HF := Lib.hid (show ans1 l now fr ⟨8, i, epoch, seq, mask, node, oe, os, block⟩ = (badS, R.2) by unfold ans1; rw [HA.out, if_pos h6])
    have t6 : (R.1 == 6) = true := by simpa using h6
    clear h6
    go_wp2_with (go_at_call 19; refine (HC.out _ hL3).mono ?_; rintro e w3 ⟨rfl, hB3, hk3⟩; have b1' := b1.kept hk3 n1; have b2' := b2.kept hk3 n2; have c1 := b1'.cell; have f1 := b1'.frozen; have c2 := b2'.cell)
    refine bodyPost_ret (v := .agg #[.int .i64 6, .int .i64 0, .int .i64 (-1), .bool false, .int .i64 0, .int .i64 0, .int .i64 0, .string ⟨#[]⟩, .bool false, .int .i64 0, .int .i64 0, .int .i64 0, .string ⟨#[]⟩]) (by simp [results, Try.results15, go_sem, *]) rfl ?_
    have hk := (hk02.mono (S := (· = lb)) (fun _ _ h => h.elim)).trans hk3 (fun _ _ h => h)
    rw [HF.out]
    exact ⟨rfl, by (repeat (first | (with_reducible exact hB3) | (with_reducible exact Blk.new _ _ _) | ((with_reducible refine Blk.new_ ?_); (focus (simp; done))) | (with_reducible refine Blk.drewN ?_ _) | (with_reducible refine Blk.drew ?_) | (with_reducible refine Blk.alloc ?_ _) | (with_reducible refine Blk.put ?_ _ _) | ((with_reducible refine Blk.farR ?_ ?_ _); (focus (first | (simp; done) | (simp; omega)))))), by (repeat (first | (with_reducible (exact hk)) | (with_reducible (exact Kept.refl _ _)) | (with_reducible (refine Kept.drewN ?_ _)) | (with_reducible (refine Kept.drew ?_)) | (with_reducible (refine Kept.alloc ?_ _)) | ((with_reducible (refine Kept.cellPut ?_ ?_ _)); (focus (first | (intro _; rfl; done) | (intro _; exact .inl rfl) | (intro _; exact .inr rfl) | (intro h; exfalso; dsimp only at h; omega) | (intro h; exfalso; simp at h; omega))))))⟩
  · have HF := Lib.hid (show ans1 l now fr ⟨8, i, epoch, seq, mask, node, oe, os, block⟩ = (⟨R.1, R.2.ep, R.2.ou⟩, R.2) by unfold ans1; rw [HA.out, if_neg h6])
    have t6 : (R.1 == 6) = false := by simpa using h6
    clear h6
    go_wp2_with (go_at_call 19; refine (HC.out _ hL3).mono ?_; rintro e w3 ⟨rfl, hB3, hk3⟩; have b1' := b1.kept hk3 n1; have c1 := b1'.cell; have f1 := b1'.frozen; obtain ⟨d0, d1, d2, d3⟩ := lease_cells hB3 (set_get HL.out _))
    go_region
    go_wp2
    refine bodyPost_ret (v := .agg #[.int .i64 R.1, .int .i64 R.2.ep, .int .i64 R.2.ou, .bool false, .int .i64 0, .int .i64 0, .int .i64 0, .string ⟨#[]⟩, .bool false, .int .i64 0, .int .i64 0, .int .i64 0, .string ⟨#[]⟩]) (by simp [results, Try.results15, go_sem, *]) rfl ?_
    have hk := (hk02.mono (S := (· = lb)) (fun _ _ h => h.elim)).trans hk3 (fun _ _ h => h)
    rw [HF.out]
    exact ⟨rfl, by (repeat (first | (with_reducible exact hB3) | (with_reducible exact Blk.new _ _ _) | ((with_reducible refine Blk.new_ ?_); (focus (simp; done))) | (with_reducible refine Blk.drewN ?_ _) | (with_reducible refine Blk.drew ?_) | (with_reducible refine Blk.alloc ?_ _) | (with_reducible refine Blk.put ?_ _ _) | ((with_reducible refine Blk.farR ?_ ?_ _); (focus (first | (simp; done) | (simp; omega)))))), by (repeat (first | (with_reducible (exact hk)) | (with_reducible (exact Kept.refl _ _)) | (with_reducible (refine Kept.drewN ?_ _)) | (with_reducible (refine Kept.drew ?_)) | (with_reducible (refine Kept.alloc ?_ _)) | ((with_reducible (refine Kept.cellPut ?_ ?_ _)); (focus (first | (intro _; rfl; done) | (intro _; exact .inl rfl) | (intro _; exact .inr rfl) | (intro h; exfalso; dsimp only at h; omega) | (intro h; exfalso; simp at h; omega))))))⟩


set_option maxHeartbeats 800000 in
theorem answer_9 (kb lb i : Nat) (ls : List LeaseM) (l : LeaseM) (kr : List Value) (now fr : Int) (q : AskM) (w : World) (hK : Blk w kb 59 (.slice (some ⟨lb, 0, none⟩) ls.length ls.length :: kr))
    (hL : Blk w lb 45 (leaseCells ls)) (hr : rightAsk q = true) (hs : q.stripe = i) (hl : ls[i]? = some l) (_hn8 : ls.length ≤ 8) (hk : q.kind = 9)
    (hb1 : 0 ≤ l.ep) (hb2 : l.ep ≤ 16777215) (hn : 0 ≤ now) (hn2 : now ≤ 1099511627776) :
    Calls Try.prog 15 #[.pointer (some ⟨kb, 0, none⟩), .int .i64 now, .int .i64 fr, .agg #[.int .i64 q.kind, .int .i64 q.stripe, .int .i64 q.epoch, .int .i64 q.seq, .int .i64 q.mask, .int .i64 q.node, .int .i64 q.oe, .int .i64 q.os, .string q.block]] w (AnsL lb ((ans1 l now fr q).1, ls.set i (ans1 l now fr q).2) w) := by
  obtain ⟨kind, stripe, epoch, seq, mask, node, oe, os, block⟩ := q
  dsimp only at *
  subst hs hk
  have hlen := (List.getElem?_eq_some_iff.1 hl).1
  have HR := Lib.hid hr
  have HL := Lib.hid hl
  have hlt := hL.lt
  have n1 : ¬ (w.heap.size + 1 = lb) := by omega
  have n2 : ¬ (w.heap.size + 1 + 1 = lb) := by omega
  have hge : decide ((ls.length : Int) ≤ (i : Int)) = false := by simp; omega
  have g1 : (0 : Int) ≤ (i : Int) := by omega
  have g2 : (i : Int) < (ls.length : Int) := by omega
  clear hr hl
  go_enter Try.func15, Try.ntmps15
  go_wp2_with fail
  refine seal_ (fun W => Kept (fun _ => False) w W ∧ Blk W w.heap.size 37 [.int .i64 9, .int .i64 i, .int .i64 epoch, .int .i64 seq, .int .i64 mask, .int .i64 node, .int .i64 oe, .int .i64 os, .string block] ∧
    Blk W (w.heap.size + 1) 33 [.int .i64 0, .int .i64 0, .int .i64 0, .bool false, .int .i64 0, .int .i64 0, .int .i64 0, .string ⟨#[]⟩, .bool false, .int .i64 0, .int .i64 0, .int .i64 0, .string ⟨#[]⟩] ∧ Blk W (w.heap.size + 1 + 1) 33 [.int .i64 6, .int .i64 0, .int .i64 (-1), .bool false, .int .i64 0, .int .i64 0, .int .i64 0, .string ⟨#[]⟩, .bool false, .int .i64 0, .int .i64 0, .int .i64 0, .string ⟨#[]⟩]) ⟨by (repeat (first | (with_reducible (exact Kept.refl _ _)) | (with_reducible (refine Kept.drewN ?_ _)) | (with_reducible (refine Kept.drew ?_)) | (with_reducible (refine Kept.alloc ?_ _)) | ((with_reducible (refine Kept.cellPut ?_ ?_ _)); (focus (first | (intro _; rfl; done) | (intro _; exact .inl rfl) | (intro _; exact .inr rfl) | (intro h; exfalso; dsimp only at h; omega) | (intro h; exfalso; simp at h; omega)))))), by (repeat (first | (with_reducible exact hK) | (with_reducible exact Blk.new _ _ _) | ((with_reducible refine Blk.new_ ?_); (focus (simp; done))) | (with_reducible refine Blk.drewN ?_ _) | (with_reducible refine Blk.drew ?_) | (with_reducible refine Blk.alloc ?_ _) | (with_reducible refine Blk.put ?_ _ _) | ((with_reducible refine Blk.farR ?_ ?_ _); (focus (first | (simp; done) | (simp; omega)))))), by (repeat (first | (with_reducible exact hK) | (with_reducible exact Blk.new _ _ _) | ((with_reducible refine Blk.new_ ?_); (focus (simp; done))) | (with_reducible refine Blk.drewN ?_ _) | (with_reducible refine Blk.drew ?_) | (with_reducible refine Blk.alloc ?_ _) | (with_reducible refine Blk.put ?_ _ _) | ((with_reducible refine Blk.farR ?_ ?_ _); (focus (first | (simp; done) | (simp; omega)))))), by (repeat (first | (with_reducible exact hK) | (with_reducible exact Blk.new _ _ _) | ((with_reducible refine Blk.new_ ?_); (focus (simp; done))) | (with_reducible refine Blk.drewN ?_ _) | (with_reducible refine Blk.drew ?_) | (with_reducible refine Blk.alloc ?_ _) | (with_reducible refine Blk.put ?_ _ _) | ((with_reducible refine Blk.farR ?_ ?_ _); (focus (first | (simp; done) | (simp; omega))))))⟩ ?_
  rintro W ⟨hk0, b0, b1, b2⟩
  have c0 := b0.cell
  have hK1 := hK.kept hk0 id
  have hL1 := hL.kept hk0 id
  have cK := hK1.cell
  clear hK hL
  (refine wp_region_ext (by kernel_rfl) (by kernel_rfl) ?_; (repeat (go_big_quiet_step ((go_at_call 18; exact quiet_kept (right_is true ⟨9, i, epoch, seq, mask, node, oe, os, block⟩ HR.out _))))); refine wpQuiet_nil ?_)
  intro w1 hk1
  have b0' := b0.kept hk1 id
  have b1' := b1.kept hk1 id
  have b2' := b2.kept hk1 id
  have hK2 := hK1.kept hk1 id
  have hL2 := hL1.kept hk1 id
  have hk01 := hk0.trans hk1 (fun _ _ h => h)
  clear c0 cK b0 b1 b2 hK1 hL1 hk0 hk1
  have c0 := b0'.cell
  have cK := hK2.cell
  go_wp2
  (refine wp_region_ext (by kernel_rfl) (by kernel_rfl) ?_; (repeat (go_big_quiet_step ((fail)))); refine wpQuiet_nil ?_)
  intro w2 hk2
  have b0 := b0'.kept hk2 id
  have b1 := b1'.kept hk2 id
  have b2 := b2'.kept hk2 id
  have hL3 := hL2.kept hk2 id
  have hk02 := hk01.trans hk2 (fun _ _ h => h)
  clear c0 cK b0' b1' b2' hK2 hL2 hk01 hk2
  have c0 := b0.cell
  obtain ⟨R, hR⟩ : ∃ R, R = outF l now fr epoch node := ⟨_, rfl⟩
  have HC := Lib.hid (fun (W : World) (hB : Blk W lb 45 (leaseCells ls)) => (hR ▸ out_any lb i ls l now fr ⟨9, i, epoch, seq, mask, node, oe, os, block⟩ W hB HL.out hb1 hb2 hn hn2 : Calls Try.prog 20 #[.pointer (some ⟨lb, i * 4, none⟩), .int .i64 now, .int .i64 fr, .agg #[.int .i64 9, .int .i64 i, .int .i64 epoch, .int .i64 seq, .int .i64 mask, .int .i64 node, .int .i64 oe, .int .i64 os, .string block]] W (DidL lb i ls R W)))
  have HA := Lib.hid (show ansL l now fr ⟨9, i, epoch, seq, mask, node, oe, os, block⟩ = R by rw [hR]; simp [ansL])
  clear hR
  by_cases h6 : R.1 = 6
  · have HF := Lib.hid (show ans1 l now fr ⟨9, i, epoch, seq, mask, node, oe, os, block⟩ = (badS, R.2) by unfold ans1; rw [HA.out, if_pos h6])
    have t6 : (R.1 == 6) = true := by simpa using h6
    clear h6
    go_wp2_with (go_at_call 20; refine (HC.out _ hL3).mono ?_; rintro e w3 ⟨rfl, hB3, hk3⟩; have b1' := b1.kept hk3 n1; have b2' := b2.kept hk3 n2; have c1 := b1'.cell; have f1 := b1'.frozen; have c2 := b2'.cell)
    refine bodyPost_ret (v := .agg #[.int .i64 6, .int .i64 0, .int .i64 (-1), .bool false, .int .i64 0, .int .i64 0, .int .i64 0, .string ⟨#[]⟩, .bool false, .int .i64 0, .int .i64 0, .int .i64 0, .string ⟨#[]⟩]) (by simp [results, Try.results15, go_sem, *]) rfl ?_
    have hk := (hk02.mono (S := (· = lb)) (fun _ _ h => h.elim)).trans hk3 (fun _ _ h => h)
    rw [HF.out]
    exact ⟨rfl, by (repeat (first | (with_reducible exact hB3) | (with_reducible exact Blk.new _ _ _) | ((with_reducible refine Blk.new_ ?_); (focus (simp; done))) | (with_reducible refine Blk.drewN ?_ _) | (with_reducible refine Blk.drew ?_) | (with_reducible refine Blk.alloc ?_ _) | (with_reducible refine Blk.put ?_ _ _) | ((with_reducible refine Blk.farR ?_ ?_ _); (focus (first | (simp; done) | (simp; omega)))))), by (repeat (first | (with_reducible (exact hk)) | (with_reducible (exact Kept.refl _ _)) | (with_reducible (refine Kept.drewN ?_ _)) | (with_reducible (refine Kept.drew ?_)) | (with_reducible (refine Kept.alloc ?_ _)) | ((with_reducible (refine Kept.cellPut ?_ ?_ _)); (focus (first | (intro _; rfl; done) | (intro _; exact .inl rfl) | (intro _; exact .inr rfl) | (intro h; exfalso; dsimp only at h; omega) | (intro h; exfalso; simp at h; omega))))))⟩
  · have HF := Lib.hid (show ans1 l now fr ⟨9, i, epoch, seq, mask, node, oe, os, block⟩ = (⟨R.1, R.2.ep, R.2.ou⟩, R.2) by unfold ans1; rw [HA.out, if_neg h6])
    have t6 : (R.1 == 6) = false := by simpa using h6
    clear h6
    go_wp2_with (go_at_call 20; refine (HC.out _ hL3).mono ?_; rintro e w3 ⟨rfl, hB3, hk3⟩; have b1' := b1.kept hk3 n1; have c1 := b1'.cell; have f1 := b1'.frozen; obtain ⟨d0, d1, d2, d3⟩ := lease_cells hB3 (set_get HL.out _))
    go_region
    go_wp2
    refine bodyPost_ret (v := .agg #[.int .i64 R.1, .int .i64 R.2.ep, .int .i64 R.2.ou, .bool false, .int .i64 0, .int .i64 0, .int .i64 0, .string ⟨#[]⟩, .bool false, .int .i64 0, .int .i64 0, .int .i64 0, .string ⟨#[]⟩]) (by simp [results, Try.results15, go_sem, *]) rfl ?_
    have hk := (hk02.mono (S := (· = lb)) (fun _ _ h => h.elim)).trans hk3 (fun _ _ h => h)
    rw [HF.out]
    exact ⟨rfl, by (repeat (first | (with_reducible exact hB3) | (with_reducible exact Blk.new _ _ _) | ((with_reducible refine Blk.new_ ?_); (focus (simp; done))) | (with_reducible refine Blk.drewN ?_ _) | (with_reducible refine Blk.drew ?_) | (with_reducible refine Blk.alloc ?_ _) | (with_reducible refine Blk.put ?_ _ _) | ((with_reducible refine Blk.farR ?_ ?_ _); (focus (first | (simp; done) | (simp; omega)))))), by (repeat (first | (with_reducible (exact hk)) | (with_reducible (exact Kept.refl _ _)) | (with_reducible (refine Kept.drewN ?_ _)) | (with_reducible (refine Kept.drew ?_)) | (with_reducible (refine Kept.alloc ?_ _)) | ((with_reducible (refine Kept.cellPut ?_ ?_ _)); (focus (first | (intro _; rfl; done) | (intro _; exact .inl rfl) | (intro _; exact .inr rfl) | (intro h; exfalso; dsimp only at h; omega) | (intro h; exfalso; simp at h; omega))))))⟩


set_option maxHeartbeats 800000 in
theorem answer_10 (kb lb i : Nat) (ls : List LeaseM) (l : LeaseM) (kr : List Value) (now fr : Int) (q : AskM) (w : World) (hK : Blk w kb 59 (.slice (some ⟨lb, 0, none⟩) ls.length ls.length :: kr))
    (hL : Blk w lb 45 (leaseCells ls)) (hr : rightAsk q = true) (hs : q.stripe = i) (hl : ls[i]? = some l) (_hn8 : ls.length ≤ 8) (hk : q.kind = 10)
    :
    Calls Try.prog 15 #[.pointer (some ⟨kb, 0, none⟩), .int .i64 now, .int .i64 fr, .agg #[.int .i64 q.kind, .int .i64 q.stripe, .int .i64 q.epoch, .int .i64 q.seq, .int .i64 q.mask, .int .i64 q.node, .int .i64 q.oe, .int .i64 q.os, .string q.block]] w (AnsL lb ((ans1 l now fr q).1, ls.set i (ans1 l now fr q).2) w) := by
  obtain ⟨kind, stripe, epoch, seq, mask, node, oe, os, block⟩ := q
  dsimp only at *
  subst hs hk
  have hlen := (List.getElem?_eq_some_iff.1 hl).1
  have HR := Lib.hid hr
  have HL := Lib.hid hl
  have hlt := hL.lt
  have n1 : ¬ (w.heap.size + 1 = lb) := by omega
  have n2 : ¬ (w.heap.size + 1 + 1 = lb) := by omega
  have hge : decide ((ls.length : Int) ≤ (i : Int)) = false := by simp; omega
  have g1 : (0 : Int) ≤ (i : Int) := by omega
  have g2 : (i : Int) < (ls.length : Int) := by omega
  clear hr hl
  go_enter Try.func15, Try.ntmps15
  go_wp2_with fail
  refine seal_ (fun W => Kept (fun _ => False) w W ∧ Blk W w.heap.size 37 [.int .i64 10, .int .i64 i, .int .i64 epoch, .int .i64 seq, .int .i64 mask, .int .i64 node, .int .i64 oe, .int .i64 os, .string block] ∧
    Blk W (w.heap.size + 1) 33 [.int .i64 0, .int .i64 0, .int .i64 0, .bool false, .int .i64 0, .int .i64 0, .int .i64 0, .string ⟨#[]⟩, .bool false, .int .i64 0, .int .i64 0, .int .i64 0, .string ⟨#[]⟩] ∧ Blk W (w.heap.size + 1 + 1) 33 [.int .i64 6, .int .i64 0, .int .i64 (-1), .bool false, .int .i64 0, .int .i64 0, .int .i64 0, .string ⟨#[]⟩, .bool false, .int .i64 0, .int .i64 0, .int .i64 0, .string ⟨#[]⟩]) ⟨by (repeat (first | (with_reducible (exact Kept.refl _ _)) | (with_reducible (refine Kept.drewN ?_ _)) | (with_reducible (refine Kept.drew ?_)) | (with_reducible (refine Kept.alloc ?_ _)) | ((with_reducible (refine Kept.cellPut ?_ ?_ _)); (focus (first | (intro _; rfl; done) | (intro _; exact .inl rfl) | (intro _; exact .inr rfl) | (intro h; exfalso; dsimp only at h; omega) | (intro h; exfalso; simp at h; omega)))))), by (repeat (first | (with_reducible exact hK) | (with_reducible exact Blk.new _ _ _) | ((with_reducible refine Blk.new_ ?_); (focus (simp; done))) | (with_reducible refine Blk.drewN ?_ _) | (with_reducible refine Blk.drew ?_) | (with_reducible refine Blk.alloc ?_ _) | (with_reducible refine Blk.put ?_ _ _) | ((with_reducible refine Blk.farR ?_ ?_ _); (focus (first | (simp; done) | (simp; omega)))))), by (repeat (first | (with_reducible exact hK) | (with_reducible exact Blk.new _ _ _) | ((with_reducible refine Blk.new_ ?_); (focus (simp; done))) | (with_reducible refine Blk.drewN ?_ _) | (with_reducible refine Blk.drew ?_) | (with_reducible refine Blk.alloc ?_ _) | (with_reducible refine Blk.put ?_ _ _) | ((with_reducible refine Blk.farR ?_ ?_ _); (focus (first | (simp; done) | (simp; omega)))))), by (repeat (first | (with_reducible exact hK) | (with_reducible exact Blk.new _ _ _) | ((with_reducible refine Blk.new_ ?_); (focus (simp; done))) | (with_reducible refine Blk.drewN ?_ _) | (with_reducible refine Blk.drew ?_) | (with_reducible refine Blk.alloc ?_ _) | (with_reducible refine Blk.put ?_ _ _) | ((with_reducible refine Blk.farR ?_ ?_ _); (focus (first | (simp; done) | (simp; omega))))))⟩ ?_
  rintro W ⟨hk0, b0, b1, b2⟩
  have c0 := b0.cell
  have hK1 := hK.kept hk0 id
  have hL1 := hL.kept hk0 id
  have cK := hK1.cell
  clear hK hL
  (refine wp_region_ext (by kernel_rfl) (by kernel_rfl) ?_; (repeat (go_big_quiet_step ((go_at_call 18; exact quiet_kept (right_is true ⟨10, i, epoch, seq, mask, node, oe, os, block⟩ HR.out _))))); refine wpQuiet_nil ?_)
  intro w1 hk1
  have b0' := b0.kept hk1 id
  have b1' := b1.kept hk1 id
  have b2' := b2.kept hk1 id
  have hK2 := hK1.kept hk1 id
  have hL2 := hL1.kept hk1 id
  have hk01 := hk0.trans hk1 (fun _ _ h => h)
  clear c0 cK b0 b1 b2 hK1 hL1 hk0 hk1
  have c0 := b0'.cell
  have cK := hK2.cell
  go_wp2
  (refine wp_region_ext (by kernel_rfl) (by kernel_rfl) ?_; (repeat (go_big_quiet_step ((fail)))); refine wpQuiet_nil ?_)
  intro w2 hk2
  have b0 := b0'.kept hk2 id
  have b1 := b1'.kept hk2 id
  have b2 := b2'.kept hk2 id
  have hL3 := hL2.kept hk2 id
  have hk02 := hk01.trans hk2 (fun _ _ h => h)
  clear c0 cK b0' b1' b2' hK2 hL2 hk01 hk2
  have c0 := b0.cell
  obtain ⟨R, hR⟩ : ∃ R, R = inF l fr epoch := ⟨_, rfl⟩
  have HC := Lib.hid (fun (W : World) (hB : Blk W lb 45 (leaseCells ls)) => (hR ▸ in_any lb i ls l fr ⟨10, i, epoch, seq, mask, node, oe, os, block⟩ W hB HL.out : Calls Try.prog 21 #[.pointer (some ⟨lb, i * 4, none⟩), .int .i64 fr, .agg #[.int .i64 10, .int .i64 i, .int .i64 epoch, .int .i64 seq, .int .i64 mask, .int .i64 node, .int .i64 oe, .int .i64 os, .string block]] W (DidL lb i ls R W)))
  have HA := Lib.hid (show ansL l now fr ⟨10, i, epoch, seq, mask, node, oe, os, block⟩ = R by rw [hR]; simp [ansL])
  clear hR
  by_cases h6 : R.1 = 6
  · have HF := Lib.hid (show ans1 l now fr ⟨10, i, epoch, seq, mask, node, oe, os, block⟩ = (badS, R.2) by unfold ans1; rw [HA.out, if_pos h6])
    have t6 : (R.1 == 6) = true := by simpa using h6
    clear h6
    go_wp2_with (go_at_call 21; refine (HC.out _ hL3).mono ?_; rintro e w3 ⟨rfl, hB3, hk3⟩; have b1' := b1.kept hk3 n1; have b2' := b2.kept hk3 n2; have c1 := b1'.cell; have f1 := b1'.frozen; have c2 := b2'.cell)
    refine bodyPost_ret (v := .agg #[.int .i64 6, .int .i64 0, .int .i64 (-1), .bool false, .int .i64 0, .int .i64 0, .int .i64 0, .string ⟨#[]⟩, .bool false, .int .i64 0, .int .i64 0, .int .i64 0, .string ⟨#[]⟩]) (by simp [results, Try.results15, go_sem, *]) rfl ?_
    have hk := (hk02.mono (S := (· = lb)) (fun _ _ h => h.elim)).trans hk3 (fun _ _ h => h)
    rw [HF.out]
    exact ⟨rfl, by (repeat (first | (with_reducible exact hB3) | (with_reducible exact Blk.new _ _ _) | ((with_reducible refine Blk.new_ ?_); (focus (simp; done))) | (with_reducible refine Blk.drewN ?_ _) | (with_reducible refine Blk.drew ?_) | (with_reducible refine Blk.alloc ?_ _) | (with_reducible refine Blk.put ?_ _ _) | ((with_reducible refine Blk.farR ?_ ?_ _); (focus (first | (simp; done) | (simp; omega)))))), by (repeat (first | (with_reducible (exact hk)) | (with_reducible (exact Kept.refl _ _)) | (with_reducible (refine Kept.drewN ?_ _)) | (with_reducible (refine Kept.drew ?_)) | (with_reducible (refine Kept.alloc ?_ _)) | ((with_reducible (refine Kept.cellPut ?_ ?_ _)); (focus (first | (intro _; rfl; done) | (intro _; exact .inl rfl) | (intro _; exact .inr rfl) | (intro h; exfalso; dsimp only at h; omega) | (intro h; exfalso; simp at h; omega))))))⟩
  · have HF := Lib.hid (show ans1 l now fr ⟨10, i, epoch, seq, mask, node, oe, os, block⟩ = (⟨R.1, R.2.ep, R.2.ou⟩, R.2) by unfold ans1; rw [HA.out, if_neg h6])
    have t6 : (R.1 == 6) = false := by simpa using h6
    clear h6
    go_wp2_with (go_at_call 21; refine (HC.out _ hL3).mono ?_; rintro e w3 ⟨rfl, hB3, hk3⟩; have b1' := b1.kept hk3 n1; have c1 := b1'.cell; have f1 := b1'.frozen; obtain ⟨d0, d1, d2, d3⟩ := lease_cells hB3 (set_get HL.out _))
    go_region
    go_wp2
    refine bodyPost_ret (v := .agg #[.int .i64 R.1, .int .i64 R.2.ep, .int .i64 R.2.ou, .bool false, .int .i64 0, .int .i64 0, .int .i64 0, .string ⟨#[]⟩, .bool false, .int .i64 0, .int .i64 0, .int .i64 0, .string ⟨#[]⟩]) (by simp [results, Try.results15, go_sem, *]) rfl ?_
    have hk := (hk02.mono (S := (· = lb)) (fun _ _ h => h.elim)).trans hk3 (fun _ _ h => h)
    rw [HF.out]
    exact ⟨rfl, by (repeat (first | (with_reducible exact hB3) | (with_reducible exact Blk.new _ _ _) | ((with_reducible refine Blk.new_ ?_); (focus (simp; done))) | (with_reducible refine Blk.drewN ?_ _) | (with_reducible refine Blk.drew ?_) | (with_reducible refine Blk.alloc ?_ _) | (with_reducible refine Blk.put ?_ _ _) | ((with_reducible refine Blk.farR ?_ ?_ _); (focus (first | (simp; done) | (simp; omega)))))), by (repeat (first | (with_reducible (exact hk)) | (with_reducible (exact Kept.refl _ _)) | (with_reducible (refine Kept.drewN ?_ _)) | (with_reducible (refine Kept.drew ?_)) | (with_reducible (refine Kept.alloc ?_ _)) | ((with_reducible (refine Kept.cellPut ?_ ?_ _)); (focus (first | (intro _; rfl; done) | (intro _; exact .inl rfl) | (intro _; exact .inr rfl) | (intro h; exfalso; dsimp only at h; omega) | (intro h; exfalso; simp at h; omega))))))⟩


set_option maxHeartbeats 800000 in
theorem answer_x (kb lb i : Nat) (ls : List LeaseM) (l : LeaseM) (kr : List Value) (now fr : Int) (q : AskM) (w : World) (hK : Blk w kb 59 (.slice (some ⟨lb, 0, none⟩) ls.length ls.length :: kr))
    (hL : Blk w lb 45 (leaseCells ls)) (hr : rightAsk q = true) (hs : q.stripe = i) (hl : ls[i]? = some l) (_hn8 : ls.length ≤ 8) (hk1 : 1 ≤ q.kind) (hk7 : q.kind ≤ 7)
    :
    Calls Try.prog 15 #[.pointer (some ⟨kb, 0, none⟩), .int .i64 now, .int .i64 fr, .agg #[.int .i64 q.kind, .int .i64 q.stripe, .int .i64 q.epoch, .int .i64 q.seq, .int .i64 q.mask, .int .i64 q.node, .int .i64 q.oe, .int .i64 q.os, .string q.block]] w (AnsL lb ((ans1 l now fr q).1, ls.set i (ans1 l now fr q).2) w) := by
  obtain ⟨kind, stripe, epoch, seq, mask, node, oe, os, block⟩ := q
  dsimp only at *
  subst hs
  have k8 : (kind == 8) = false := by simp; omega
  have k9 : (kind == 9) = false := by simp; omega
  have k10 : (kind == 10) = false := by simp; omega
  have HF := Lib.hid (show ans1 l now fr ⟨kind, i, epoch, seq, mask, node, oe, os, block⟩ = (badS, l) by
    have h8 : ¬ kind = 8 := by omega
    have h9 : ¬ kind = 9 := by omega
    have h10 : ¬ kind = 10 := by omega
    simp [ans1, ansL, h8, h9, h10])
  clear hk1 hk7
  have hlen := (List.getElem?_eq_some_iff.1 hl).1
  have HR := Lib.hid hr
  have HL := Lib.hid hl
  have hlt := hL.lt
  have n1 : ¬ (w.heap.size + 1 = lb) := by omega
  have n2 : ¬ (w.heap.size + 1 + 1 = lb) := by omega
  have hge : decide ((ls.length : Int) ≤ (i : Int)) = false := by simp; omega
  have g1 : (0 : Int) ≤ (i : Int) := by omega
  have g2 : (i : Int) < (ls.length : Int) := by omega
  clear hr hl
  go_enter Try.func15, Try.ntmps15
  go_wp2_with fail
  refine seal_ (fun W => Kept (fun _ => False) w W ∧ Blk W w.heap.size 37 [.int .i64 kind, .int .i64 i, .int .i64 epoch, .int .i64 seq, .int .i64 mask, .int .i64 node, .int .i64 oe, .int .i64 os, .string block] ∧
    Blk W (w.heap.size + 1) 33 [.int .i64 0, .int .i64 0, .int .i64 0, .bool false, .int .i64 0, .int .i64 0, .int .i64 0, .string ⟨#[]⟩, .bool false, .int .i64 0, .int .i64 0, .int .i64 0, .string ⟨#[]⟩] ∧ Blk W (w.heap.size + 1 + 1) 33 [.int .i64 6, .int .i64 0, .int .i64 (-1), .bool false, .int .i64 0, .int .i64 0, .int .i64 0, .string ⟨#[]⟩, .bool false, .int .i64 0, .int .i64 0, .int .i64 0, .string ⟨#[]⟩]) ⟨by (repeat (first | (with_reducible (exact Kept.refl _ _)) | (with_reducible (refine Kept.drewN ?_ _)) | (with_reducible (refine Kept.drew ?_)) | (with_reducible (refine Kept.alloc ?_ _)) | ((with_reducible (refine Kept.cellPut ?_ ?_ _)); (focus (first | (intro _; rfl; done) | (intro _; exact .inl rfl) | (intro _; exact .inr rfl) | (intro h; exfalso; dsimp only at h; omega) | (intro h; exfalso; simp at h; omega)))))), by (repeat (first | (with_reducible exact hK) | (with_reducible exact Blk.new _ _ _) | ((with_reducible refine Blk.new_ ?_); (focus (simp; done))) | (with_reducible refine Blk.drewN ?_ _) | (with_reducible refine Blk.drew ?_) | (with_reducible refine Blk.alloc ?_ _) | (with_reducible refine Blk.put ?_ _ _) | ((with_reducible refine Blk.farR ?_ ?_ _); (focus (first | (simp; done) | (simp; omega)))))), by (repeat (first | (with_reducible exact hK) | (with_reducible exact Blk.new _ _ _) | ((with_reducible refine Blk.new_ ?_); (focus (simp; done))) | (with_reducible refine Blk.drewN ?_ _) | (with_reducible refine Blk.drew ?_) | (with_reducible refine Blk.alloc ?_ _) | (with_reducible refine Blk.put ?_ _ _) | ((with_reducible refine Blk.farR ?_ ?_ _); (focus (first | (simp; done) | (simp; omega)))))), by (repeat (first | (with_reducible exact hK) | (with_reducible exact Blk.new _ _ _) | ((with_reducible refine Blk.new_ ?_); (focus (simp; done))) | (with_reducible refine Blk.drewN ?_ _) | (with_reducible refine Blk.drew ?_) | (with_reducible refine Blk.alloc ?_ _) | (with_reducible refine Blk.put ?_ _ _) | ((with_reducible refine Blk.farR ?_ ?_ _); (focus (first | (simp; done) | (simp; omega))))))⟩ ?_
  rintro W ⟨hk0, b0, b1, b2⟩
  have c0 := b0.cell
  have hK1 := hK.kept hk0 id
  have hL1 := hL.kept hk0 id
  have cK := hK1.cell
  clear hK hL
  (refine wp_region_ext (by kernel_rfl) (by kernel_rfl) ?_; (repeat (go_big_quiet_step ((go_at_call 18; exact quiet_kept (right_is true ⟨kind, i, epoch, seq, mask, node, oe, os, block⟩ HR.out _))))); refine wpQuiet_nil ?_)
  intro w1 hk1
  have b0' := b0.kept hk1 id
  have b1' := b1.kept hk1 id
  have b2' := b2.kept hk1 id
  have hK2 := hK1.kept hk1 id
  have hL2 := hL1.kept hk1 id
  have hk01 := hk0.trans hk1 (fun _ _ h => h)
  clear c0 cK b0 b1 b2 hK1 hL1 hk0 hk1
  have c0 := b0'.cell
  have cK := hK2.cell
  go_wp2
  (refine wp_region_ext (by kernel_rfl) (by kernel_rfl) ?_; (repeat (go_big_quiet_step ((fail)))); refine wpQuiet_nil ?_)
  intro w2 hk2
  have b0 := b0'.kept hk2 id
  have b1 := b1'.kept hk2 id
  have b2 := b2'.kept hk2 id
  have hL3 := hL2.kept hk2 id
  have hk02 := hk01.trans hk2 (fun _ _ h => h)
  clear c0 cK b0' b1' b2' hK2 hL2 hk01 hk2
  have c0 := b0.cell
  have c1 := b1.cell
  have f1 := b1.frozen
  have c2 := b2.cell
  go_wp2
  refine bodyPost_ret (v := .agg #[.int .i64 6, .int .i64 0, .int .i64 (-1), .bool false, .int .i64 0, .int .i64 0, .int .i64 0, .string ⟨#[]⟩, .bool false, .int .i64 0, .int .i64 0, .int .i64 0, .string ⟨#[]⟩]) (by simp [results, Try.results15, go_sem, *]) rfl ?_
  have hk := hk02.mono (S := (· = lb)) (fun _ _ h => h.elim)
  rw [HF.out]
  exact ⟨rfl, by rw [set_self HL.out]; (repeat (first | (with_reducible exact hL3) | (with_reducible exact Blk.new _ _ _) | ((with_reducible refine Blk.new_ ?_); (focus (simp; done))) | (with_reducible refine Blk.drewN ?_ _) | (with_reducible refine Blk.drew ?_) | (with_reducible refine Blk.alloc ?_ _) | (with_reducible refine Blk.put ?_ _ _) | ((with_reducible refine Blk.farR ?_ ?_ _); (focus (first | (simp; done) | (simp; omega)))))), by (repeat (first | (with_reducible (exact hk)) | (with_reducible (exact Kept.refl _ _)) | (with_reducible (refine Kept.drewN ?_ _)) | (with_reducible (refine Kept.drew ?_)) | (with_reducible (refine Kept.alloc ?_ _)) | ((with_reducible (refine Kept.cellPut ?_ ?_ _)); (focus (first | (intro _; rfl; done) | (intro _; exact .inl rfl) | (intro _; exact .inr rfl) | (intro h; exfalso; dsimp only at h; omega) | (intro h; exfalso; simp at h; omega))))))⟩

set_option maxHeartbeats 800000 in
theorem answer_y (kb lb i : Nat) (ls : List LeaseM) (kr : List Value) (now fr : Int) (q : AskM) (w : World) (hK : Blk w kb 59 (.slice (some ⟨lb, 0, none⟩) ls.length ls.length :: kr))
    (hL : Blk w lb 45 (leaseCells ls)) (hr : rightAsk q = true) (hs : q.stripe = i) (hl : ls.length ≤ i) (hi8 : i ≤ 7)
    :
    Calls Try.prog 15 #[.pointer (some ⟨kb, 0, none⟩), .int .i64 now, .int .i64 fr, .agg #[.int .i64 q.kind, .int .i64 q.stripe, .int .i64 q.epoch, .int .i64 q.seq, .int .i64 q.mask, .int .i64 q.node, .int .i64 q.oe, .int .i64 q.os, .string q.block]] w (AnsL lb (badS, ls) w) := by
  obtain ⟨kind, stripe, epoch, seq, mask, node, oe, os, block⟩ := q
  dsimp only at *
  subst hs
  have HR := Lib.hid hr
  have hlt := hL.lt
  have n1 : ¬ (w.heap.size + 1 = lb) := by omega
  have n2 : ¬ (w.heap.size + 1 + 1 = lb) := by omega
  have hge : decide ((ls.length : Int) ≤ (i : Int)) = true := by simp; omega
  have g1 : (0 : Int) ≤ (i : Int) := by omega
  have g2 : (ls.length : Int) ≤ (i : Int) := by omega
  clear hr hl
  go_enter Try.func15, Try.ntmps15
  go_wp2_with fail
  refine seal_ (fun W => Kept (fun _ => False) w W ∧ Blk W w.heap.size 37 [.int .i64 kind, .int .i64 i, .int .i64 epoch, .int .i64 seq, .int .i64 mask, .int .i64 node, .int .i64 oe, .int .i64 os, .string block] ∧
    Blk W (w.heap.size + 1) 33 [.int .i64 0, .int .i64 0, .int .i64 0, .bool false, .int .i64 0, .int .i64 0, .int .i64 0, .string ⟨#[]⟩, .bool false, .int .i64 0, .int .i64 0, .int .i64 0, .string ⟨#[]⟩] ∧ Blk W (w.heap.size + 1 + 1) 33 [.int .i64 6, .int .i64 0, .int .i64 (-1), .bool false, .int .i64 0, .int .i64 0, .int .i64 0, .string ⟨#[]⟩, .bool false, .int .i64 0, .int .i64 0, .int .i64 0, .string ⟨#[]⟩]) ⟨by (repeat (first | (with_reducible (exact Kept.refl _ _)) | (with_reducible (refine Kept.drewN ?_ _)) | (with_reducible (refine Kept.drew ?_)) | (with_reducible (refine Kept.alloc ?_ _)) | ((with_reducible (refine Kept.cellPut ?_ ?_ _)); (focus (first | (intro _; rfl; done) | (intro _; exact .inl rfl) | (intro _; exact .inr rfl) | (intro h; exfalso; dsimp only at h; omega) | (intro h; exfalso; simp at h; omega)))))), by (repeat (first | (with_reducible exact hK) | (with_reducible exact Blk.new _ _ _) | ((with_reducible refine Blk.new_ ?_); (focus (simp; done))) | (with_reducible refine Blk.drewN ?_ _) | (with_reducible refine Blk.drew ?_) | (with_reducible refine Blk.alloc ?_ _) | (with_reducible refine Blk.put ?_ _ _) | ((with_reducible refine Blk.farR ?_ ?_ _); (focus (first | (simp; done) | (simp; omega)))))), by (repeat (first | (with_reducible exact hK) | (with_reducible exact Blk.new _ _ _) | ((with_reducible refine Blk.new_ ?_); (focus (simp; done))) | (with_reducible refine Blk.drewN ?_ _) | (with_reducible refine Blk.drew ?_) | (with_reducible refine Blk.alloc ?_ _) | (with_reducible refine Blk.put ?_ _ _) | ((with_reducible refine Blk.farR ?_ ?_ _); (focus (first | (simp; done) | (simp; omega)))))), by (repeat (first | (with_reducible exact hK) | (with_reducible exact Blk.new _ _ _) | ((with_reducible refine Blk.new_ ?_); (focus (simp; done))) | (with_reducible refine Blk.drewN ?_ _) | (with_reducible refine Blk.drew ?_) | (with_reducible refine Blk.alloc ?_ _) | (with_reducible refine Blk.put ?_ _ _) | ((with_reducible refine Blk.farR ?_ ?_ _); (focus (first | (simp; done) | (simp; omega))))))⟩ ?_
  rintro W ⟨hk0, b0, b1, b2⟩
  have c0 := b0.cell
  have hK1 := hK.kept hk0 id
  have hL1 := hL.kept hk0 id
  have cK := hK1.cell
  clear hK hL
  (refine wp_region_ext (by kernel_rfl) (by kernel_rfl) ?_; (repeat (go_big_quiet_step ((go_at_call 18; exact quiet_kept (right_is true ⟨kind, i, epoch, seq, mask, node, oe, os, block⟩ HR.out _))))); refine wpQuiet_nil ?_)
  intro w1 hk1
  have b0' := b0.kept hk1 id
  have b1' := b1.kept hk1 id
  have b2' := b2.kept hk1 id
  have hK2 := hK1.kept hk1 id
  have hL2 := hL1.kept hk1 id
  have hk01 := hk0.trans hk1 (fun _ _ h => h)
  clear c0 cK b0 b1 b2 hK1 hL1 hk0 hk1
  have c0 := b0'.cell
  have cK := hK2.cell
  have c1 := b1'.cell
  have f1 := b1'.frozen
  have c2 := b2'.cell
  go_wp2
  refine bodyPost_ret (v := .agg #[.int .i64 6, .int .i64 0, .int .i64 (-1), .bool false, .int .i64 0, .int .i64 0, .int .i64 0, .string ⟨#[]⟩, .bool false, .int .i64 0, .int .i64 0, .int .i64 0, .string ⟨#[]⟩]) (by simp [results, Try.results15, go_sem, *]) rfl ?_
  have hk := hk01.mono (S := (· = lb)) (fun _ _ h => h.elim)
  exact ⟨rfl, by (repeat (first | (with_reducible exact hL2) | (with_reducible exact Blk.new _ _ _) | ((with_reducible refine Blk.new_ ?_); (focus (simp; done))) | (with_reducible refine Blk.drewN ?_ _) | (with_reducible refine Blk.drew ?_) | (with_reducible refine Blk.alloc ?_ _) | (with_reducible refine Blk.put ?_ _ _) | ((with_reducible refine Blk.farR ?_ ?_ _); (focus (first | (simp; done) | (simp; omega)))))), by (repeat (first | (with_reducible (exact hk)) | (with_reducible (exact Kept.refl _ _)) | (with_reducible (refine Kept.drewN ?_ _)) | (with_reducible (refine Kept.drew ?_)) | (with_reducible (refine Kept.alloc ?_ _)) | ((with_reducible (refine Kept.cellPut ?_ ?_ _)); (focus (first | (intro _; rfl; done) | (intro _; exact .inl rfl) | (intro _; exact .inr rfl) | (intro h; exfalso; dsimp only at h; omega) | (intro h; exfalso; simp at h; omega))))))⟩

theorem rightAsk_bd {q : AskM} (h : rightAsk q = true) : 0 ≤ q.stripe ∧ q.stripe ≤ 7 ∧ 1 ≤ q.kind ∧ q.kind ≤ 10 := by
  simp only [rightAsk, Bool.and_eq_true, decide_eq_true_eq] at h
  omega

theorem answer_any (kb lb : Nat) (ls : List LeaseM) (kr : List Value) (now fr : Int) (q : AskM) (w : World) (hK : Blk w kb 59 (.slice (some ⟨lb, 0, none⟩) ls.length ls.length :: kr))
    (hL : Blk w lb 45 (leaseCells ls)) (hn8 : ls.length ≤ 8) (hep : ∀ l ∈ ls, 0 ≤ l.ep ∧ l.ep ≤ 16777215) (hn : 0 ≤ now) (hn2 : now ≤ 1099511627776) :
    Calls Try.prog 15 #[.pointer (some ⟨kb, 0, none⟩), .int .i64 now, .int .i64 fr, .agg #[.int .i64 q.kind, .int .i64 q.stripe, .int .i64 q.epoch, .int .i64 q.seq, .int .i64 q.mask, .int .i64 q.node, .int .i64 q.oe, .int .i64 q.os, .string q.block]] w (AnsL lb (ansF ls now fr q) w) := by
  cases hr : rightAsk q with
  | false =>
    have e : ansF ls now fr q = (badS, ls) := by simp [ansF, hr]
    rw [e]
    exact answer_wrong kb lb ls kr now fr q w hK hL hr
  | true =>
    obtain ⟨h0, h7, hk1, hk10⟩ := rightAsk_bd hr
    obtain ⟨i, hi⟩ := Int.eq_ofNat_of_zero_le h0
    cases hl : ls[i]? with
    | none =>
      have e : ansF ls now fr q = (badS, ls) := by simp [ansF, hr, hi, hl]
      rw [e]
      exact answer_y kb lb i ls kr now fr q w hK hL hr hi (by simpa using hl) (by omega)
    | some l =>
      have e : ansF ls now fr q = ((ans1 l now fr q).1, ls.set i (ans1 l now fr q).2) := by simp [ansF, hr, hi, hl]
      rw [e]
      obtain ⟨b1, b2⟩ := hep l (List.mem_of_getElem? hl)
      by_cases hk : q.kind ≤ 7
      · exact answer_x kb lb i ls l kr now fr q w hK hL hr hi hl hn8 hk1 hk
      · have : q.kind = 8 ∨ q.kind = 9 ∨ q.kind = 10 := by omega
        rcases this with h | h | h
        · exact answer_8 kb lb i ls l kr now fr q w hK hL hr hi hl hn8 h b1 b2 hn hn2
        · exact answer_9 kb lb i ls l kr now fr q w hK hL hr hi hl hn8 h b1 b2 hn hn2
        · exact answer_10 kb lb i ls l kr now fr q w hK hL hr hi hl hn8 h
end Go.Proofs.Ytieeeijaojdbfaa
