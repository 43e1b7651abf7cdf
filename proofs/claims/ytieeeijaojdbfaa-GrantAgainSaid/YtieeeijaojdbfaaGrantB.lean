/- The walks over out, in: each answers what the plain model says. -/
import Derived.Test.YtieeeijaojdbfaaGrantA
namespace Go.Proofs.Ytieeeijaojdbfaa
open Go.RowKit

def AskM.val (q : AskM) : Value := .agg #[.int .i64 q.kind, .int .i64 q.stripe, .int .i64 q.epoch, .int .i64 q.seq, .int .i64 q.mask, .int .i64 q.node, .int .i64 q.oe, .int .i64 q.os, .string q.block]

set_option maxHeartbeats 400000 in
theorem out_any (lb i : Nat) (ls : List LeaseM) (l : LeaseM) (now fr : Int) (q : AskM) (w : World) (hL : Blk w lb 45 (leaseCells ls)) (hi : ls[i]? = some l)
    (hb1 : 0 ≤ l.ep) (hb2 : l.ep ≤ 16777215) (hn : 0 ≤ now) (hn2 : now ≤ 1099511627776) :
    Calls Try.prog 20 #[.pointer (some ⟨lb, i * 4, none⟩), .int .i64 now, .int .i64 fr, .agg #[.int .i64 q.kind, .int .i64 q.stripe, .int .i64 q.epoch, .int .i64 q.seq, .int .i64 q.mask, .int .i64 q.node, .int .i64 q.oe, .int .i64 q.os, .string q.block]] w (DidL lb i ls (outF l now fr q.epoch q.node) w) := by
  obtain ⟨h0, h1, h2, h3⟩ := lease_cells hL hi
  have hf := hL.frozen
  have hlt := hL.lt
  have HL := Lib.hid hL
  have HI := Lib.hid hi
  clear hL hi
  by_cases ha : l.ho = fr
  · have a1 : (l.ho != fr) = false := by simpa using ha
    by_cases hb : l.ep = q.epoch
    · have b1 : (l.ep != q.epoch) = false := by simpa using hb
      have hG : outF l now fr q.epoch q.node = if l.ou ≠ -1 ∧ l.ou ≠ q.node then (4, l) else if l.ep = 16777215 then (6, l) else (1, { l with ou := q.node, ep := l.ep + 1, un := now + 30 }) := by
        rw [outF, if_neg (by simp [ha, hb])]
      have HG := Lib.hid hG
      clear ha hb hG
      by_cases hc : l.ou = -1
      · have c1 : (l.ou != -1) = false := by simpa using hc
        by_cases hd : l.ep = 16777215
        · have d1 : (l.ep == 16777215) = true := by simpa using hd
          have HF := Lib.hid (show outF l now fr q.epoch q.node = (6, l) by rw [HG.out, if_neg (by simp [hc]), if_pos hd])
          clear hc hd HG
          go_enter Try.func20, Try.ntmps20
          go_wp2
          go_quiet (fail)
          go_wp2
          go_quiet (fail)
          go_wp2
          go_ret
          rw [HF.out]
          exact did_same HL.out HI.out (by (repeat (first | (with_reducible (exact Kept.refl _ _)) | (with_reducible (refine Kept.drewN ?_ _)) | (with_reducible (refine Kept.drew ?_)) | (with_reducible (refine Kept.alloc ?_ _)) | ((with_reducible (refine Kept.cellPut ?_ ?_ _)); (focus (first | (intro _; rfl; done) | (intro _; exact .inl rfl) | (intro _; exact .inr rfl) | (intro h; exfalso; dsimp only at h; omega) | (intro h; exfalso; simp at h; omega)))))))
        · have d1 : (l.ep == 16777215) = false := by simpa using hd
          have HF := Lib.hid (show outF l now fr q.epoch q.node = (1, { l with ou := q.node, ep := l.ep + 1, un := now + 30 }) by rw [HG.out, if_neg (by simp [hc]), if_neg hd])
          clear hc hd HG
          go_enter Try.func20, Try.ntmps20
          go_wp2
          go_quiet (fail)
          go_wp2
          go_quiet (fail)
          go_wp2
          go_ret
          rw [HF.out]
          exact ⟨rfl, (put_un (put_ep (put_ou ((HL.out.alloc _).drewN _) HI.out _) (set_get HI.out _) _) (set_get (set_get HI.out _) _) _).eq_ (by simp), by (repeat (first | (with_reducible (exact Kept.refl _ _)) | (with_reducible (refine Kept.drewN ?_ _)) | (with_reducible (refine Kept.drew ?_)) | (with_reducible (refine Kept.alloc ?_ _)) | ((with_reducible (refine Kept.cellPut ?_ ?_ _)); (focus (first | (intro _; rfl; done) | (intro _; exact .inl rfl) | (intro _; exact .inr rfl) | (intro h; exfalso; dsimp only at h; omega) | (intro h; exfalso; simp at h; omega))))))⟩
      · have c1 : (l.ou != -1) = true := by simpa using hc
        by_cases hd : l.ou = q.node
        · have d1 : (l.ou != q.node) = false := by simpa using hd
          by_cases he : l.ep = 16777215
          · have e1 : (l.ep == 16777215) = true := by simpa using he
            have HF := Lib.hid (show outF l now fr q.epoch q.node = (6, l) by rw [HG.out, if_neg (by simp [hd]), if_pos he])
            clear hc hd he HG
            go_enter Try.func20, Try.ntmps20
            go_wp2
            go_quiet (fail)
            go_wp2
            go_quiet (fail)
            go_wp2
            go_ret
            rw [HF.out]
            exact did_same HL.out HI.out (by (repeat (first | (with_reducible (exact Kept.refl _ _)) | (with_reducible (refine Kept.drewN ?_ _)) | (with_reducible (refine Kept.drew ?_)) | (with_reducible (refine Kept.alloc ?_ _)) | ((with_reducible (refine Kept.cellPut ?_ ?_ _)); (focus (first | (intro _; rfl; done) | (intro _; exact .inl rfl) | (intro _; exact .inr rfl) | (intro h; exfalso; dsimp only at h; omega) | (intro h; exfalso; simp at h; omega)))))))
          · have e1 : (l.ep == 16777215) = false := by simpa using he
            have HF := Lib.hid (show outF l now fr q.epoch q.node = (1, { l with ou := q.node, ep := l.ep + 1, un := now + 30 }) by rw [HG.out, if_neg (by simp [hd]), if_neg he])
            clear hc hd he HG
            go_enter Try.func20, Try.ntmps20
            go_wp2
            go_quiet (fail)
            go_wp2
            go_quiet (fail)
            go_wp2
            go_ret
            rw [HF.out]
            exact ⟨rfl, (put_un (put_ep (put_ou ((HL.out.alloc _).drewN _) HI.out _) (set_get HI.out _) _) (set_get (set_get HI.out _) _) _).eq_ (by simp), by (repeat (first | (with_reducible (exact Kept.refl _ _)) | (with_reducible (refine Kept.drewN ?_ _)) | (with_reducible (refine Kept.drew ?_)) | (with_reducible (refine Kept.alloc ?_ _)) | ((with_reducible (refine Kept.cellPut ?_ ?_ _)); (focus (first | (intro _; rfl; done) | (intro _; exact .inl rfl) | (intro _; exact .inr rfl) | (intro h; exfalso; dsimp only at h; omega) | (intro h; exfalso; simp at h; omega))))))⟩
        · have d1 : (l.ou != q.node) = true := by simpa using hd
          have HF := Lib.hid (show outF l now fr q.epoch q.node = (4, l) by rw [HG.out, if_pos ⟨hc, hd⟩])
          clear hc hd HG
          go_enter Try.func20, Try.ntmps20
          go_wp2
          go_quiet (fail)
          go_wp2
          go_quiet (fail)
          go_wp2
          go_ret
          rw [HF.out]
          exact did_same HL.out HI.out (by (repeat (first | (with_reducible (exact Kept.refl _ _)) | (with_reducible (refine Kept.drewN ?_ _)) | (with_reducible (refine Kept.drew ?_)) | (with_reducible (refine Kept.alloc ?_ _)) | ((with_reducible (refine Kept.cellPut ?_ ?_ _)); (focus (first | (intro _; rfl; done) | (intro _; exact .inl rfl) | (intro _; exact .inr rfl) | (intro h; exfalso; dsimp only at h; omega) | (intro h; exfalso; simp at h; omega)))))))
    · have b1 : (l.ep != q.epoch) = true := by simpa using hb
      have HF := Lib.hid (show outF l now fr q.epoch q.node = (2, l) by rw [outF, if_pos (.inr hb)])
      clear ha hb
      go_enter Try.func20, Try.ntmps20
      go_wp2
      go_quiet (fail)
      go_wp2
      go_ret
      rw [HF.out]
      exact did_same HL.out HI.out (by (repeat (first | (with_reducible (exact Kept.refl _ _)) | (with_reducible (refine Kept.drewN ?_ _)) | (with_reducible (refine Kept.drew ?_)) | (with_reducible (refine Kept.alloc ?_ _)) | ((with_reducible (refine Kept.cellPut ?_ ?_ _)); (focus (first | (intro _; rfl; done) | (intro _; exact .inl rfl) | (intro _; exact .inr rfl) | (intro h; exfalso; dsimp only at h; omega) | (intro h; exfalso; simp at h; omega)))))))
  · have a1 : (l.ho != fr) = true := by simpa using ha
    have HF := Lib.hid (show outF l now fr q.epoch q.node = (2, l) by rw [outF, if_pos (.inl ha)])
    clear ha
    go_enter Try.func20, Try.ntmps20
    go_wp2
    go_quiet (fail)
    go_wp2
    go_ret
    rw [HF.out]
    exact did_same HL.out HI.out (by (repeat (first | (with_reducible (exact Kept.refl _ _)) | (with_reducible (refine Kept.drewN ?_ _)) | (with_reducible (refine Kept.drew ?_)) | (with_reducible (refine Kept.alloc ?_ _)) | ((with_reducible (refine Kept.cellPut ?_ ?_ _)); (focus (first | (intro _; rfl; done) | (intro _; exact .inl rfl) | (intro _; exact .inr rfl) | (intro h; exfalso; dsimp only at h; omega) | (intro h; exfalso; simp at h; omega)))))))

set_option maxHeartbeats 400000 in
theorem in_any (lb i : Nat) (ls : List LeaseM) (l : LeaseM) (fr : Int) (q : AskM) (w : World) (hL : Blk w lb 45 (leaseCells ls)) (hi : ls[i]? = some l) :
    Calls Try.prog 21 #[.pointer (some ⟨lb, i * 4, none⟩), .int .i64 fr, .agg #[.int .i64 q.kind, .int .i64 q.stripe, .int .i64 q.epoch, .int .i64 q.seq, .int .i64 q.mask, .int .i64 q.node, .int .i64 q.oe, .int .i64 q.os, .string q.block]] w (DidL lb i ls (inF l fr q.epoch) w) := by
  obtain ⟨h0, h1, h2, h3⟩ := lease_cells hL hi
  have hf := hL.frozen
  have hlt := hL.lt
  have HL := Lib.hid hL
  have HI := Lib.hid hi
  clear hL hi
  by_cases ha : l.ho = fr
  · have a1 : (l.ho != fr) = false := by simpa using ha
    by_cases hb : l.ep = q.epoch
    · have b1 : (l.ep != q.epoch) = false := by simpa using hb
      have HF := Lib.hid (show inF l fr q.epoch = (1, { l with ou := -1 }) by rw [inF, if_neg (by simp [ha, hb])])
      clear ha hb
      go_enter Try.func21, Try.ntmps21
      go_wp2
      go_quiet (fail)
      go_wp2
      go_ret
      rw [HF.out]
      exact ⟨rfl, put_ou ((HL.out.alloc _).drewN _) HI.out _, by (repeat (first | (with_reducible (exact Kept.refl _ _)) | (with_reducible (refine Kept.drewN ?_ _)) | (with_reducible (refine Kept.drew ?_)) | (with_reducible (refine Kept.alloc ?_ _)) | ((with_reducible (refine Kept.cellPut ?_ ?_ _)); (focus (first | (intro _; rfl; done) | (intro _; exact .inl rfl) | (intro _; exact .inr rfl) | (intro h; exfalso; dsimp only at h; omega) | (intro h; exfalso; simp at h; omega))))))⟩
    · have b1 : (l.ep != q.epoch) = true := by simpa using hb
      have HF := Lib.hid (show inF l fr q.epoch = (2, l) by rw [inF, if_pos (.inr hb)])
      clear ha hb
      go_enter Try.func21, Try.ntmps21
      go_wp2
      go_quiet (fail)
      go_wp2
      go_ret
      rw [HF.out]
      exact did_same HL.out HI.out (by (repeat (first | (with_reducible (exact Kept.refl _ _)) | (with_reducible (refine Kept.drewN ?_ _)) | (with_reducible (refine Kept.drew ?_)) | (with_reducible (refine Kept.alloc ?_ _)) | ((with_reducible (refine Kept.cellPut ?_ ?_ _)); (focus (first | (intro _; rfl; done) | (intro _; exact .inl rfl) | (intro _; exact .inr rfl) | (intro h; exfalso; dsimp only at h; omega) | (intro h; exfalso; simp at h; omega)))))))
  · have a1 : (l.ho != fr) = true := by simpa using ha
    have HF := Lib.hid (show inF l fr q.epoch = (2, l) by rw [inF, if_pos (.inl ha)])
    clear ha
    go_enter Try.func21, Try.ntmps21
    go_wp2
    go_quiet (fail)
    go_wp2
    go_ret
    rw [HF.out]
    exact did_same HL.out HI.out (by (repeat (first | (with_reducible (exact Kept.refl _ _)) | (with_reducible (refine Kept.drewN ?_ _)) | (with_reducible (refine Kept.drew ?_)) | (with_reducible (refine Kept.alloc ?_ _)) | ((with_reducible (refine Kept.cellPut ?_ ?_ _)); (focus (first | (intro _; rfl; done) | (intro _; exact .inl rfl) | (intro _; exact .inr rfl) | (intro h; exfalso; dsimp only at h; omega) | (intro h; exfalso; simp at h; omega)))))))
end Go.Proofs.Ytieeeijaojdbfaa
