/- The shelf's functions. -/
import Derived.Test.YtpcdccljioiiaaaPlat2
namespace Go.Proofs.Ytpcdccljioiiaaa
open Go.RowKit

theorem flush_pl (M : Pl) (pb : Nat) (ha : M.acts < 4611686018427387904) (w : World) (hP : PlatAt 73 78 w pb M) :
    Calls Try.prog 38 #[.pointer (some ⟨pb, 0, none⟩)] w (fun e w' => e = .returned (.int .i64 (goesE M)) ∧ PlatAt 73 78 w' pb (flushPl M) ∧ Kept (minePl pb M) w w') := by
  have hok := hP.ok.flush
  have ha2 := hP.ok.a0
  have hc2 := hP.ok.c0
  obtain ⟨h1, h2, h3, h4⟩ := hP
  obtain ⟨lb, mb, n, last, cs, ck, off, a, c⟩ := M
  cases off with
  | true => exact (flush_off n lb mb pb a c w h1).mono fun e w' ⟨he, hk⟩ => ⟨he, ⟨h1.kept hk id, h2.kept hk id, h3.kept hk id, h4⟩, hk.mono (fun _ _ h => h.elim)⟩
  | false =>
    cases hc1 : decide (c = 1) with
    | true =>
      have e1 : goesE ⟨lb, mb, n, last, cs, ck, false, a, c⟩ = 70 := by simp [goesE, Pl.goes, hc1]
      have e2 : flushPl ⟨lb, mb, n, last, cs, ck, false, a, c⟩ = ⟨lb, mb, n, last, cs, ck, decide (c = 1), a + 1, dn c⟩ := by simp [flushPl, actPl, Pl.goes, hc1]
      rw [e1, e2]
      rw [e2] at hok
      refine (flush_cut n lb mb pb a c ⟨ha2, ha⟩ hc2 hc1 w h1).mono fun e w' ⟨he, hB, hk⟩ => ⟨he, ⟨hB, h2.kept hk (fun e => h4.ne2 e.symm), h3.kept hk (fun e => h4.ne1 e.symm), hok⟩, hk.mono (fun _ _ h => .inl h)⟩
    | false =>
      have e1 : goesE ⟨lb, mb, n, last, cs, ck, false, a, c⟩ = 0 := by simp [goesE, Pl.goes, hc1]
      have e2 : flushPl ⟨lb, mb, n, last, cs, ck, false, a, c⟩ = ⟨lb, mb, n, ovl last cs, [], ck, decide (c = 1), a + 1, dn c⟩ := by simp [flushPl, actPl, Pl.goes, hc1]
      rw [e1, e2]
      rw [e2] at hok
      refine (flush_live n lb mb pb a c ⟨ha2, ha⟩ hc2 hc1 cs ck last h4.ne2 h4.ne1 h4.ne3 h4.len h4.sec (fun c hc => (h4.csk c hc).2.2.1) (fun c hc => ⟨(h4.csk c hc).1, (h4.csk c hc).2.1⟩) (fun c hc => (h4.csk c hc).2.2.2) h4.nk h4.nb w h1 h2 h3).mono fun e w' ⟨he, hB, hl, hmw, hk⟩ => ⟨he, ⟨hB, hl, hmw, hok⟩, hk⟩
def newPl (lb mb n : Nat) : Pl := ⟨lb, mb, n, EMPTY n, [], 0, false, 0, 0⟩
theorem secs_empty (n : Nat) : secs n = secsV (EMPTY n) := by
  have hz : intsV zeroSec = List.replicate 64 (.int .u8 0) := by simp [intsV, zeroSec]
  have h1 : secsV (EMPTY n) = List.replicate (n * 64) (.int .u8 0) := by
    unfold secsV EMPTY
    rw [show zeroSec = List.replicate 64 (0 : Int) from rfl, List.flatten_replicate_replicate]
    simp [intsV]
  have h2 : secs n = List.replicate (n * 64) (.int .u8 0) := by
    unfold secs
    rw [hz, List.eq_replicate_iff]
    refine ⟨by simp [madeCells], fun b hb => ?_⟩
    simp only [madeCells, Array.toList_map, List.mem_map] at hb
    obtain ⟨i, _, rfl⟩ := hb
    have hrep : ∀ m j, j < m → (List.replicate m (Value.int .u8 0)).toArray[j]! = .int .u8 0 := fun m j h => by simp [h]
    have hsz : (List.replicate 64 (Value.int .u8 0)).toArray.size = 64 := by simp
    rw [hsz]
    exact hrep 64 _ (Nat.mod_lt _ (by decide))
  rw [h1, h2]
theorem empty_ok {lb mb pb n : Nat} (h1 : lb < mb) (h2 : mb < pb) (hn : 1 ≤ n ∧ n ≤ 64) : PlOk pb (newPl lb mb n) :=
  ⟨by show pb ≠ mb; omega, by show pb ≠ lb; omega, by show lb ≠ mb; omega, hn, by simp [newPl, EMPTY], fun L hL => by simp [newPl, EMPTY] at hL; rw [hL.2]; exact secOk_zero, fun c hc => (by cases hc), List.nodup_nil, List.nodup_nil, by show (0 : Int) ≤ 0; omega, by show (0 : Int) ≤ 0 ∧ (0 : Int) < _; omega⟩
theorem new_pl (n : Nat) (hn : 1 ≤ n ∧ n ≤ 64) (w : World) :
    Calls Try.prog 18 #[.int .i64 (n : Int)] w (fun e w' => ∃ lb mb pb, e = .returned (.tuple #[.pointer (some ⟨pb, 0, none⟩), .int .i64 0]) ∧ w.heap.size ≤ lb ∧ lb < mb ∧ mb < pb ∧ PlatAt 73 78 w' pb (newPl lb mb n) ∧ Kept (fun _ => False) w w') := by
  refine (new_any n hn w).mono fun e w' ⟨lb, mb, pb, he, h1, h2, h3, h4, h5, h6, h7⟩ => ?_
  rw [secs_empty] at h5
  exact ⟨lb, mb, pb, he, h1, h2, h3, ⟨h4, h5, h6, empty_ok h2 h3 hn⟩, h7⟩
theorem MemOk.off {w wx w' : World} {S S' T : Nat → Prop} {bk : List Bk} {sz : Nat} (hm : MemOk w S bk [] sz wx) (hS : ∀ x, S x → S' x) (hk : Kept T wx w') (hT : ∀ x, T x → S' x ∨ w.heap.size ≤ x) (hb : ∀ b ∈ bk, ¬ T b.g) : MemOk w S' bk [] w'.heap.size w' :=
  ⟨rfl, fun b h => (hm.blk b h).kept hk (hb b h), fun b h hr => (hm.own b h hr).imp_left (hS _), hm.nd, (hm.kept.mono (fun k _ h => hS k h)).trans hk (fun k hk' h => (hT k h).resolve_right (by omega)), fun x hx => by cases hx⟩
def gotM (M : Pl) (k : Int) : RecM := unpackR k (bytesI (readPl M k))
theorem unpack_bad {k : Int} {s : ByteArray} (h : unpackE k s ≠ 0) : unpackR k s = blankR 0 := by
  unfold unpackE unpackR at *
  cases hg : takeGood k s with
  | true => rw [hg] at h; exact absurd rfl h
  | false => rfl
def secOf (k : Int) (r : RecM) : List Int := intsOf (packS k r)
def setPl (M : Pl) (k : Int) (r : RecM) : Pl := if M.goes = true then flushPl (writePl M k (secOf k r)) else writePl M k (secOf k r)
def setE (M : Pl) (k : Int) (r : RecM) : Int := if M.goes = true then goesE (writePl M k (secOf k r)) else 70
theorem mine_write (M : Pl) (pb : Nat) (k : Int) (L : List Int) : minePl pb (writePl M k L) = minePl pb M := by
  obtain ⟨_, _, _, _, h5, h6⟩ := actPl_with M
  unfold minePl writePl
  split <;> simp [h5, h6]
theorem mine_flush (M : Pl) (pb : Nat) : minePl pb (flushPl M) = minePl pb M := by
  obtain ⟨_, _, _, _, h5, h6⟩ := actPl_with M
  unfold minePl flushPl
  split <;> simp [h5, h6]
theorem mine_set (M : Pl) (pb : Nat) (k : Int) (r : RecM) : minePl pb (setPl M k r) = minePl pb M := by
  unfold setPl
  split
  · rw [mine_flush, mine_write]
  · rw [mine_write]
theorem acts_write (M : Pl) (k : Int) (L : List Int) : (writePl M k L).acts ≤ M.acts + 1 := by
  unfold writePl actPl
  cases M.goes <;> cases M.off <;> simp <;> omega
theorem snw_s1 (pb : Nat) (w : World) : Res.prune [0, 1, 4, 5, 16, 17] [] (exec Try.prog (bodyOf Try.f19) 26 23 [⟨false, 0, []⟩, ⟨false, 0, []⟩, ⟨false, 0, []⟩, ⟨false, 0, []⟩, ⟨false, 0, []⟩, ⟨false, 0, []⟩, ⟨false, 0, []⟩, ⟨false, 3, []⟩, ⟨false, 0, []⟩, ⟨false, 0, []⟩, ⟨false, 0, []⟩, ⟨false, 3, []⟩, ⟨false, 0, []⟩, ⟨false, 0, []⟩] [.code []] ⟨[(0, .pointer (some ⟨pb, 0, none⟩)), (1, .int .i64 8)], [], [], w.heap.size⟩) = some ⟨[false = false, false = false, false = false, false = false, false = false, false = false, false = false], dupR [], [.ops [1, 0, 0] [12, 13, 14, 15], .code [1, 0, 1], .code [1, 1]], ⟨[(0, .pointer (some ⟨pb, 0, none⟩)), (1, .int .i64 8), (4, .pointer none), (5, .int .i64 0), (16, .bool false), (17, .pointer (some ⟨pb, 0, none⟩))], [], [], w.heap.size⟩⟩ := by kernel_rfl
theorem snw_c2 (pb : Nat) : callAt Try.prog (opsOf (getCode (bodyOf Try.f19) [1, 0, 0])) [(0, .pointer (some ⟨pb, 0, none⟩)), (1, .int .i64 8), (4, .pointer none), (5, .int .i64 0), (16, .bool false), (17, .pointer (some ⟨pb, 0, none⟩))] 12 = some (33, [.pointer (some ⟨pb, 0, none⟩)], some 18, [false = false]) := by kernel_rfl
theorem snw_s3 (M : Pl) (pb : Nat) (z2 : Nat) : Res.prune [4, 5] [] (exec Try.prog (bodyOf Try.f19) 26 18 [⟨false, 0, []⟩, ⟨false, 0, []⟩, ⟨false, 3, []⟩, ⟨false, 0, []⟩, ⟨false, 0, []⟩, ⟨false, 0, []⟩, ⟨false, 0, []⟩, ⟨false, 0, []⟩, ⟨false, 0, []⟩, ⟨false, 0, []⟩] [.ops [1, 0, 0] [13, 14, 15], .code [1, 0, 1], .code [1, 1]] ⟨[(18, .int .i64 (M.n : Int)), (0, .pointer (some ⟨pb, 0, none⟩)), (1, .int .i64 8), (4, .pointer none), (5, .int .i64 0), (16, .bool false), (17, .pointer (some ⟨pb, 0, none⟩))], [], [], z2⟩) = some ⟨[false = false, false = false, false = false, (decide (((M.n : Int) : Int) < 8)) = false], dupR [], [.code [1, 1, 1]], ⟨[(4, .pointer (some ⟨z2, 0, none⟩)), (5, .int .i64 0)], [⟨z2, 76, true, [.pointer (some ⟨pb, 0, none⟩), .int .i64 8]⟩], [], z2 + 1⟩⟩ := by kernel_rfl
theorem snw_r4 (pb : Nat) (z2 : Nat) : resL Try.prog [] [⟨z2, 76, true, [.pointer (some ⟨pb, 0, none⟩), .int .i64 8]⟩] [(4, .pointer (some ⟨z2, 0, none⟩)), (5, .int .i64 0)] Try.f19.results.toList [] = some ([.pointer (some ⟨z2, 0, none⟩), .int .i64 0], dupR []) := by kernel_rfl
set_option maxRecDepth 100000 in
set_option maxHeartbeats 4000000 in
theorem shelfNew_any (M : Pl) (pb : Nat) (hn : 8 ≤ M.n) (w : World) (hP : PlatAt 73 78 w pb M) :
    Calls Try.prog 19 #[.pointer (some ⟨pb, 0, none⟩), .int .i64 8] w (fun e w' => ∃ sb, e = .returned (.tuple #[.pointer (some ⟨sb, 0, none⟩), .int .i64 0]) ∧ w.heap.size ≤ sb ∧ Blk w' sb 76 [.pointer (some ⟨pb, 0, none⟩), .int .i64 8] ∧ Kept (fun _ => False) w w') := by
  refine calls_of_holds (S := (fun _ => False)) (l := [.pointer (some ⟨pb, 0, none⟩), .int .i64 8]) (n := 26) Try.func19 (body_of (by kernel_rfl)) rfl (by simp) (MemOk.none w _) ?_
  refine holds_go _ _ (snw_s1 pb w) ⟨rfl, rfl, rfl, rfl, rfl, rfl, rfl, trivial⟩ ?_
  refine holds_callP (.int .i64 (M.n : Int)) (snw_c2 pb) ⟨rfl, trivial⟩ rfl (fun wx hm => sectors_any M.n M.lb M.mb pb M.off M.acts M.armed wx (hP.kept hm.kept (fun _ _ h => h)).p) fun z2 hz2 => ?_
  replace hz2 : w.heap.size ≤ z2 := hz2
  refine holds_go _ _ (snw_s3 M pb z2) ⟨rfl, rfl, rfl, decide_eq_false (by omega), trivial⟩ ?_
  refine holds_ret [] (by kernel_rfl) (snw_r4 pb z2) ?_
  intro wx hm
  exact ⟨z2, rfl, by omega, hm.at_ 0 rfl, hm.kept⟩

theorem shs_s1 (k : Int) (st : Int) (pb : Nat) (sb : Nat) (w : World) : Res.prune [4] [] (exec Try.prog (bodyOf Try.f36) 15 21 [⟨false, 0, []⟩, ⟨false, 0, []⟩, ⟨false, 0, []⟩, ⟨false, 0, []⟩, ⟨true, 0, []⟩, ⟨true, 0, []⟩, ⟨true, 0, []⟩, ⟨true, 0, []⟩, ⟨true, 0, [⟨false, 0, 1, 1⟩]⟩, ⟨true, 0, []⟩, ⟨false, 2, []⟩, ⟨false, 0, []⟩] [.code []] ⟨[(0, .pointer (some ⟨sb, 0, none⟩)), (1, .int .i64 k)], [⟨sb, 76, false, [.pointer (some ⟨pb, 0, none⟩), .int .i64 st]⟩], [], w.heap.size⟩) = some ⟨[(decide ((k : Int) ≥ 0)) = true, (decide ((k : Int) ≥ 0)) = true, (decide ((k : Int) ≥ 0)) = true, (decide ((k : Int) ≥ 0)) = true, (decide ((k : Int) ≥ 0)) = true, (decide ((k : Int) ≥ 0)) = true, (decide ((k : Int) ≥ 0)) = true], dupR [(sb, 1, 1)], [.code [1, 1]], ⟨[(4, .bool (decide ((k : Int) < st)))], [⟨sb, 76, false, [.pointer (some ⟨pb, 0, none⟩), .int .i64 st]⟩], [], w.heap.size⟩⟩ := by kernel_rfl
theorem shs_r2 (k : Int) (st : Int) (pb : Nat) (sb : Nat) : resL Try.prog [] [⟨sb, 76, false, [.pointer (some ⟨pb, 0, none⟩), .int .i64 st]⟩] [(4, .bool (decide ((k : Int) < st)))] Try.f36.results.toList [] = some ([.bool (decide ((k : Int) < st))], dupR []) := by kernel_rfl
set_option maxRecDepth 100000 in
set_option maxHeartbeats 4000000 in
theorem shas_true (sb pb : Nat) (st k : Int) (hk : 0 ≤ k ∧ k < st) (w : World) (hs : Blk w sb 76 [.pointer (some ⟨pb, 0, none⟩), .int .i64 st]) :
    Calls Try.prog 36 #[.pointer (some ⟨sb, 0, none⟩), .int .i64 k] w (RetK (.bool true) w) := by
  refine calls_of_holds (S := (fun _ => False)) (l := [.pointer (some ⟨sb, 0, none⟩), .int .i64 k]) (n := 15) Try.func36 (body_of (by kernel_rfl)) rfl (by simp) (MemOk.start (bk := [⟨sb, 76, false, [.pointer (some ⟨pb, 0, none⟩), .int .i64 st]⟩]) (wn := []) (by simpa using hs) (by simp) (by simp) (by simp)) ?_
  refine holds_go _ _ (shs_s1 k st pb sb w) ⟨decide_eq_true (by omega), decide_eq_true (by omega), decide_eq_true (by omega), decide_eq_true (by omega), decide_eq_true (by omega), decide_eq_true (by omega), decide_eq_true (by omega), trivial⟩ ?_
  refine holds_ret [] (by kernel_rfl) (shs_r2 k st pb sb) ?_
  intro wx hm
  exact ⟨ret_bool (decide_eq_true (by omega)), hm.kept⟩

def sgt_v1 : List Value := [.bool false, .int .i64 0, .int .i64 0, .int .i64 0, .string ⟨#[]⟩, .bool false, .int .i64 0, .int .i64 0, .int .i64 0, .string ⟨#[]⟩]
def sgt_v2 (k : Int) (M : Pl) : List Value := [.bool ((unpackR k (bytesI (readPl M k))).used), .int .i64 ((unpackR k (bytesI (readPl M k))).fence), .int .i64 ((unpackR k (bytesI (readPl M k))).de), .int .i64 ((unpackR k (bytesI (readPl M k))).ds), .string ((unpackR k (bytesI (readPl M k))).block), .bool ((unpackR k (bytesI (readPl M k))).op), .int .i64 ((unpackR k (bytesI (readPl M k))).ie), .int .i64 ((unpackR k (bytesI (readPl M k))).is), .int .i64 ((unpackR k (bytesI (readPl M k))).mask), .string ((unpackR k (bytesI (readPl M k))).staged)]
theorem sgt_s1 (k : Int) (st : Int) (pb : Nat) (sb : Nat) (w : World) : Res.prune [0, 1, 4, 5, 9, 10] [] (exec Try.prog (bodyOf Try.f21) 37 13 [⟨false, 0, []⟩, ⟨false, 0, []⟩, ⟨false, 0, []⟩, ⟨false, 0, []⟩] [.code []] ⟨[(0, .pointer (some ⟨sb, 0, none⟩)), (1, .int .i64 k)], [⟨sb, 76, false, [.pointer (some ⟨pb, 0, none⟩), .int .i64 st]⟩], [], w.heap.size⟩) = some ⟨[], dupR [], [.ops [1, 0, 0] [2, 3], .code [1, 0, 1], .code [1, 1]], ⟨[(0, .pointer (some ⟨sb, 0, none⟩)), (1, .int .i64 k), (4, .pointer (some ⟨w.heap.size, 0, none⟩)), (5, .int .i64 0), (9, .pointer (some ⟨sb, 0, none⟩)), (10, .int .i64 k)], [⟨sb, 76, false, [.pointer (some ⟨pb, 0, none⟩), .int .i64 st]⟩, ⟨w.heap.size, 25, true, (sgt_v1)⟩], [], w.heap.size + 1⟩⟩ := by kernel_rfl
theorem sgt_c2 (k : Int) (sb : Nat) (w : World) : callAt Try.prog (opsOf (getCode (bodyOf Try.f21) [1, 0, 0])) [(0, .pointer (some ⟨sb, 0, none⟩)), (1, .int .i64 k), (4, .pointer (some ⟨w.heap.size, 0, none⟩)), (5, .int .i64 0), (9, .pointer (some ⟨sb, 0, none⟩)), (10, .int .i64 k)] 2 = some (36, [.pointer (some ⟨sb, 0, none⟩), .int .i64 k], some 11, []) := by kernel_rfl
theorem sgt_s3 (k : Int) (st : Int) (pb : Nat) (sb : Nat) (w : World) (z2 : Nat) : Res.prune [1, 4, 5, 18, 19] [] (exec Try.prog (bodyOf Try.f21) 37 14 [⟨false, 0, []⟩, ⟨false, 0, []⟩, ⟨false, 0, []⟩, ⟨false, 0, []⟩, ⟨false, 0, []⟩, ⟨false, 0, [⟨false, 0, 0, 1⟩]⟩, ⟨false, 0, []⟩] [.ops [1, 0, 0] [3], .code [1, 0, 1], .code [1, 1]] ⟨[(11, .bool true), (0, .pointer (some ⟨sb, 0, none⟩)), (1, .int .i64 k), (4, .pointer (some ⟨w.heap.size, 0, none⟩)), (5, .int .i64 0), (9, .pointer (some ⟨sb, 0, none⟩)), (10, .int .i64 k)], [⟨sb, 76, false, [.pointer (some ⟨pb, 0, none⟩), .int .i64 st]⟩, ⟨w.heap.size, 25, true, (sgt_v1)⟩], [], z2⟩) = some ⟨[false = false], dupR [(sb, 0, 1)], [.ops [1, 1, 0] [5, 6, 7, 8, 9, 10], .code [1, 1, 1]], ⟨[(1, .int .i64 k), (4, .pointer (some ⟨w.heap.size, 0, none⟩)), (5, .int .i64 0), (18, .pointer (some ⟨pb, 0, none⟩)), (19, .int .i64 k)], [⟨sb, 76, false, [.pointer (some ⟨pb, 0, none⟩), .int .i64 st]⟩, ⟨w.heap.size, 25, true, (sgt_v1)⟩], [], z2⟩⟩ := by kernel_rfl
theorem sgt_c4 (k : Int) (pb : Nat) (w : World) : callAt Try.prog (opsOf (getCode (bodyOf Try.f21) [1, 1, 0])) [(1, .int .i64 k), (4, .pointer (some ⟨w.heap.size, 0, none⟩)), (5, .int .i64 0), (18, .pointer (some ⟨pb, 0, none⟩)), (19, .int .i64 k)] 5 = some (37, [.pointer (some ⟨pb, 0, none⟩), .int .i64 k], some 20, []) := by kernel_rfl
theorem sgt_s5 (k : Int) (st : Int) (M : Pl) (pb : Nat) (sb : Nat) (w : World) (z4 : Nat) : Res.prune [4, 5, 7, 28, 29] [] (exec Try.prog (bodyOf Try.f21) 37 21 [⟨false, 0, []⟩, ⟨false, 0, []⟩, ⟨false, 0, []⟩, ⟨false, 0, []⟩, ⟨false, 0, []⟩, ⟨false, 0, []⟩, ⟨false, 0, []⟩, ⟨false, 0, []⟩, ⟨false, 0, []⟩, ⟨false, 0, []⟩] [.ops [1, 1, 0] [6, 7, 8, 9, 10], .code [1, 1, 1]] ⟨[(20, .tuple #[.string (bytesI (readPl M k)), .int .i64 0]), (1, .int .i64 k), (4, .pointer (some ⟨w.heap.size, 0, none⟩)), (5, .int .i64 0), (18, .pointer (some ⟨pb, 0, none⟩)), (19, .int .i64 k)], [⟨sb, 76, false, [.pointer (some ⟨pb, 0, none⟩), .int .i64 st]⟩, ⟨w.heap.size, 25, true, (sgt_v1)⟩], [], z4⟩) = some ⟨[false = false], dupR [], [.ops [1, 1, 1, 1, 0] [2, 3, 4, 5, 6, 7, 8], .code [1, 1, 1, 1, 1]], ⟨[(4, .pointer (some ⟨w.heap.size, 0, none⟩)), (5, .int .i64 0), (7, .int .i64 0), (28, .int .i64 k), (29, .string (bytesI (readPl M k)))], [⟨sb, 76, false, [.pointer (some ⟨pb, 0, none⟩), .int .i64 st]⟩, ⟨w.heap.size, 25, true, (sgt_v1)⟩], [], z4⟩⟩ := by kernel_rfl
theorem sgt_c6 (k : Int) (M : Pl) (w : World) : callAt Try.prog (opsOf (getCode (bodyOf Try.f21) [1, 1, 1, 1, 0])) [(4, .pointer (some ⟨w.heap.size, 0, none⟩)), (5, .int .i64 0), (7, .int .i64 0), (28, .int .i64 k), (29, .string (bytesI (readPl M k)))] 2 = some (12, [.int .i64 k, .string (bytesI (readPl M k))], some 30, []) := by kernel_rfl
theorem sgt_s7 (k : Int) (st : Int) (M : Pl) (pb : Nat) (sb : Nat) (w : World) (z6 : Nat) : Res.prune [4, 5, 8, 34] [] (exec Try.prog (bodyOf Try.f21) 37 16 [⟨false, 0, []⟩, ⟨false, 0, []⟩, ⟨false, 0, []⟩, ⟨false, 0, []⟩, ⟨false, 0, [⟨false, 2, 0, 10⟩]⟩, ⟨false, 0, []⟩, ⟨false, 0, []⟩, ⟨false, 0, []⟩] [.ops [1, 1, 1, 1, 0] [3, 4, 5, 6, 7, 8], .code [1, 1, 1, 1, 1]] ⟨[(30, .tuple #[.agg (List.toArray (sgt_v2 k M)), .int .i64 (unpackE k (bytesI (readPl M k)))]), (4, .pointer (some ⟨w.heap.size, 0, none⟩)), (5, .int .i64 0), (7, .int .i64 0), (28, .int .i64 k), (29, .string (bytesI (readPl M k)))], [⟨sb, 76, false, [.pointer (some ⟨pb, 0, none⟩), .int .i64 st]⟩, ⟨w.heap.size, 25, true, (sgt_v1)⟩], [], z6⟩) = some ⟨[], dupR [(z6, 0, 10)], [.code [1, 1, 1, 1, 1, 0, 1], .code [1, 1, 1, 1, 1, 1]], ⟨[(4, .pointer (some ⟨w.heap.size, 0, none⟩)), (5, .int .i64 0), (8, .pointer (some ⟨z6, 0, none⟩)), (34, .bool ((unpackE k (bytesI (readPl M k))) != 0))], [⟨sb, 76, false, [.pointer (some ⟨pb, 0, none⟩), .int .i64 st]⟩, ⟨w.heap.size, 25, true, (sgt_v1)⟩, ⟨z6, 25, true, (sgt_v2 k M)⟩], [], z6 + 1⟩⟩ := by kernel_rfl
theorem sgt_s8 (k : Int) (st : Int) (M : Pl) (pb : Nat) (sb : Nat) (w : World) (z6 : Nat) : Res.prune [4, 5, 8] [] (exec Try.prog (bodyOf Try.f21) 37 10 [⟨true, 0, []⟩, ⟨false, 0, []⟩, ⟨false, 0, [⟨false, 1, 0, 10⟩]⟩, ⟨false, 0, []⟩] [.code [1, 1, 1, 1, 1, 0, 1], .code [1, 1, 1, 1, 1, 1]] ⟨[(4, .pointer (some ⟨w.heap.size, 0, none⟩)), (5, .int .i64 0), (8, .pointer (some ⟨z6, 0, none⟩)), (34, .bool ((unpackE k (bytesI (readPl M k))) != 0))], [⟨sb, 76, false, [.pointer (some ⟨pb, 0, none⟩), .int .i64 st]⟩, ⟨w.heap.size, 25, true, (sgt_v1)⟩, ⟨z6, 25, true, (sgt_v2 k M)⟩], [], z6 + 1⟩) = some ⟨[((unpackE k (bytesI (readPl M k))) != 0) = true], dupR [(w.heap.size, 0, 10)], [.code [1, 1, 1, 1, 1, 0, 1, 0, 1], .code [1, 1, 1, 1, 1, 1]], ⟨[(4, .pointer (some ⟨w.heap.size, 0, none⟩)), (5, .int .i64 0), (8, .pointer (some ⟨z6, 0, none⟩))], [⟨sb, 76, false, [.pointer (some ⟨pb, 0, none⟩), .int .i64 st]⟩, ⟨w.heap.size, 25, true, (sgt_v1)⟩, ⟨z6, 25, true, (sgt_v2 k M)⟩], [], z6 + 1⟩⟩ := by kernel_rfl
theorem sgt_r9 (k : Int) (st : Int) (M : Pl) (pb : Nat) (sb : Nat) (w : World) (z6 : Nat) : resL Try.prog [] [⟨sb, 76, false, [.pointer (some ⟨pb, 0, none⟩), .int .i64 st]⟩, ⟨w.heap.size, 25, true, (sgt_v1)⟩, ⟨z6, 25, true, (sgt_v2 k M)⟩] [(4, .pointer (some ⟨w.heap.size, 0, none⟩)), (5, .int .i64 0), (8, .pointer (some ⟨z6, 0, none⟩))] Try.f21.results.toList [[⟨false, 1, 0, 10⟩]] = some ([.agg (List.toArray (sgt_v1)), .int .i64 0], dupR [(w.heap.size, 0, 10)]) := by kernel_rfl
theorem sgt_s10 (k : Int) (st : Int) (M : Pl) (pb : Nat) (sb : Nat) (w : World) (z6 : Nat) : Res.prune [4, 5] [] (exec Try.prog (bodyOf Try.f21) 37 11 [⟨false, 0, []⟩, ⟨false, 0, [⟨false, 2, 0, 10⟩]⟩, ⟨false, 0, [⟨false, 1, 0, 10⟩]⟩, ⟨false, 0, []⟩] [.code [1, 1, 1, 1, 1, 0, 1], .code [1, 1, 1, 1, 1, 1]] ⟨[(4, .pointer (some ⟨w.heap.size, 0, none⟩)), (5, .int .i64 0), (8, .pointer (some ⟨z6, 0, none⟩)), (34, .bool ((unpackE k (bytesI (readPl M k))) != 0))], [⟨sb, 76, false, [.pointer (some ⟨pb, 0, none⟩), .int .i64 st]⟩, ⟨w.heap.size, 25, true, (sgt_v1)⟩, ⟨z6, 25, true, (sgt_v2 k M)⟩], [], z6 + 1⟩) = some ⟨[((unpackE k (bytesI (readPl M k))) != 0) = false], dupR [(z6, 0, 10), (w.heap.size, 0, 10)], [.code [1, 1, 1, 1, 1, 1, 1]], ⟨[(4, .pointer (some ⟨w.heap.size, 0, none⟩)), (5, .int .i64 0)], [⟨sb, 76, false, [.pointer (some ⟨pb, 0, none⟩), .int .i64 st]⟩, ⟨w.heap.size, 25, true, (sgt_v2 k M)⟩, ⟨z6, 25, true, (sgt_v2 k M)⟩], [], z6 + 1⟩⟩ := by kernel_rfl
theorem sgt_r11 (k : Int) (st : Int) (M : Pl) (pb : Nat) (sb : Nat) (w : World) (z6 : Nat) : resL Try.prog [] [⟨sb, 76, false, [.pointer (some ⟨pb, 0, none⟩), .int .i64 st]⟩, ⟨w.heap.size, 25, true, (sgt_v2 k M)⟩, ⟨z6, 25, true, (sgt_v2 k M)⟩] [(4, .pointer (some ⟨w.heap.size, 0, none⟩)), (5, .int .i64 0)] Try.f21.results.toList [[⟨false, 1, 0, 10⟩]] = some ([.agg (List.toArray (sgt_v2 k M)), .int .i64 0], dupR [(w.heap.size, 0, 10)]) := by kernel_rfl
set_option maxRecDepth 100000 in
set_option maxHeartbeats 4000000 in
theorem get_pl (M : Pl) (sb pb : Nat) (st k : Int) (hk : 0 ≤ k ∧ k < st) (hk2 : 0 ≤ k ∧ k < (M.n : Int)) (hoff : M.off = false) (w : World) (hP : PlatAt 73 78 w pb M) (hs : Blk w sb 76 [.pointer (some ⟨pb, 0, none⟩), .int .i64 st]) :
    Calls Try.prog 21 #[.pointer (some ⟨sb, 0, none⟩), .int .i64 k] w (RetK (.tuple #[.agg (gotM M k).cells.toArray, .int .i64 0]) w) := by
  refine calls_of_holds (S := (fun _ => False)) (l := [.pointer (some ⟨sb, 0, none⟩), .int .i64 k]) (n := 37) Try.func21 (body_of (by kernel_rfl)) rfl (by simp) (MemOk.start (bk := [⟨sb, 76, false, [.pointer (some ⟨pb, 0, none⟩), .int .i64 st]⟩]) (wn := []) (by simpa using hs) (by simp) (by simp) (by simp)) ?_
  refine holds_go _ _ (sgt_s1 k st pb sb w) trivial ?_
  refine holds_callP (.bool true) (sgt_c2 k sb w) trivial rfl (fun wx hm => shas_true sb pb st k hk wx (hm.at_ 0 rfl)) fun z2 hz2 => ?_
  replace hz2 : w.heap.size + 1 ≤ z2 := hz2
  refine holds_go _ _ (sgt_s3 k st pb sb w z2) ⟨rfl, trivial⟩ ?_
  refine holds_callP (.tuple #[.string (bytesI (readPl M k)), .int .i64 0]) (sgt_c4 k pb w) trivial rfl (fun wx hm => read_pl M pb k hk2 hoff wx (hP.kept hm.kept (fun _ _ h => h))) fun z4 hz4 => ?_
  replace hz4 : z2 ≤ z4 := hz4
  refine holds_go _ _ (sgt_s5 k st M pb sb w z4) ⟨rfl, trivial⟩ ?_
  refine holds_callP (.tuple #[.agg (List.toArray (sgt_v2 k M)), .int .i64 (unpackE k (bytesI (readPl M k)))]) (sgt_c6 k M w) trivial rfl (fun wx hm => unpack_any k (bytesI (readPl M k)) wx) fun z6 hz6 => ?_
  replace hz6 : z4 ≤ z6 := hz6
  refine holds_go _ _ (sgt_s7 k st M pb sb w z6) trivial ?_
  rcases Bool.eq_false_or_eq_true ((unpackE k (bytesI (readPl M k))) != 0) with d1 | d1
  · skip
    refine holds_go _ _ (sgt_s8 k st M pb sb w z6) ⟨d1, trivial⟩ ?_
    refine holds_ret [[⟨false, 1, 0, 10⟩]] (by kernel_rfl) (sgt_r9 k st M pb sb w z6) ?_
    intro wx hm
    refine ⟨?_, hm.kept⟩
    have e := unpack_bad (k := k) (s := (bytesI (readPl M k))) (fun e => by rw [e] at d1; cases d1)
    unfold gotM
    rw [e]
    rfl
  · skip
    refine holds_go _ _ (sgt_s10 k st M pb sb w z6) ⟨d1, trivial⟩ ?_
    refine holds_ret [[⟨false, 1, 0, 10⟩]] (by kernel_rfl) (sgt_r11 k st M pb sb w z6) ?_
    intro wx hm
    refine ⟨?_, hm.kept⟩
    rfl

def sst_v1 (r : RecM) : List Value := [.bool r.used, .int .i64 r.fence, .int .i64 r.de, .int .i64 r.ds, .string r.block, .bool r.op, .int .i64 r.ie, .int .i64 r.is, .int .i64 r.mask, .string r.staged]
theorem sst_s1 (k : Int) (st : Int) (r : RecM) (pb : Nat) (sb : Nat) (w : World) : Res.prune [0, 1, 5, 6, 10, 11] [] (exec Try.prog (bodyOf Try.f22) 38 13 [⟨false, 0, []⟩, ⟨false, 0, []⟩, ⟨false, 0, []⟩, ⟨false, 0, []⟩] [.code []] ⟨[(0, .pointer (some ⟨sb, 0, none⟩)), (1, .int .i64 k), (2, .agg (List.toArray (sst_v1 r)))], [⟨sb, 76, false, [.pointer (some ⟨pb, 0, none⟩), .int .i64 st]⟩], [], w.heap.size⟩) = some ⟨[], dupR [], [.ops [1, 0, 0] [2, 3], .code [1, 0, 1], .code [1, 1]], ⟨[(0, .pointer (some ⟨sb, 0, none⟩)), (1, .int .i64 k), (5, .pointer (some ⟨w.heap.size, 0, none⟩)), (6, .int .i64 0), (10, .pointer (some ⟨sb, 0, none⟩)), (11, .int .i64 k)], [⟨sb, 76, false, [.pointer (some ⟨pb, 0, none⟩), .int .i64 st]⟩, ⟨w.heap.size, 25, true, (sst_v1 r)⟩], [], w.heap.size + 1⟩⟩ := by kernel_rfl
theorem sst_c2 (k : Int) (sb : Nat) (w : World) : callAt Try.prog (opsOf (getCode (bodyOf Try.f22) [1, 0, 0])) [(0, .pointer (some ⟨sb, 0, none⟩)), (1, .int .i64 k), (5, .pointer (some ⟨w.heap.size, 0, none⟩)), (6, .int .i64 0), (10, .pointer (some ⟨sb, 0, none⟩)), (11, .int .i64 k)] 2 = some (36, [.pointer (some ⟨sb, 0, none⟩), .int .i64 k], some 12, []) := by kernel_rfl
theorem sst_s3 (k : Int) (st : Int) (r : RecM) (pb : Nat) (sb : Nat) (w : World) (z2 : Nat) : Res.prune [0, 1, 6, 15, 16] [] (exec Try.prog (bodyOf Try.f22) 38 11 [⟨false, 0, []⟩, ⟨false, 0, []⟩, ⟨false, 0, []⟩, ⟨false, 0, [⟨false, 1, 0, 10⟩]⟩] [.ops [1, 0, 0] [3], .code [1, 0, 1], .code [1, 1]] ⟨[(12, .bool true), (0, .pointer (some ⟨sb, 0, none⟩)), (1, .int .i64 k), (5, .pointer (some ⟨w.heap.size, 0, none⟩)), (6, .int .i64 0), (10, .pointer (some ⟨sb, 0, none⟩)), (11, .int .i64 k)], [⟨sb, 76, false, [.pointer (some ⟨pb, 0, none⟩), .int .i64 st]⟩, ⟨w.heap.size, 25, true, (sst_v1 r)⟩], [], z2⟩) = some ⟨[false = false], dupR [(w.heap.size, 0, 10)], [.ops [1, 1, 0] [2, 3, 4, 5, 6, 7], .code [1, 1, 1]], ⟨[(0, .pointer (some ⟨sb, 0, none⟩)), (1, .int .i64 k), (6, .int .i64 0), (15, .int .i64 k), (16, .agg (List.toArray (sst_v1 r)))], [⟨sb, 76, false, [.pointer (some ⟨pb, 0, none⟩), .int .i64 st]⟩, ⟨w.heap.size, 25, true, (sst_v1 r)⟩], [], z2⟩⟩ := by kernel_rfl
theorem sst_c4 (k : Int) (r : RecM) (sb : Nat) : callAt Try.prog (opsOf (getCode (bodyOf Try.f22) [1, 1, 0])) [(0, .pointer (some ⟨sb, 0, none⟩)), (1, .int .i64 k), (6, .int .i64 0), (15, .int .i64 k), (16, .agg (List.toArray (sst_v1 r)))] 2 = some (10, [.int .i64 k, .agg (List.toArray (sst_v1 r))], some 17, []) := by kernel_rfl
theorem sst_s5 (k : Int) (st : Int) (r : RecM) (pb : Nat) (sb : Nat) (w : World) (z4 : Nat) : Res.prune [0, 6, 26, 27, 28] [] (exec Try.prog (bodyOf Try.f22) 38 26 [⟨false, 0, []⟩, ⟨false, 0, []⟩, ⟨false, 0, []⟩, ⟨false, 0, []⟩, ⟨false, 0, []⟩, ⟨false, 0, []⟩, ⟨false, 0, []⟩, ⟨false, 0, []⟩, ⟨false, 0, []⟩, ⟨false, 0, []⟩, ⟨false, 0, []⟩, ⟨false, 0, [⟨false, 0, 0, 1⟩]⟩, ⟨false, 0, []⟩, ⟨false, 0, []⟩] [.ops [1, 1, 0] [3, 4, 5, 6, 7], .code [1, 1, 1]] ⟨[(17, .tuple #[.string (packS k r), .int .i64 0]), (0, .pointer (some ⟨sb, 0, none⟩)), (1, .int .i64 k), (6, .int .i64 0), (15, .int .i64 k), (16, .agg (List.toArray (sst_v1 r)))], [⟨sb, 76, false, [.pointer (some ⟨pb, 0, none⟩), .int .i64 st]⟩, ⟨w.heap.size, 25, true, (sst_v1 r)⟩], [], z4⟩) = some ⟨[false = false], dupR [(sb, 0, 1)], [.ops [1, 1, 1, 1, 0, 0] [6, 7], .code [1, 1, 1, 1, 0, 1], .code [1, 1, 1, 1, 1]], ⟨[(0, .pointer (some ⟨sb, 0, none⟩)), (6, .int .i64 0), (26, .pointer (some ⟨pb, 0, none⟩)), (27, .int .i64 k), (28, .string (packS k r))], [⟨sb, 76, false, [.pointer (some ⟨pb, 0, none⟩), .int .i64 st]⟩, ⟨w.heap.size, 25, true, (sst_v1 r)⟩], [], z4⟩⟩ := by kernel_rfl
theorem sst_c6 (k : Int) (r : RecM) (pb : Nat) (sb : Nat) : callAt Try.prog (opsOf (getCode (bodyOf Try.f22) [1, 1, 1, 1, 0, 0])) [(0, .pointer (some ⟨sb, 0, none⟩)), (6, .int .i64 0), (26, .pointer (some ⟨pb, 0, none⟩)), (27, .int .i64 k), (28, .string (packS k r))] 6 = some (20, [.pointer (some ⟨pb, 0, none⟩), .int .i64 k, .string (packS k r)], some 29, []) := by kernel_rfl
theorem sst_s7 (k : Int) (st : Int) (M : Pl) (r : RecM) (pb : Nat) (sb : Nat) (w : World) (W1 : World) : Res.prune [0, 6, 9, 31] [] (exec Try.prog (bodyOf Try.f22) 38 10 [⟨false, 0, []⟩, ⟨false, 0, []⟩, ⟨false, 0, []⟩] [.ops [1, 1, 1, 1, 0, 0] [7], .code [1, 1, 1, 1, 0, 1], .code [1, 1, 1, 1, 1]] ⟨[(29, .int .i64 (goesE M)), (0, .pointer (some ⟨sb, 0, none⟩)), (6, .int .i64 0), (26, .pointer (some ⟨pb, 0, none⟩)), (27, .int .i64 k), (28, .string (packS k r))], [⟨sb, 76, false, [.pointer (some ⟨pb, 0, none⟩), .int .i64 st]⟩, ⟨w.heap.size, 25, true, (sst_v1 r)⟩], [], W1.heap.size⟩) = some ⟨[], dupR [], [.code [1, 1, 1, 1, 0, 1, 1], .code [1, 1, 1, 1, 1]], ⟨[(0, .pointer (some ⟨sb, 0, none⟩)), (6, .int .i64 0), (9, .int .i64 (goesE M)), (31, .bool ((goesE M) != 0))], [⟨sb, 76, false, [.pointer (some ⟨pb, 0, none⟩), .int .i64 st]⟩, ⟨w.heap.size, 25, true, (sst_v1 r)⟩], [], W1.heap.size⟩⟩ := by kernel_rfl
theorem sst_s8 (st : Int) (M : Pl) (r : RecM) (pb : Nat) (sb : Nat) (w : World) (W1 : World) : Res.prune [0, 6] [] (exec Try.prog (bodyOf Try.f22) 38 9 [⟨true, 0, []⟩, ⟨false, 0, []⟩, ⟨false, 0, []⟩] [.code [1, 1, 1, 1, 0, 1, 1], .code [1, 1, 1, 1, 1]] ⟨[(0, .pointer (some ⟨sb, 0, none⟩)), (6, .int .i64 0), (9, .int .i64 (goesE M)), (31, .bool ((goesE M) != 0))], [⟨sb, 76, false, [.pointer (some ⟨pb, 0, none⟩), .int .i64 st]⟩, ⟨w.heap.size, 25, true, (sst_v1 r)⟩], [], W1.heap.size⟩) = some ⟨[((goesE M) != 0) = true], dupR [], [.code [1, 1, 1, 1, 0, 1, 1, 0, 1], .code [1, 1, 1, 1, 1]], ⟨[(0, .pointer (some ⟨sb, 0, none⟩)), (6, .int .i64 (goesE M))], [⟨sb, 76, false, [.pointer (some ⟨pb, 0, none⟩), .int .i64 st]⟩, ⟨w.heap.size, 25, true, (sst_v1 r)⟩], [], W1.heap.size⟩⟩ := by kernel_rfl
theorem sst_r9 (st : Int) (M : Pl) (r : RecM) (pb : Nat) (sb : Nat) (w : World) : resL Try.prog [] [⟨sb, 76, false, [.pointer (some ⟨pb, 0, none⟩), .int .i64 st]⟩, ⟨w.heap.size, 25, true, (sst_v1 r)⟩] [(0, .pointer (some ⟨sb, 0, none⟩)), (6, .int .i64 (goesE M))] Try.f22.results.toList [] = some ([.int .i64 (goesE M)], dupR []) := by kernel_rfl
theorem sst_s10 (st : Int) (M : Pl) (r : RecM) (pb : Nat) (sb : Nat) (w : World) (W1 : World) : Res.prune [6, 36] [] (exec Try.prog (bodyOf Try.f22) 38 11 [⟨false, 0, []⟩, ⟨false, 0, []⟩, ⟨false, 0, []⟩, ⟨false, 0, []⟩, ⟨false, 0, [⟨false, 0, 0, 1⟩]⟩] [.code [1, 1, 1, 1, 0, 1, 1], .code [1, 1, 1, 1, 1]] ⟨[(0, .pointer (some ⟨sb, 0, none⟩)), (6, .int .i64 0), (9, .int .i64 (goesE M)), (31, .bool ((goesE M) != 0))], [⟨sb, 76, false, [.pointer (some ⟨pb, 0, none⟩), .int .i64 st]⟩, ⟨w.heap.size, 25, true, (sst_v1 r)⟩], [], W1.heap.size⟩) = some ⟨[((goesE M) != 0) = false], dupR [(sb, 0, 1)], [.ops [1, 1, 1, 1, 1, 0] [4, 5], .code [1, 1, 1, 1, 1, 1]], ⟨[(6, .int .i64 0), (36, .pointer (some ⟨pb, 0, none⟩))], [⟨sb, 76, false, [.pointer (some ⟨pb, 0, none⟩), .int .i64 st]⟩, ⟨w.heap.size, 25, true, (sst_v1 r)⟩], [], W1.heap.size⟩⟩ := by kernel_rfl
theorem sst_c11 (pb : Nat) : callAt Try.prog (opsOf (getCode (bodyOf Try.f22) [1, 1, 1, 1, 1, 0])) [(6, .int .i64 0), (36, .pointer (some ⟨pb, 0, none⟩))] 4 = some (38, [.pointer (some ⟨pb, 0, none⟩)], some 37, []) := by kernel_rfl
theorem sst_s12 (k : Int) (st : Int) (M : Pl) (r : RecM) (pb : Nat) (sb : Nat) (w : World) (W2 : World) : Res.prune [6] [] (exec Try.prog (bodyOf Try.f22) 38 5 [⟨false, 0, []⟩] [.ops [1, 1, 1, 1, 1, 0] [5], .code [1, 1, 1, 1, 1, 1]] ⟨[(37, .int .i64 (goesE (writePl M k (secOf k r)))), (6, .int .i64 0), (36, .pointer (some ⟨pb, 0, none⟩))], [⟨sb, 76, false, [.pointer (some ⟨pb, 0, none⟩), .int .i64 st]⟩, ⟨w.heap.size, 25, true, (sst_v1 r)⟩], [], W2.heap.size⟩) = some ⟨[], dupR [], [.code [1, 1, 1, 1, 1, 1]], ⟨[(6, .int .i64 (goesE (writePl M k (secOf k r))))], [⟨sb, 76, false, [.pointer (some ⟨pb, 0, none⟩), .int .i64 st]⟩, ⟨w.heap.size, 25, true, (sst_v1 r)⟩], [], W2.heap.size⟩⟩ := by kernel_rfl
theorem sst_r13 (k : Int) (st : Int) (M : Pl) (r : RecM) (pb : Nat) (sb : Nat) (w : World) : resL Try.prog [] [⟨sb, 76, false, [.pointer (some ⟨pb, 0, none⟩), .int .i64 st]⟩, ⟨w.heap.size, 25, true, (sst_v1 r)⟩] [(6, .int .i64 (goesE (writePl M k (secOf k r))))] Try.f22.results.toList [] = some ([.int .i64 (goesE (writePl M k (secOf k r)))], dupR []) := by kernel_rfl
set_option maxRecDepth 100000 in
set_option maxHeartbeats 4000000 in
theorem set_pl (M : Pl) (sb pb : Nat) (st k : Int) (r : RecM) (hrk : RecOk r) (hkb : 0 ≤ k ∧ k ≤ 7) (hk : 0 ≤ k ∧ k < st) (hk2 : 0 ≤ k ∧ k < (M.n : Int)) (ha : M.acts < 4611686018427387900) (hsb : ¬ minePl pb M sb) (w : World) (hP : PlatAt 73 78 w pb M) (hs : Blk w sb 76 [.pointer (some ⟨pb, 0, none⟩), .int .i64 st]) :
    Calls Try.prog 22 #[.pointer (some ⟨sb, 0, none⟩), .int .i64 k, .agg #[.bool r.used, .int .i64 r.fence, .int .i64 r.de, .int .i64 r.ds, .string r.block, .bool r.op, .int .i64 r.ie, .int .i64 r.is, .int .i64 r.mask, .string r.staged]] w (fun e w' => e = .returned (.int .i64 (setE M k r)) ∧ PlatAt 73 78 w' pb (setPl M k r) ∧ Kept (minePl pb M) w w') := by
  have hmine : ∀ x, minePl pb M x → x < w.heap.size := fun x hx => by
    obtain ⟨h1, h2, h3⟩ := hP.lt
    rcases hx with rfl | rfl | rfl <;> assumption
  refine calls_of_holds (S := (fun _ => False)) (l := [.pointer (some ⟨sb, 0, none⟩), .int .i64 k, .agg (List.toArray (sst_v1 r))]) (n := 38) Try.func22 (body_of (by kernel_rfl)) rfl (by simp) (MemOk.start (bk := [⟨sb, 76, false, [.pointer (some ⟨pb, 0, none⟩), .int .i64 st]⟩]) (wn := []) (by simpa using hs) (by simp) (by simp) (by simp)) ?_
  refine holds_go _ _ (sst_s1 k st r pb sb w) trivial ?_
  refine holds_callP (.bool true) (sst_c2 k sb w) trivial rfl (fun wx hm => shas_true sb pb st k hk wx (hm.at_ 0 rfl)) fun z2 hz2 => ?_
  replace hz2 : w.heap.size + 1 ≤ z2 := hz2
  refine holds_go _ _ (sst_s3 k st r pb sb w z2) ⟨rfl, trivial⟩ ?_
  refine holds_callP (.tuple #[.string (packS k r), .int .i64 0]) (sst_c4 k r sb) trivial rfl (fun wx hm => by have h := pack_any k r wx; rw [packT_ok hkb hrk, packE_ok hkb hrk] at h; exact h) fun z4 hz4 => ?_
  replace hz4 : z2 ≤ z4 := hz4
  refine holds_go _ _ (sst_s5 k st r pb sb w z4) ⟨rfl, trivial⟩ ?_
  have hbx : w.heap.size ≤ w.heap.size := by omega
  have hnT : ∀ x, minePl pb M x → ¬ Turned [⟨sb, 76, false, [.pointer (some ⟨pb, 0, none⟩), .int .i64 st]⟩, ⟨w.heap.size, 25, true, (sst_v1 r)⟩] x := by
    rintro x hx ⟨b, hb, hr, he⟩
    have hx2 := hmine x hx
    simp at hb
    rcases hb with rfl | rfl <;> simp at he hr <;> omega
  have hnB : ∀ b ∈ ([⟨sb, 76, false, [.pointer (some ⟨pb, 0, none⟩), .int .i64 st]⟩, ⟨w.heap.size, 25, true, (sst_v1 r)⟩] : List Bk), ¬ minePl pb M b.g := by
    intro b hb h
    have hx2 := hmine _ h
    simp at hb
    rcases hb with rfl | rfl
    · exact hsb h
    · exact absurd hx2 (Nat.lt_irrefl _)
  refine holds_callW (w := w) (S' := (minePl pb M)) (Y := Nat) (fun _ => .int .i64 (goesE M)) (fun _ => [⟨sb, 76, false, [.pointer (some ⟨pb, 0, none⟩), .int .i64 st]⟩, ⟨w.heap.size, 25, true, (sst_v1 r)⟩]) (fun _ W_ => PlatAt 73 78 W_ pb (writePl M k (secOf k r))) (fun _ => [(29, .int .i64 (goesE M)), (0, .pointer (some ⟨sb, 0, none⟩)), (6, .int .i64 0), (26, .pointer (some ⟨pb, 0, none⟩)), (27, .int .i64 k), (28, .string (packS k r))]) (sst_c6 k r pb sb) trivial (fun _ => rfl) (fun wx hm => ?_) (fun _ W1 hX1 hm1 => ?_)
  · refine (write_pl M pb k (packS k r) (by omega) hk2 (by rw [size_packS]) wx (hP.kept hm.kept (fun _ _ h => h))).mono fun e w' ⟨h1, h2, h3⟩ => ?_
    exact ⟨0, h1, h2, hm.off (fun _ h => h.elim) h3 (fun _ h => .inl h) hnB⟩
  refine holds_go _ _ (sst_s7 k st M r pb sb w W1) trivial ?_
  cases hg : M.goes with
  | false =>
    have hge : goesE M = 70 := by simp [goesE, hg]
    have hsE : setE M k r = goesE M := by simp [setE, hg, hge]
    have hsP : setPl M k r = (writePl M k (secOf k r)) := by simp [setPl, hg]
    refine holds_go _ _ (sst_s8 st M r pb sb w W1) ⟨by rw [hge]; rfl, trivial⟩ ?_
    refine holds_ret [] (by kernel_rfl) (sst_r9 st M r pb sb w) ?_
    intro wx hm
    rw [hsE, hsP]
    exact ⟨rfl, hX1.kept hm.kept (by rw [mine_write]; exact hnT), (hm1.back hm).kept⟩
  | true =>
    have hge : goesE M = 0 := by simp [goesE, hg]
    have hsE : setE M k r = goesE (writePl M k (secOf k r)) := by simp [setE, hg]
    have hsP : setPl M k r = flushPl (writePl M k (secOf k r)) := by simp [setPl, hg]
    refine holds_go _ _ (sst_s10 st M r pb sb w W1) ⟨by rw [hge]; rfl, trivial⟩ ?_
    refine holds_callW (w := w) (S' := (minePl pb M)) (Y := Nat) (fun _ => .int .i64 (goesE (writePl M k (secOf k r)))) (fun _ => [⟨sb, 76, false, [.pointer (some ⟨pb, 0, none⟩), .int .i64 st]⟩, ⟨w.heap.size, 25, true, (sst_v1 r)⟩]) (fun _ W_ => PlatAt 73 78 W_ pb (flushPl (writePl M k (secOf k r)))) (fun _ => [(37, .int .i64 (goesE (writePl M k (secOf k r)))), (6, .int .i64 0), (36, .pointer (some ⟨pb, 0, none⟩))]) (sst_c11 pb) trivial (fun _ => rfl) (fun wx hm => ?_) (fun _ W2 hX2 hm2 => ?_)
    · refine (flush_pl (writePl M k (secOf k r)) pb (by have := acts_write M k (secOf k r); omega) wx (hX1.kept hm.kept (by rw [mine_write]; exact hnT))).mono fun e w' ⟨h1, h2, h3⟩ => ?_
      rw [mine_write] at h3
      exact ⟨0, h1, h2, (hm1.back hm).off (fun _ h => h) h3 (fun _ h => .inl h) hnB⟩
    refine holds_go _ _ (sst_s12 k st M r pb sb w W2) trivial ?_
    refine holds_ret [] (by kernel_rfl) (sst_r13 k st M r pb sb w) ?_
    intro wx hm
    rw [hsE, hsP]
    exact ⟨rfl, hX2.kept hm.kept (by rw [mine_flush, mine_write]; exact hnT), (hm2.back hm).kept⟩

end Go.Proofs.Ytpcdccljioiiaaa
