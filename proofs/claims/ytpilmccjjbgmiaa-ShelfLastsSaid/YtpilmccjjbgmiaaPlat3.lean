/- The platter: New and Flush in general. -/
import Derived.Test.YtpilmccjjbgmiaaPlat2
namespace Go.Proofs.Ytpilmccjjbgmiaa
open Go.RowKit

theorem flush_pl (M : Pl) (pb : Nat) (ha : M.acts < 4611686018427387904) (w : World) (hP : PlatAt 90 94 w pb M) :
    Calls Try.prog 60 #[.pointer (some ⟨pb, 0, none⟩)] w (fun e w' => e = .returned (.int .i64 (goesE M)) ∧ PlatAt 90 94 w' pb (flushPl M) ∧ Kept (minePl pb M) w w') := by
  have hok := hP.ok.flush
  have ha2 := hP.ok.a0
  have hc2 := hP.ok.c0
  obtain ⟨h1, h2, h3, h4⟩ := hP
  obtain ⟨lb, mb, n, last, cs, ck, off, a, c⟩ := M
  cases off with
  | true => exact (flush_off n lb mb pb a c w h1).mono fun e w' ⟨he, hk⟩ => ⟨he, ⟨h1.kept hk id, h2.kept hk id, h3.kept hk id, h4⟩, hk.mono (fun _ _ h => h.elim)⟩
  | false =>
    cases hc1 : decide (c = 1) with
    | true =>
      have e1 : goesE ⟨lb, mb, n, last, cs, ck, false, a, c⟩ = 70 := by simp [goesE, Pl.goes, hc1]
      have e2 : flushPl ⟨lb, mb, n, last, cs, ck, false, a, c⟩ = ⟨lb, mb, n, last, cs, ck, decide (c = 1), a + 1, dn c⟩ := by simp [flushPl, actPl, Pl.goes, hc1]
      rw [e1, e2]
      rw [e2] at hok
      refine (flush_cut n lb mb pb a c ⟨ha2, ha⟩ hc2 hc1 w h1).mono fun e w' ⟨he, hB, hk⟩ => ⟨he, ⟨hB, h2.kept hk (fun e => h4.ne2 e.symm), h3.kept hk (fun e => h4.ne1 e.symm), hok⟩, hk.mono (fun _ _ h => .inl h)⟩
    | false =>
      have e1 : goesE ⟨lb, mb, n, last, cs, ck, false, a, c⟩ = 0 := by simp [goesE, Pl.goes, hc1]
      have e2 : flushPl ⟨lb, mb, n, last, cs, ck, false, a, c⟩ = ⟨lb, mb, n, ovl last cs, [], ck, decide (c = 1), a + 1, dn c⟩ := by simp [flushPl, actPl, Pl.goes, hc1]
      rw [e1, e2]
      rw [e2] at hok
      refine (flush_live n lb mb pb a c ⟨ha2, ha⟩ hc2 hc1 cs ck last h4.ne2 h4.ne1 h4.ne3 h4.len h4.sec (fun c hc => (h4.csk c hc).2.2.1) (fun c hc => ⟨(h4.csk c hc).1, (h4.csk c hc).2.1⟩) (fun c hc => (h4.csk c hc).2.2.2) h4.nk h4.nb w h1 h2 h3).mono fun e w' ⟨he, hB, hl, hmw, hk⟩ => ⟨he, ⟨hB, hl, hmw, hok⟩, hk⟩
def newPl (lb mb n : Nat) : Pl := ⟨lb, mb, n, EMPTY n, [], 0, false, 0, 0⟩
theorem secs_empty (n : Nat) : secs n = secsV (EMPTY n) := by
  have hz : intsV zeroSec = List.replicate 64 (.int .u8 0) := by simp [intsV, zeroSec]
  have h1 : secsV (EMPTY n) = List.replicate (n * 64) (.int .u8 0) := by
    unfold secsV EMPTY
    rw [show zeroSec = List.replicate 64 (0 : Int) from rfl, List.flatten_replicate_replicate]
    simp [intsV]
  have h2 : secs n = List.replicate (n * 64) (.int .u8 0) := by
    unfold secs
    rw [hz, List.eq_replicate_iff]
    refine ⟨by simp [madeCells], fun b hb => ?_⟩
    simp only [madeCells, Array.toList_map, List.mem_map] at hb
    obtain ⟨i, _, rfl⟩ := hb
    have hrep : ∀ m j, j < m → (List.replicate m (Value.int .u8 0)).toArray[j]! = .int .u8 0 := fun m j h => by simp [h]
    have hsz : (List.replicate 64 (Value.int .u8 0)).toArray.size = 64 := by simp
    rw [hsz]
    exact hrep 64 _ (Nat.mod_lt _ (by decide))
  rw [h1, h2]
theorem empty_ok {lb mb pb n : Nat} (h1 : lb < mb) (h2 : mb < pb) (hn : 1 ≤ n ∧ n ≤ 64) : PlOk pb (newPl lb mb n) :=
  ⟨by show pb ≠ mb; omega, by show pb ≠ lb; omega, by show lb ≠ mb; omega, hn, by simp [newPl, EMPTY], fun L hL => by simp [newPl, EMPTY] at hL; rw [hL.2]; exact secOk_zero, fun c hc => (by cases hc), List.nodup_nil, List.nodup_nil, by show (0 : Int) ≤ 0; omega, by show (0 : Int) ≤ 0 ∧ (0 : Int) < _; omega⟩
theorem new_pl (n : Nat) (hn : 1 ≤ n ∧ n ≤ 64) (w : World) :
    Calls Try.prog 20 #[.int .i64 (n : Int)] w (fun e w' => ∃ lb mb pb, e = .returned (.tuple #[.pointer (some ⟨pb, 0, none⟩), .int .i64 0]) ∧ w.heap.size ≤ lb ∧ lb < mb ∧ mb < pb ∧ PlatAt 90 94 w' pb (newPl lb mb n) ∧ Kept (fun _ => False) w w') := by
  refine (new_any n hn w).mono fun e w' ⟨lb, mb, pb, he, h1, h2, h3, h4, h5, h6, h7⟩ => ?_
  rw [secs_empty] at h5
  exact ⟨lb, mb, pb, he, h1, h2, h3, ⟨h4, h5, h6, empty_ok h2 h3 hn⟩, h7⟩
theorem MemOk.off {w wx w' : World} {S S' T : Nat → Prop} {bk : List Bk} {sz : Nat} (hm : MemOk w S bk [] sz wx) (hS : ∀ x, S x → S' x) (hk : Kept T wx w') (hT : ∀ x, T x → S' x ∨ w.heap.size ≤ x) (hb : ∀ b ∈ bk, ¬ T b.g) : MemOk w S' bk [] w'.heap.size w' :=
  ⟨rfl, fun b h => (hm.blk b h).kept hk (hb b h), fun b h hr => (hm.own b h hr).imp_left (hS _), hm.nd, (hm.kept.mono (fun k _ h => hS k h)).trans hk (fun k hk' h => (hT k h).resolve_right (by omega)), fun x hx => by cases hx⟩
theorem mine_write (M : Pl) (pb : Nat) (k : Int) (L : List Int) : minePl pb (writePl M k L) = minePl pb M := by
  obtain ⟨_, _, _, _, h5, h6⟩ := actPl_with M
  unfold minePl writePl
  split <;> simp [h5, h6]
theorem mine_flush (M : Pl) (pb : Nat) : minePl pb (flushPl M) = minePl pb M := by
  obtain ⟨_, _, _, _, h5, h6⟩ := actPl_with M
  unfold minePl flushPl
  split <;> simp [h5, h6]
theorem acts_write (M : Pl) (k : Int) (L : List Int) : (writePl M k L).acts ≤ M.acts + 1 := by
  unfold writePl actPl
  cases M.goes <;> cases M.off <;> simp <;> omega
end Go.Proofs.Ytpilmccjjbgmiaa
