/- The net's functions: Send, Look, Take, Copy, Drop. -/
import Derived.Test.YthndmmondlpghaaNet
namespace Go.Proofs.Ythndmmondlpghaa
open Go.RowKit

def okS (L : List (List UInt8)) (s : ByteArray) : Bool := decide (L.length < 64) && decide (s.size ≤ 1000)
def sendL (L : List (List UInt8)) (s : ByteArray) : List (List UInt8) := if okS L s = true then insL (kb s) L else L
def ours (nb mb x : Nat) : Prop := x = nb ∨ x = mb
theorem send_net (nb mb : Nat) (L : List (List UInt8)) (s : ByteArray) (w : World) (h : NetAt 43 w nb mb L) :
    Calls Try.prog 11 #[.pointer (some ⟨nb, 0, none⟩), .string s] w (fun e w' => e = .returned (.bool (okS L s)) ∧ NetAt 43 w' nb mb (sendL L s) ∧ Kept (ours nb mb) w w') := by
  obtain ⟨cs, ck, hB, hN, ok, rfl, hne⟩ := h
  unfold okS sendL
  by_cases h1 : (frN cs).length < 64
  · by_cases h2 : s.size ≤ 1000
    · have e : okS (frN cs) s = true := by unfold okS; rw [decide_eq_true h1, decide_eq_true h2]; rfl
      refine (send_ok nb mb _ s cs ck ⟨by omega, by omega⟩ h2 (ok.cnt s) hne w hB hN).mono fun e' w' ⟨a1, a2, a3, a4⟩ => ?_
      rw [if_pos e]
      refine ⟨by rw [a1, decide_eq_true h1, decide_eq_true h2]; rfl, ⟨_, _, ?_, a3, ok_put ok h2 h1, (fr_put ok s).symm, hne⟩, a4⟩
      rw [ins_len]
      exact a2
    · have e : okS (frN cs) s = false := by unfold okS; rw [decide_eq_false h2, Bool.and_false]
      refine (send_long nb mb _ s (by omega) (by omega) w hB).mono fun e' w' ⟨a1, a2⟩ => ?_
      rw [if_neg (by rw [e]; simp)]
      exact ⟨by rw [a1, decide_eq_false h2, Bool.and_false], ⟨cs, ck, hB.kept a2 id, hN.kept a2 id, ok, rfl, hne⟩, a2.mono (fun _ _ h => h.elim)⟩
  · have e : okS (frN cs) s = false := by unfold okS; rw [decide_eq_false h1, Bool.false_and]
    refine (send_full nb mb _ s (by omega) w hB).mono fun e' w' ⟨a1, a2⟩ => ?_
    rw [if_neg (by rw [e]; simp)]
    exact ⟨by rw [a1, decide_eq_false h1, Bool.false_and], ⟨cs, ck, hB.kept a2 id, hN.kept a2 id, ok, rfl, hne⟩, a2.mono (fun _ _ h => h.elim)⟩
def lookV : Option (List UInt8) → Value
  | some x => .tuple #[.string (bs x), .bool true]
  | none => .tuple #[.string ⟨#[]⟩, .bool false]
theorem nlk_s1 (i : Int) (nb : Nat) (mb : Nat) (cs : List NE) (w : World) : Res.prune [0, 1, 4, 5] [] (exec Try.prog (bodyOf Try.f14) 47 28 [⟨false, 0, []⟩, ⟨false, 0, []⟩, ⟨false, 0, []⟩, ⟨false, 0, []⟩, ⟨false, 0, []⟩, ⟨true, 0, []⟩, ⟨true, 0, []⟩, ⟨true, 0, []⟩, ⟨true, 0, []⟩, ⟨true, 0, []⟩, ⟨true, 0, []⟩, ⟨false, 2, []⟩, ⟨true, 0, []⟩, ⟨false, 0, []⟩, ⟨false, 0, []⟩] [.code []] ⟨[(0, .pointer (some ⟨nb, 0, none⟩)), (1, .int .i64 i)], [⟨nb, 43, false, [.map (some mb), .int .i64 ((frN cs).length : Int)]⟩], [], w.heap.size⟩) = some ⟨[(decide ((i : Int) < 0)) = true, (decide ((i : Int) < 0)) = true, (decide ((i : Int) < 0)) = true, (decide ((i : Int) < 0)) = true, (decide ((i : Int) < 0)) = true, (decide ((i : Int) < 0)) = true, (decide ((i : Int) < 0)) = true, true = true], dupR [], [.code [1, 0, 1, 0, 1], .code [1, 1]], ⟨[(0, .pointer (some ⟨nb, 0, none⟩)), (1, .int .i64 i), (4, .string ⟨#[]⟩), (5, .bool false)], [⟨nb, 43, false, [.map (some mb), .int .i64 ((frN cs).length : Int)]⟩], [], w.heap.size⟩⟩ := by kernel_rfl
theorem nlk_r2 (i : Int) (nb : Nat) (mb : Nat) (cs : List NE) : resL Try.prog [] [⟨nb, 43, false, [.map (some mb), .int .i64 ((frN cs).length : Int)]⟩] [(0, .pointer (some ⟨nb, 0, none⟩)), (1, .int .i64 i), (4, .string ⟨#[]⟩), (5, .bool false)] Try.f14.results.toList [] = some ([.string ⟨#[]⟩, .bool false], dupR []) := by kernel_rfl
theorem nlk_s3 (i : Int) (nb : Nat) (mb : Nat) (cs : List NE) (w : World) : Res.prune [0, 1, 4, 5] [] (exec Try.prog (bodyOf Try.f14) 47 28 [⟨false, 0, []⟩, ⟨false, 0, []⟩, ⟨false, 0, []⟩, ⟨false, 0, []⟩, ⟨false, 0, []⟩, ⟨false, 0, []⟩, ⟨false, 0, []⟩, ⟨false, 0, []⟩, ⟨false, 0, []⟩, ⟨false, 0, [⟨false, 0, 1, 1⟩]⟩, ⟨false, 0, []⟩, ⟨false, 3, []⟩, ⟨true, 0, []⟩, ⟨false, 0, []⟩, ⟨false, 0, []⟩] [.code []] ⟨[(0, .pointer (some ⟨nb, 0, none⟩)), (1, .int .i64 i)], [⟨nb, 43, false, [.map (some mb), .int .i64 ((frN cs).length : Int)]⟩], [], w.heap.size⟩) = some ⟨[(decide ((i : Int) < 0)) = false, (decide ((i : Int) < 0)) = false, (decide ((i : Int) < 0)) = false, (decide ((i : Int) < 0)) = false, (decide ((i : Int) < 0)) = false, (decide ((i : Int) < 0)) = false, (decide ((i : Int) < 0)) = false, (decide ((i : Int) ≥ ((frN cs).length : Int))) = true], dupR [(nb, 1, 1)], [.code [1, 0, 1, 0, 1], .code [1, 1]], ⟨[(0, .pointer (some ⟨nb, 0, none⟩)), (1, .int .i64 i), (4, .string ⟨#[]⟩), (5, .bool false)], [⟨nb, 43, false, [.map (some mb), .int .i64 ((frN cs).length : Int)]⟩], [], w.heap.size⟩⟩ := by kernel_rfl
theorem nlk_r4 (i : Int) (nb : Nat) (mb : Nat) (cs : List NE) : resL Try.prog [] [⟨nb, 43, false, [.map (some mb), .int .i64 ((frN cs).length : Int)]⟩] [(0, .pointer (some ⟨nb, 0, none⟩)), (1, .int .i64 i), (4, .string ⟨#[]⟩), (5, .bool false)] Try.f14.results.toList [] = some ([.string ⟨#[]⟩, .bool false], dupR []) := by kernel_rfl
theorem nlk_s5 (i : Int) (nb : Nat) (mb : Nat) (cs : List NE) (w : World) : Res.prune [0, 1, 4, 5, 21] [] (exec Try.prog (bodyOf Try.f14) 47 31 [⟨false, 0, []⟩, ⟨false, 0, []⟩, ⟨false, 0, []⟩, ⟨false, 0, []⟩, ⟨false, 0, []⟩, ⟨false, 0, []⟩, ⟨false, 0, []⟩, ⟨false, 0, []⟩, ⟨false, 0, []⟩, ⟨false, 0, [⟨false, 0, 1, 1⟩]⟩, ⟨false, 0, []⟩, ⟨false, 3, []⟩, ⟨false, 0, []⟩, ⟨false, 0, []⟩, ⟨false, 0, []⟩, ⟨false, 0, []⟩, ⟨false, 0, [⟨false, 0, 0, 1⟩]⟩] [.code []] ⟨[(0, .pointer (some ⟨nb, 0, none⟩)), (1, .int .i64 i)], [⟨nb, 43, false, [.map (some mb), .int .i64 ((frN cs).length : Int)]⟩], [], w.heap.size⟩) = some ⟨[(decide ((i : Int) < 0)) = false, (decide ((i : Int) < 0)) = false, (decide ((i : Int) < 0)) = false, (decide ((i : Int) < 0)) = false, (decide ((i : Int) < 0)) = false, (decide ((i : Int) < 0)) = false, (decide ((i : Int) < 0)) = false, (decide ((i : Int) ≥ ((frN cs).length : Int))) = false], dupR [(nb, 1, 1), (nb, 0, 1)], [.ops [1, 1, 0, 0] [4, 5, 6, 7], .code [1, 1, 0, 1], .code [1, 1, 1]], ⟨[(0, .pointer (some ⟨nb, 0, none⟩)), (1, .int .i64 i), (4, .string ⟨#[]⟩), (5, .bool false), (21, .map (some mb))], [⟨nb, 43, false, [.map (some mb), .int .i64 ((frN cs).length : Int)]⟩], [], w.heap.size⟩⟩ := by kernel_rfl
theorem nlk_c6 (i : Int) (nb : Nat) (mb : Nat) : callAt Try.prog (opsOf (getCode (bodyOf Try.f14) [1, 1, 0, 0])) [(0, .pointer (some ⟨nb, 0, none⟩)), (1, .int .i64 i), (4, .string ⟨#[]⟩), (5, .bool false), (21, .map (some mb))] 4 = some (26, [.map (some mb)], some 22, []) := by kernel_rfl
theorem nlk_s7 (i : Int) (nb : Nat) (mb : Nat) (cs : List NE) (w : World) (z6 : Nat) : Res.prune [0, 1, 4, 5, 22] [] (exec Try.prog (bodyOf Try.f14) 47 3 [] [.ops [1, 1, 0, 0] [5, 6, 7], .code [1, 1, 0, 1], .code [1, 1, 1]] ⟨[(22, .func (.func 29) #[] #[.pointer (some ⟨w.heap.size, 0, none⟩)]), (0, .pointer (some ⟨nb, 0, none⟩)), (1, .int .i64 i), (4, .string ⟨#[]⟩), (5, .bool false), (21, .map (some mb))], [⟨nb, 43, false, [.map (some mb), .int .i64 ((frN cs).length : Int)]⟩, ⟨w.heap.size, 41, false, [.map (some mb)]⟩], [], z6⟩) = some ⟨[], dupR [], [.ops [1, 1, 0, 0] [5, 6, 7], .code [1, 1, 0, 1], .code [1, 1, 1]], ⟨[(0, .pointer (some ⟨nb, 0, none⟩)), (1, .int .i64 i), (4, .string ⟨#[]⟩), (5, .bool false), (22, .func (.func 29) #[] #[.pointer (some ⟨w.heap.size, 0, none⟩)])], [⟨nb, 43, false, [.map (some mb), .int .i64 ((frN cs).length : Int)]⟩, ⟨w.heap.size, 41, false, [.map (some mb)]⟩], [], z6⟩⟩ := by kernel_rfl
theorem nlk_c8 (i : Int) (nb : Nat) (w : World) : callAt Try.prog (opsOf (getCode (bodyOf Try.f14) [1, 1, 0, 0])) [(0, .pointer (some ⟨nb, 0, none⟩)), (1, .int .i64 i), (4, .string ⟨#[]⟩), (5, .bool false), (22, .func (.func 29) #[] #[.pointer (some ⟨w.heap.size, 0, none⟩)])] 5 = some (25, [.func (.func 29) #[] #[.pointer (some ⟨w.heap.size, 0, none⟩)]], some 23, []) := by kernel_rfl
theorem nlk_s9 (i : Int) (nb : Nat) (mb : Nat) (cs : List NE) (A : Option Addr) (cp : Nat) (w : World) (W1 : World) : Res.prune [0, 1, 4, 5, 23, 24, 25] [] (exec Try.prog (bodyOf Try.f14) 47 7 [⟨false, 0, []⟩, ⟨false, 0, []⟩] [.ops [1, 1, 0, 0] [6, 7], .code [1, 1, 0, 1], .code [1, 1, 1]] ⟨[(23, .slice A cs.length cp), (0, .pointer (some ⟨nb, 0, none⟩)), (1, .int .i64 i), (4, .string ⟨#[]⟩), (5, .bool false), (22, .func (.func 29) #[] #[.pointer (some ⟨w.heap.size, 0, none⟩)])], [⟨nb, 43, false, [.map (some mb), .int .i64 ((frN cs).length : Int)]⟩, ⟨w.heap.size, 41, false, [.map (some mb)]⟩], [], W1.heap.size⟩) = some ⟨[], dupR [], [.code [1, 1, 0, 1, 0], .blk 0, .code [1, 1, 1]], ⟨[(0, .pointer (some ⟨nb, 0, none⟩)), (1, .int .i64 i), (4, .string ⟨#[]⟩), (5, .bool false), (23, .slice A cs.length cp), (24, .int .i64 ((cs.length : Nat) : Int)), (25, .int .i64 0)], [⟨nb, 43, false, [.map (some mb), .int .i64 ((frN cs).length : Int)]⟩, ⟨w.heap.size, 41, false, [.map (some mb)]⟩], [], W1.heap.size⟩⟩ := by kernel_rfl
def LookI (i : Int) (nb : Nat) (mb : Nat) (cs : List NE) (A : Option Addr) (cp : Nat) (w : World) (W1 : World)  (m : Nat) (st : St) : Prop := ∃ (j : Nat) (r : Int) (z : Nat), m + j = cs.length ∧ (0 ≤ r ∧ r ≤ i) ∧ (frN cs)[i.toNat]? = (flatN (fun x => (cntN cs (bs x)).toNat) ((ksN cs).drop j))[r.toNat]? ∧ W1.heap.size ≤ z ∧ st = ⟨[(0, .pointer (some ⟨nb, 0, none⟩)), (1, .int .i64 r), (4, .string ⟨#[]⟩), (5, .bool false), (23, .slice A cs.length cp), (24, .int .i64 ((cs.length : Nat) : Int)), (25, .int .i64 (j : Int))], [⟨nb, 43, false, [.map (some mb), .int .i64 ((frN cs).length : Int)]⟩, ⟨w.heap.size, 41, false, [.map (some mb)]⟩], [], z⟩
theorem nlk_s10 (r : Int) (nb : Nat) (mb : Nat) (cs : List NE) (A : Option Addr) (cp : Nat) (j : Nat) (z : Nat) (w : World) (J : Act → World → Prop) : Res.prune [4, 5] [] (exec Try.prog (bodyOf Try.f14) 47 15 [⟨false, 0, []⟩, ⟨false, 0, []⟩, ⟨false, 0, []⟩, ⟨false, 0, []⟩] [.code [1, 1, 0, 1, 0, 0], .inv J, .blk 0, .code [1, 1, 1]] ⟨[(0, .pointer (some ⟨nb, 0, none⟩)), (1, .int .i64 r), (4, .string ⟨#[]⟩), (5, .bool false), (23, .slice A cs.length cp), (24, .int .i64 ((cs.length : Nat) : Int)), (25, .int .i64 (j : Int))], [⟨nb, 43, false, [.map (some mb), .int .i64 ((frN cs).length : Int)]⟩, ⟨w.heap.size, 41, false, [.map (some mb)]⟩], [], z⟩) = some ⟨[(decide (((j : Int) : Int) < ((cs.length : Nat) : Int))) = false], dupR [], [.code [1, 1, 1, 1]], ⟨[(4, .string ⟨#[]⟩), (5, .bool false)], [⟨nb, 43, false, [.map (some mb), .int .i64 ((frN cs).length : Int)]⟩, ⟨w.heap.size, 41, false, [.map (some mb)]⟩], [], z⟩⟩ := by kernel_rfl
theorem nlk_r11 (nb : Nat) (mb : Nat) (cs : List NE) (w : World) : resL Try.prog [] [⟨nb, 43, false, [.map (some mb), .int .i64 ((frN cs).length : Int)]⟩, ⟨w.heap.size, 41, false, [.map (some mb)]⟩] [(4, .string ⟨#[]⟩), (5, .bool false)] Try.f14.results.toList [] = some ([.string ⟨#[]⟩, .bool false], dupR []) := by kernel_rfl
theorem nlk_s12 (r : Int) (nb : Nat) (mb : Nat) (x : List UInt8) (cs : List NE) (cp : Nat) (g : Nat) (j : Nat) (z : Nat) (w : World) (J : Act → World → Prop) : Res.prune [0, 1, 4, 5, 7, 23, 24, 25, 29, 33, 34] [] (exec Try.prog (bodyOf Try.f14) 47 27 [⟨false, 0, []⟩, ⟨true, 0, []⟩, ⟨false, 1, []⟩, ⟨false, 0, [⟨true, 0, 0, 1⟩]⟩, ⟨false, 0, []⟩, ⟨false, 0, []⟩, ⟨false, 0, []⟩, ⟨false, 0, []⟩, ⟨false, 0, []⟩, ⟨false, 0, [⟨false, 0, 0, 1⟩]⟩, ⟨false, 0, []⟩] [.code [1, 1, 0, 1, 0, 0], .inv J, .blk 0, .code [1, 1, 1]] ⟨[(0, .pointer (some ⟨nb, 0, none⟩)), (1, .int .i64 r), (4, .string ⟨#[]⟩), (5, .bool false), (23, .slice (some ⟨g, 0, none⟩) cs.length cp), (24, .int .i64 ((cs.length : Nat) : Int)), (25, .int .i64 (j : Int))], [⟨nb, 43, false, [.map (some mb), .int .i64 ((frN cs).length : Int)]⟩, ⟨w.heap.size, 41, false, [.map (some mb)]⟩], [⟨g, 0 + j * 1, [.string (bs x)]⟩], z⟩) = some ⟨[(decide (((j : Int) : Int) < ((cs.length : Nat) : Int))) = true, (0 : Int) ≤ (j : Int) ∧ (j : Int) < ((cs.length : Nat) : Int)], dupR [(g, 0 + j * 1, 1), (nb, 0, 1)], [.ops [1, 1, 0, 1, 0, 0, 1, 1, 0, 0, 1, 0, 0] [6, 7], .code [1, 1, 0, 1, 0, 0, 1, 1, 0, 0, 1, 0, 1], .code [1, 1, 0, 1, 0, 0, 1, 1, 0, 0, 1, 1], .blk 1, .code [1, 1, 0, 1, 0, 0, 1, 1, 1], .inv J, .blk 0, .code [1, 1, 1]], ⟨[(0, .pointer (some ⟨nb, 0, none⟩)), (1, .int .i64 r), (4, .string ⟨#[]⟩), (5, .bool false), (7, .string (bs x)), (23, .slice (some ⟨g, 0, none⟩) cs.length cp), (24, .int .i64 ((cs.length : Nat) : Int)), (25, .int .i64 (j : Int)), (29, .int .i64 r), (33, .map (some mb)), (34, .string (bs x))], [⟨nb, 43, false, [.map (some mb), .int .i64 ((frN cs).length : Int)]⟩, ⟨w.heap.size, 41, false, [.map (some mb)]⟩], [⟨g, 0 + j * 1, [.string (bs x)]⟩], z⟩⟩ := by kernel_rfl
theorem nlk_s14 (r : Int) (nb : Nat) (mb : Nat) (x : List UInt8) (cs : List NE) (cp : Nat) (g : Nat) (j : Nat) (z : Nat) (w : World) (J : Act → World → Prop) : Res.prune [0, 1, 4, 5, 7, 23, 24, 25, 36] [] (exec Try.prog (bodyOf Try.f14) 47 5 [⟨false, 0, []⟩] [.ops [1, 1, 0, 1, 0, 0, 1, 1, 0, 0, 1, 0, 0] [7], .code [1, 1, 0, 1, 0, 0, 1, 1, 0, 0, 1, 0, 1], .code [1, 1, 0, 1, 0, 0, 1, 1, 0, 0, 1, 1], .blk 1, .code [1, 1, 0, 1, 0, 0, 1, 1, 1], .inv J, .blk 0, .code [1, 1, 1]] ⟨[(35, .int .i64 (cntN cs (bs x))), (0, .pointer (some ⟨nb, 0, none⟩)), (1, .int .i64 r), (4, .string ⟨#[]⟩), (5, .bool false), (7, .string (bs x)), (23, .slice (some ⟨g, 0, none⟩) cs.length cp), (24, .int .i64 ((cs.length : Nat) : Int)), (25, .int .i64 (j : Int)), (29, .int .i64 r), (33, .map (some mb)), (34, .string (bs x))], [⟨nb, 43, false, [.map (some mb), .int .i64 ((frN cs).length : Int)]⟩, ⟨w.heap.size, 41, false, [.map (some mb)]⟩], [⟨g, 0 + j * 1, [.string (bs x)]⟩], z⟩) = some ⟨[], dupR [], [.code [1, 1, 0, 1, 0, 0, 1, 1, 0, 0, 1, 0, 1], .code [1, 1, 0, 1, 0, 0, 1, 1, 0, 0, 1, 1], .blk 1, .code [1, 1, 0, 1, 0, 0, 1, 1, 1], .inv J, .blk 0, .code [1, 1, 1]], ⟨[(0, .pointer (some ⟨nb, 0, none⟩)), (1, .int .i64 r), (4, .string ⟨#[]⟩), (5, .bool false), (7, .string (bs x)), (23, .slice (some ⟨g, 0, none⟩) cs.length cp), (24, .int .i64 ((cs.length : Nat) : Int)), (25, .int .i64 (j : Int)), (36, .bool (decide ((r : Int) < (cntN cs (bs x)))))], [⟨nb, 43, false, [.map (some mb), .int .i64 ((frN cs).length : Int)]⟩, ⟨w.heap.size, 41, false, [.map (some mb)]⟩], [⟨g, 0 + j * 1, [.string (bs x)]⟩], z⟩⟩ := by kernel_rfl
theorem nlk_s15 (r : Int) (nb : Nat) (mb : Nat) (x : List UInt8) (cs : List NE) (cp : Nat) (g : Nat) (j : Nat) (z : Nat) (w : World) (J : Act → World → Prop) : Res.prune [0, 1, 4, 5, 7, 23, 24, 25] [] (exec Try.prog (bodyOf Try.f14) 47 10 [⟨true, 0, []⟩, ⟨false, 0, []⟩, ⟨false, 0, []⟩, ⟨false, 0, []⟩] [.code [1, 1, 0, 1, 0, 0, 1, 1, 0, 0, 1, 0, 1], .code [1, 1, 0, 1, 0, 0, 1, 1, 0, 0, 1, 1], .blk 1, .code [1, 1, 0, 1, 0, 0, 1, 1, 1], .inv J, .blk 0, .code [1, 1, 1]] ⟨[(0, .pointer (some ⟨nb, 0, none⟩)), (1, .int .i64 r), (4, .string ⟨#[]⟩), (5, .bool false), (7, .string (bs x)), (23, .slice (some ⟨g, 0, none⟩) cs.length cp), (24, .int .i64 ((cs.length : Nat) : Int)), (25, .int .i64 (j : Int)), (36, .bool (decide ((r : Int) < (cntN cs (bs x)))))], [⟨nb, 43, false, [.map (some mb), .int .i64 ((frN cs).length : Int)]⟩, ⟨w.heap.size, 41, false, [.map (some mb)]⟩], [⟨g, 0 + j * 1, [.string (bs x)]⟩], z⟩) = some ⟨[(decide ((r : Int) < (cntN cs (bs x)))) = true], dupR [], [.code [1, 1, 0, 1, 0, 0, 1, 1, 0, 0, 1, 0, 1, 0, 1], .code [1, 1, 0, 1, 0, 0, 1, 1, 0, 0, 1, 1], .blk 1, .code [1, 1, 0, 1, 0, 0, 1, 1, 1], .inv J, .blk 0, .code [1, 1, 1]], ⟨[(0, .pointer (some ⟨nb, 0, none⟩)), (1, .int .i64 r), (4, .string (bs x)), (5, .bool true), (7, .string (bs x)), (23, .slice (some ⟨g, 0, none⟩) cs.length cp), (24, .int .i64 ((cs.length : Nat) : Int)), (25, .int .i64 (j : Int))], [⟨nb, 43, false, [.map (some mb), .int .i64 ((frN cs).length : Int)]⟩, ⟨w.heap.size, 41, false, [.map (some mb)]⟩], [⟨g, 0 + j * 1, [.string (bs x)]⟩], z⟩⟩ := by kernel_rfl
theorem nlk_r16 (r : Int) (nb : Nat) (mb : Nat) (x : List UInt8) (cs : List NE) (cp : Nat) (g : Nat) (j : Nat) (w : World) : resL Try.prog [⟨g, 0 + j * 1, [.string (bs x)]⟩] [⟨nb, 43, false, [.map (some mb), .int .i64 ((frN cs).length : Int)]⟩, ⟨w.heap.size, 41, false, [.map (some mb)]⟩] [(0, .pointer (some ⟨nb, 0, none⟩)), (1, .int .i64 r), (4, .string (bs x)), (5, .bool true), (7, .string (bs x)), (23, .slice (some ⟨g, 0, none⟩) cs.length cp), (24, .int .i64 ((cs.length : Nat) : Int)), (25, .int .i64 (j : Int))] Try.f14.results.toList [] = some ([.string (bs x), .bool true], dupR []) := by kernel_rfl
theorem nlk_s17 (r : Int) (nb : Nat) (mb : Nat) (x : List UInt8) (cs : List NE) (cp : Nat) (g : Nat) (j : Nat) (z : Nat) (w : World) (J : Act → World → Prop) : Res.prune [0, 1, 4, 5, 23, 24, 25, 38, 42, 43] [] (exec Try.prog (bodyOf Try.f14) 47 12 [⟨false, 0, []⟩, ⟨false, 0, []⟩, ⟨false, 0, []⟩, ⟨false, 0, []⟩, ⟨false, 0, []⟩, ⟨false, 0, [⟨false, 0, 0, 1⟩]⟩, ⟨false, 0, []⟩] [.code [1, 1, 0, 1, 0, 0, 1, 1, 0, 0, 1, 0, 1], .code [1, 1, 0, 1, 0, 0, 1, 1, 0, 0, 1, 1], .blk 1, .code [1, 1, 0, 1, 0, 0, 1, 1, 1], .inv J, .blk 0, .code [1, 1, 1]] ⟨[(0, .pointer (some ⟨nb, 0, none⟩)), (1, .int .i64 r), (4, .string ⟨#[]⟩), (5, .bool false), (7, .string (bs x)), (23, .slice (some ⟨g, 0, none⟩) cs.length cp), (24, .int .i64 ((cs.length : Nat) : Int)), (25, .int .i64 (j : Int)), (36, .bool (decide ((r : Int) < (cntN cs (bs x)))))], [⟨nb, 43, false, [.map (some mb), .int .i64 ((frN cs).length : Int)]⟩, ⟨w.heap.size, 41, false, [.map (some mb)]⟩], [⟨g, 0 + j * 1, [.string (bs x)]⟩], z⟩) = some ⟨[(decide ((r : Int) < (cntN cs (bs x)))) = false], dupR [(nb, 0, 1)], [.ops [1, 1, 0, 1, 0, 0, 1, 1, 0, 0, 1, 1] [6, 7, 8], .blk 1, .code [1, 1, 0, 1, 0, 0, 1, 1, 1], .inv J, .blk 0, .code [1, 1, 1]], ⟨[(0, .pointer (some ⟨nb, 0, none⟩)), (1, .int .i64 r), (4, .string ⟨#[]⟩), (5, .bool false), (23, .slice (some ⟨g, 0, none⟩) cs.length cp), (24, .int .i64 ((cs.length : Nat) : Int)), (25, .int .i64 (j : Int)), (38, .int .i64 r), (42, .map (some mb)), (43, .string (bs x))], [⟨nb, 43, false, [.map (some mb), .int .i64 ((frN cs).length : Int)]⟩, ⟨w.heap.size, 41, false, [.map (some mb)]⟩], [⟨g, 0 + j * 1, [.string (bs x)]⟩], z⟩⟩ := by kernel_rfl
theorem nlk_s19 (r : Int) (nb : Nat) (mb : Nat) (x : List UInt8) (cs : List NE) (cp : Nat) (g : Nat) (j : Nat) (z : Nat) (w : World) (J : Act → World → Prop) : Res.prune [0, 1, 4, 5, 23, 24, 25] [] (exec Try.prog (bodyOf Try.f14) 47 11 [⟨false, 1, []⟩, ⟨false, 0, []⟩, ⟨false, 1, []⟩, ⟨false, 0, []⟩] [.ops [1, 1, 0, 1, 0, 0, 1, 1, 0, 0, 1, 1] [7, 8], .blk 1, .code [1, 1, 0, 1, 0, 0, 1, 1, 1], .inv J, .blk 0, .code [1, 1, 1]] ⟨[(44, .int .i64 (cntN cs (bs x))), (0, .pointer (some ⟨nb, 0, none⟩)), (1, .int .i64 r), (4, .string ⟨#[]⟩), (5, .bool false), (23, .slice (some ⟨g, 0, none⟩) cs.length cp), (24, .int .i64 ((cs.length : Nat) : Int)), (25, .int .i64 (j : Int)), (38, .int .i64 r), (42, .map (some mb)), (43, .string (bs x))], [⟨nb, 43, false, [.map (some mb), .int .i64 ((frN cs).length : Int)]⟩, ⟨w.heap.size, 41, false, [.map (some mb)]⟩], [⟨g, 0 + j * 1, [.string (bs x)]⟩], z⟩) = some ⟨[inR .i64 ((r - (cntN cs (bs x)))), inR .i64 (((j : Int) + 1))], dupR [], [.inv J, .blk 0, .code [1, 1, 1]], ⟨[(0, .pointer (some ⟨nb, 0, none⟩)), (1, .int .i64 (r - (cntN cs (bs x)))), (4, .string ⟨#[]⟩), (5, .bool false), (23, .slice (some ⟨g, 0, none⟩) cs.length cp), (24, .int .i64 ((cs.length : Nat) : Int)), (25, .int .i64 ((j : Int) + 1))], [⟨nb, 43, false, [.map (some mb), .int .i64 ((frN cs).length : Int)]⟩, ⟨w.heap.size, 41, false, [.map (some mb)]⟩], [⟨g, 0 + j * 1, [.string (bs x)]⟩], z⟩⟩ := by kernel_rfl
set_option maxRecDepth 100000 in
set_option maxHeartbeats 4000000 in
theorem look_any (nb mb : Nat) (i : Int) (cs : List NE) (ck : Nat) (hok : NetOk cs ck) (w : World) (hp : Blk w nb 43 [.map (some mb), .int .i64 ((frN cs).length : Int)]) (hmp : NapAt w mb cs ck) :
    Calls Try.prog 14 #[.pointer (some ⟨nb, 0, none⟩), .int .i64 i] w (RetK (lookV (lookR (frN cs) i)) w) := by
  refine calls_of_holds (S := (fun _ => False)) (l := [.pointer (some ⟨nb, 0, none⟩), .int .i64 i]) (n := 47) Try.func14 (body_of (by kernel_rfl)) rfl (by simp) (MemOk.start (bk := [⟨nb, 43, false, [.map (some mb), .int .i64 ((frN cs).length : Int)]⟩]) (wn := []) (by simpa using hp) (by simp) (by simp) (by simp)) ?_
  by_cases h0 : i < 0
  · skip
    refine holds_go _ _ (nlk_s1 i nb mb cs w) ⟨decide_eq_true (by omega), decide_eq_true (by omega), decide_eq_true (by omega), decide_eq_true (by omega), decide_eq_true (by omega), decide_eq_true (by omega), decide_eq_true (by omega), rfl, trivial⟩ ?_
    refine holds_ret [] (by kernel_rfl) (nlk_r2 i nb mb cs) ?_
    intro wx hm
    have e : lookR (frN cs) i = none := if_pos h0
    exact ⟨by rw [e]; rfl, hm.kept⟩
  by_cases h1 : ((frN cs).length : Int) ≤ i
  · skip
    refine holds_go _ _ (nlk_s3 i nb mb cs w) ⟨decide_eq_false (by omega), decide_eq_false (by omega), decide_eq_false (by omega), decide_eq_false (by omega), decide_eq_false (by omega), decide_eq_false (by omega), decide_eq_false (by omega), decide_eq_true (by omega), trivial⟩ ?_
    refine holds_ret [] (by kernel_rfl) (nlk_r4 i nb mb cs) ?_
    intro wx hm
    have e : lookR (frN cs) i = none := by unfold lookR; rw [if_neg h0]; exact List.getElem?_eq_none (by omega)
    exact ⟨by rw [e]; rfl, hm.kept⟩
  have h64 := hok.le64
  have hln := hok.len
  refine holds_go _ _ (nlk_s5 i nb mb cs w) ⟨decide_eq_false (by omega), decide_eq_false (by omega), decide_eq_false (by omega), decide_eq_false (by omega), decide_eq_false (by omega), decide_eq_false (by omega), decide_eq_false (by omega), decide_eq_false (by omega), trivial⟩ ?_
  refine holds_callM (.func (.func 29) #[] #[.pointer (some ⟨w.heap.size, 0, none⟩)]) [⟨nb, 43, false, [.map (some mb), .int .i64 ((frN cs).length : Int)]⟩, ⟨w.heap.size, 41, false, [.map (some mb)]⟩] (nlk_c6 i nb mb) trivial rfl (fun wx hm => ?_) fun z6 hz6 => ?_
  · refine (keys_net mb wx).mono fun e w' ⟨h1, h2, h3⟩ => ?_
    have hs : wx.heap.size = w.heap.size := hm.size
    rw [hs] at h1 h2
    exact ⟨h1, hm.add h3 [⟨w.heap.size, 41, false, [.map (some mb)]⟩] ⟨h2, trivial⟩ (by simp) (by simp)⟩
  replace hz6 : w.heap.size ≤ z6 := hz6
  refine holds_go _ _ (nlk_s7 i nb mb cs w z6) trivial ?_
  refine holds_callW (w := w) (S' := (fun _ => False)) (Y := Option Addr × Nat) (fun (⟨A, cp⟩ : Option Addr × Nat) => .slice A cs.length cp) (fun (⟨A, cp⟩ : Option Addr × Nat) => [⟨nb, 43, false, [.map (some mb), .int .i64 ((frN cs).length : Int)]⟩, ⟨w.heap.size, 41, false, [.map (some mb)]⟩]) (fun (⟨A, cp⟩ : Option Addr × Nat) W_ => (∀ j x, (ksN cs)[j]? = some x → ∃ g, A = some ⟨g, 0, none⟩ ∧ g < W_.heap.size ∧ W_.cell? ⟨g, 0 + j * 1, none⟩ = some (.string (bs x))) ∧ NapAt W_ mb cs ck) (fun (⟨A, cp⟩ : Option Addr × Nat) => [(23, .slice A cs.length cp), (0, .pointer (some ⟨nb, 0, none⟩)), (1, .int .i64 i), (4, .string ⟨#[]⟩), (5, .bool false), (22, .func (.func 29) #[] #[.pointer (some ⟨w.heap.size, 0, none⟩)])]) (nlk_c8 i nb w) trivial (fun _ => rfl) (fun wx hm => ?_) (fun y W1 hX1 hm1 => ?_)
  · refine (sorted_net mb _ cs ck wx (hm.at_ 1 rfl) (hmp.kept hm.kept id) hok).mono fun e w' ⟨A, cp, he, ht, hk⟩ => ?_
    exact ⟨(A, cp), he, ⟨fun j x hj => let ⟨g, h1, _, h2, h3⟩ := ht j x hj; ⟨g, h1, h2, h3⟩, (hmp.kept hm.kept id).kept hk id⟩, (hm.same hk).2⟩
  obtain ⟨A, cp⟩ := y
  obtain ⟨hT, hN1⟩ := hX1
  have hnT : ∀ xx, ¬ Turned [⟨nb, 43, false, [.map (some mb), .int .i64 ((frN cs).length : Int)]⟩, ⟨w.heap.size, 41, false, [.map (some mb)]⟩] xx := by
    rintro xx ⟨b, hb, hr, he⟩
    simp at hb
    rcases hb with rfl | rfl <;> simp at hr
  refine holds_go _ _ (nlk_s9 i nb mb cs A cp w W1) trivial ?_
  refine holds_loop (LookI i nb mb cs A cp w W1) cs.length (by kernel_rfl) ⟨0, i, _, rfl, ⟨by omega, Int.le_refl _⟩, rfl, Nat.le_refl _, rfl⟩ ?_
  rintro m' _ ⟨j, r, z, hmj, hr, hinv, hz, rfl⟩ J hJ
  by_cases h2 : j < cs.length
  rotate_left
  · skip
    refine holds_go _ _ (nlk_s10 r nb mb cs A cp j z w J) ⟨decide_eq_false (by omega), trivial⟩ ?_
    refine holds_ret [] (by kernel_rfl) (nlk_r11 nb mb cs w) ?_
    intro wx hm
    have e : lookR (frN cs) i = none := by unfold lookR; rw [if_neg h0, hinv, List.drop_of_length_le (by omega)]; rfl
    exact ⟨by rw [e]; rfl, (MemOk.back2 hm1 hm).kept⟩
  obtain ⟨x, hx⟩ : ∃ x, (ksN cs)[j]? = some x := ⟨_, List.getElem?_eq_getElem (by omega)⟩
  have hq := hok.cnt (bs x)
  obtain ⟨g, rfl, hg, hc⟩ := hT j x hx
  have hstep := flat_drop (fun x => (cntN cs (bs x)).toNat) hx r.toNat
  refine holds_wins [⟨g, 0 + j * 1, [.string (bs x)]⟩] (fun _ x' hx' => ?_) ?_
  · simp only [List.mem_singleton] at hx'
    subst hx'
    refine ⟨hnT _, hg, fun q v hv => ?_⟩
    match q, hv with
    | 0, hv =>
      simp only [List.getElem?_cons_zero, Option.some.injEq] at hv
      subst hv
      exact hc
    | q + 1, hv => simp at hv
  refine holds_go _ _ (nlk_s12 r nb mb x cs cp g j z w J) ⟨decide_eq_true (by omega), ⟨by omega, by omega⟩, trivial⟩ ?_
  refine holds_opR (dst := (some 35)) (x := Instr.lookup 41 (.map (some mb)) (.string (bs x)) false) (.int .i64 (cntN cs (bs x))) (by kernel_rfl) (by kernel_rfl) rfl (fun wx hm => ?_) ?_
  · exact run_lookN (P := Try.prog) wx 41 9 3 mb _ _ _ (by kernel_rfl) (by kernel_rfl) (by kernel_rfl) (hN1.kept hm.kept (hnT mb))
  refine holds_go _ _ (nlk_s14 r nb mb x cs cp g j z w J) trivial ?_
  by_cases h3 : r < cntN cs (bs x)
  · skip
    refine holds_go _ _ (nlk_s15 r nb mb x cs cp g j z w J) ⟨decide_eq_true h3, trivial⟩ ?_
    refine holds_ret [] (by kernel_rfl) (nlk_r16 r nb mb x cs cp g j w) ?_
    intro wx hm
    have e : lookR (frN cs) i = some x := by unfold lookR; rw [if_neg h0, hinv, hstep, if_pos (by omega)]
    exact ⟨by rw [e]; rfl, (MemOk.back2 hm1 hm).kept⟩
  refine holds_go _ _ (nlk_s17 r nb mb x cs cp g j z w J) ⟨decide_eq_false h3, trivial⟩ ?_
  refine holds_opR (dst := (some 44)) (x := Instr.lookup 41 (.map (some mb)) (.string (bs x)) false) (.int .i64 (cntN cs (bs x))) (by kernel_rfl) (by kernel_rfl) rfl (fun wx hm => ?_) ?_
  · exact run_lookN (P := Try.prog) wx 41 9 3 mb _ _ _ (by kernel_rfl) (by kernel_rfl) (by kernel_rfl) (hN1.kept hm.kept (hnT mb))
  refine holds_go _ _ (nlk_s19 r nb mb x cs cp g j z w J) ⟨in64 (by omega), in64 (by omega), trivial⟩ ?_
  refine holds_wins [] (fun _ _ h => by cases h) ?_
  refine hJ (m' - 1) _ (by omega) ⟨j + 1, r - cntN cs (bs x), z, by omega, ⟨by omega, by omega⟩, ?_, by omega, by rw [cast_succ] <;> rfl⟩
  rw [hinv, hstep, if_neg (by omega)]
  congr 1
  omega

theorem look_net (nb mb : Nat) (L : List (List UInt8)) (i : Int) (w : World) (h : NetAt 43 w nb mb L) : Calls Try.prog 14 #[.pointer (some ⟨nb, 0, none⟩), .int .i64 i] w (RetK (lookV (lookR L i)) w) := by
  obtain ⟨cs, ck, hB, hN, ok, rfl, _⟩ := h
  exact look_any nb mb i cs ck ok w hB hN
theorem ntkn_s1 (i : Int) (nb : Nat) (mb : Nat) (cs : List NE) (w : World) : Res.prune [0, 4, 5, 9, 10] [] (exec Try.prog (bodyOf Try.f13) 43 12 [⟨false, 0, []⟩, ⟨false, 0, []⟩, ⟨false, 0, []⟩, ⟨false, 0, []⟩] [.code []] ⟨[(0, .pointer (some ⟨nb, 0, none⟩)), (1, .int .i64 i)], [⟨nb, 43, false, [.map (some mb), .int .i64 ((frN cs).length : Int)]⟩], [], w.heap.size⟩) = some ⟨[], dupR [], [.ops [1, 0] [2, 3, 4, 5, 6, 7], .code [1, 1]], ⟨[(0, .pointer (some ⟨nb, 0, none⟩)), (4, .string ⟨#[]⟩), (5, .bool false), (9, .pointer (some ⟨nb, 0, none⟩)), (10, .int .i64 i)], [⟨nb, 43, false, [.map (some mb), .int .i64 ((frN cs).length : Int)]⟩], [], w.heap.size⟩⟩ := by kernel_rfl
theorem ntkn_c2 (i : Int) (nb : Nat) : callAt Try.prog (opsOf (getCode (bodyOf Try.f13) [1, 0])) [(0, .pointer (some ⟨nb, 0, none⟩)), (4, .string ⟨#[]⟩), (5, .bool false), (9, .pointer (some ⟨nb, 0, none⟩)), (10, .int .i64 i)] 2 = some (14, [.pointer (some ⟨nb, 0, none⟩), .int .i64 i], some 11, []) := by kernel_rfl
theorem ntkn_s3 (i : Int) (nb : Nat) (mb : Nat) (cs : List NE) (z2 : Nat) : Res.prune [0, 4, 5, 6] [] (exec Try.prog (bodyOf Try.f13) 43 21 [⟨false, 0, []⟩, ⟨false, 0, []⟩, ⟨false, 0, []⟩, ⟨false, 0, []⟩, ⟨false, 0, []⟩, ⟨false, 0, []⟩, ⟨false, 0, []⟩, ⟨true, 0, []⟩, ⟨false, 0, []⟩, ⟨false, 0, []⟩] [.ops [1, 0] [3, 4, 5, 6, 7], .code [1, 1]] ⟨[(11, .tuple #[.string ⟨#[]⟩, .bool false]), (0, .pointer (some ⟨nb, 0, none⟩)), (4, .string ⟨#[]⟩), (5, .bool false), (9, .pointer (some ⟨nb, 0, none⟩)), (10, .int .i64 i)], [⟨nb, 43, false, [.map (some mb), .int .i64 ((frN cs).length : Int)]⟩], [], z2⟩) = some ⟨[true = true], dupR [], [.code [1, 1, 0, 1, 0, 1], .code [1, 1, 1]], ⟨[(0, .pointer (some ⟨nb, 0, none⟩)), (4, .string ⟨#[]⟩), (5, .bool false), (6, .string ⟨#[]⟩)], [⟨nb, 43, false, [.map (some mb), .int .i64 ((frN cs).length : Int)]⟩], [], z2⟩⟩ := by kernel_rfl
theorem ntkn_r4 (nb : Nat) (mb : Nat) (cs : List NE) : resL Try.prog [] [⟨nb, 43, false, [.map (some mb), .int .i64 ((frN cs).length : Int)]⟩] [(0, .pointer (some ⟨nb, 0, none⟩)), (4, .string ⟨#[]⟩), (5, .bool false), (6, .string ⟨#[]⟩)] Try.f13.results.toList [] = some ([.string ⟨#[]⟩, .bool false], dupR []) := by kernel_rfl
set_option maxRecDepth 100000 in
set_option maxHeartbeats 4000000 in
theorem take_none (nb mb : Nat) (i : Int) (cs : List NE) (ck : Nat) (hok : NetOk cs ck) (ho : lookR (frN cs) i = none) (w : World) (hp : Blk w nb 43 [.map (some mb), .int .i64 ((frN cs).length : Int)]) (hmp : NapAt w mb cs ck) :
    Calls Try.prog 13 #[.pointer (some ⟨nb, 0, none⟩), .int .i64 i] w (RetK (lookV none) w) := by
  refine calls_of_holds (S := (fun _ => False)) (l := [.pointer (some ⟨nb, 0, none⟩), .int .i64 i]) (n := 43) Try.func13 (body_of (by kernel_rfl)) rfl (by simp) (MemOk.start (bk := [⟨nb, 43, false, [.map (some mb), .int .i64 ((frN cs).length : Int)]⟩]) (wn := []) (by simpa using hp) (by simp) (by simp) (by simp)) ?_
  refine holds_go _ _ (ntkn_s1 i nb mb cs w) trivial ?_
  refine holds_callP (.tuple #[.string ⟨#[]⟩, .bool false]) (ntkn_c2 i nb) trivial rfl (fun wx hm => by have h := look_any nb mb i cs ck hok wx (hm.at_ 0 rfl) (hmp.kept hm.kept (fun e => e)); rw [ho] at h; exact h) fun z2 hz2 => ?_
  replace hz2 : w.heap.size ≤ z2 := hz2
  refine holds_go _ _ (ntkn_s3 i nb mb cs z2) ⟨rfl, trivial⟩ ?_
  refine holds_ret [] (by kernel_rfl) (ntkn_r4 nb mb cs) ?_
  intro wx hm
  exact ⟨rfl, hm.kept⟩

theorem ntkd_s1 (i : Int) (nb : Nat) (mb : Nat) (cs : List NE) (w : World) : Res.prune [0, 4, 5, 9, 10] [] (exec Try.prog (bodyOf Try.f13) 43 12 [⟨false, 0, []⟩, ⟨false, 0, []⟩, ⟨false, 0, []⟩, ⟨false, 0, []⟩] [.code []] ⟨[(0, .pointer (some ⟨nb, 0, none⟩)), (1, .int .i64 i)], [⟨nb, 43, true, [.map (some mb), .int .i64 ((frN cs).length : Int)]⟩], [], w.heap.size⟩) = some ⟨[], dupR [], [.ops [1, 0] [2, 3, 4, 5, 6, 7], .code [1, 1]], ⟨[(0, .pointer (some ⟨nb, 0, none⟩)), (4, .string ⟨#[]⟩), (5, .bool false), (9, .pointer (some ⟨nb, 0, none⟩)), (10, .int .i64 i)], [⟨nb, 43, true, [.map (some mb), .int .i64 ((frN cs).length : Int)]⟩], [], w.heap.size⟩⟩ := by kernel_rfl
theorem ntkd_c2 (i : Int) (nb : Nat) : callAt Try.prog (opsOf (getCode (bodyOf Try.f13) [1, 0])) [(0, .pointer (some ⟨nb, 0, none⟩)), (4, .string ⟨#[]⟩), (5, .bool false), (9, .pointer (some ⟨nb, 0, none⟩)), (10, .int .i64 i)] 2 = some (14, [.pointer (some ⟨nb, 0, none⟩), .int .i64 i], some 11, []) := by kernel_rfl
theorem ntkd_s3 (i : Int) (nb : Nat) (mb : Nat) (x : List UInt8) (cs : List NE) (z2 : Nat) : Res.prune [0, 4, 5, 6, 26, 27] [] (exec Try.prog (bodyOf Try.f13) 43 35 [⟨false, 0, []⟩, ⟨false, 0, []⟩, ⟨false, 0, []⟩, ⟨false, 0, []⟩, ⟨false, 0, []⟩, ⟨false, 0, []⟩, ⟨false, 0, []⟩, ⟨false, 0, []⟩, ⟨false, 0, []⟩, ⟨false, 0, []⟩, ⟨false, 0, []⟩, ⟨false, 0, [⟨false, 0, 1, 1⟩]⟩, ⟨false, 1, []⟩, ⟨false, 0, []⟩, ⟨false, 0, []⟩, ⟨false, 0, [⟨false, 0, 1, 1⟩]⟩, ⟨false, 0, []⟩, ⟨false, 0, []⟩, ⟨false, 0, []⟩, ⟨false, 0, [⟨false, 0, 0, 1⟩]⟩, ⟨false, 0, []⟩] [.ops [1, 0] [3, 4, 5, 6, 7], .code [1, 1]] ⟨[(11, .tuple #[.string (bs x), .bool true]), (0, .pointer (some ⟨nb, 0, none⟩)), (4, .string ⟨#[]⟩), (5, .bool false), (9, .pointer (some ⟨nb, 0, none⟩)), (10, .int .i64 i)], [⟨nb, 43, true, [.map (some mb), .int .i64 ((frN cs).length : Int)]⟩], [], z2⟩) = some ⟨[false = false, inR .i64 ((((frN cs).length : Int) - 1))], dupR [(nb, 1, 1), (nb, 1, 1), (nb, 0, 1)], [.ops [1, 1, 1, 1, 0] [5, 6, 7], .code [1, 1, 1, 1, 1]], ⟨[(0, .pointer (some ⟨nb, 0, none⟩)), (4, .string ⟨#[]⟩), (5, .bool false), (6, .string (bs x)), (26, .map (some mb)), (27, .string (bs x))], [⟨nb, 43, true, [.map (some mb), .int .i64 (((frN cs).length : Int) - 1)]⟩], [], z2⟩⟩ := by kernel_rfl
theorem ntkd_s5 (nb : Nat) (mb : Nat) (x : List UInt8) (cs : List NE) (z2 : Nat) : Res.prune [0, 4, 5, 6, 26, 27, 29] [] (exec Try.prog (bodyOf Try.f13) 43 4 [⟨false, 1, []⟩] [.ops [1, 1, 1, 1, 0] [6, 7], .code [1, 1, 1, 1, 1]] ⟨[(28, .int .i64 (cntN cs (bs x))), (0, .pointer (some ⟨nb, 0, none⟩)), (4, .string ⟨#[]⟩), (5, .bool false), (6, .string (bs x)), (26, .map (some mb)), (27, .string (bs x))], [⟨nb, 43, true, [.map (some mb), .int .i64 (((frN cs).length : Int) - 1)]⟩], [], z2⟩) = some ⟨[inR .i64 (((cntN cs (bs x)) - 1))], dupR [], [.ops [1, 1, 1, 1, 0] [7], .code [1, 1, 1, 1, 1]], ⟨[(0, .pointer (some ⟨nb, 0, none⟩)), (4, .string ⟨#[]⟩), (5, .bool false), (6, .string (bs x)), (26, .map (some mb)), (27, .string (bs x)), (29, .int .i64 ((cntN cs (bs x)) - 1))], [⟨nb, 43, true, [.map (some mb), .int .i64 (((frN cs).length : Int) - 1)]⟩], [], z2⟩⟩ := by kernel_rfl
theorem ntkd_s7 (nb : Nat) (mb : Nat) (x : List UInt8) (cs : List NE) (W1 : World) : Res.prune [0, 4, 5, 6, 33, 34] [] (exec Try.prog (bodyOf Try.f13) 43 12 [⟨false, 0, []⟩, ⟨false, 0, []⟩, ⟨false, 0, []⟩, ⟨false, 0, [⟨false, 0, 0, 1⟩]⟩, ⟨false, 0, []⟩] [.ops [1, 1, 1, 1, 0] [], .code [1, 1, 1, 1, 1]] ⟨[(0, .pointer (some ⟨nb, 0, none⟩)), (4, .string ⟨#[]⟩), (5, .bool false), (6, .string (bs x)), (26, .map (some mb)), (27, .string (bs x)), (29, .int .i64 ((cntN cs (bs x)) - 1))], [⟨nb, 43, true, [.map (some mb), .int .i64 (((frN cs).length : Int) - 1)]⟩], [], W1.heap.size⟩) = some ⟨[], dupR [(nb, 0, 1)], [.ops [1, 1, 1, 1, 1, 0, 0] [5, 6], .code [1, 1, 1, 1, 1, 0, 1], .code [1, 1, 1, 1, 1, 1]], ⟨[(0, .pointer (some ⟨nb, 0, none⟩)), (4, .string ⟨#[]⟩), (5, .bool false), (6, .string (bs x)), (33, .map (some mb)), (34, .string (bs x))], [⟨nb, 43, true, [.map (some mb), .int .i64 (((frN cs).length : Int) - 1)]⟩], [], W1.heap.size⟩⟩ := by kernel_rfl
theorem ntkd_s9 (nb : Nat) (mb : Nat) (x : List UInt8) (cs : List NE) (W1 : World) : Res.prune [4, 5, 6, 40, 41] [] (exec Try.prog (bodyOf Try.f13) 43 12 [⟨false, 0, []⟩, ⟨true, 0, []⟩, ⟨false, 0, []⟩, ⟨false, 0, []⟩, ⟨false, 0, []⟩, ⟨false, 0, [⟨false, 0, 0, 1⟩]⟩, ⟨false, 0, []⟩] [.ops [1, 1, 1, 1, 1, 0, 0] [6], .code [1, 1, 1, 1, 1, 0, 1], .code [1, 1, 1, 1, 1, 1]] ⟨[(35, .int .i64 (cntN cs (bs x) - 1)), (0, .pointer (some ⟨nb, 0, none⟩)), (4, .string ⟨#[]⟩), (5, .bool false), (6, .string (bs x)), (33, .map (some mb)), (34, .string (bs x))], [⟨nb, 43, true, [.map (some mb), .int .i64 (((frN cs).length : Int) - 1)]⟩], [], W1.heap.size⟩) = some ⟨[((cntN cs (bs x) - 1) == 0) = true], dupR [(nb, 0, 1)], [.ops [1, 1, 1, 1, 1, 0, 1, 0] [5], .code [1, 1, 1, 1, 1, 1]], ⟨[(4, .string ⟨#[]⟩), (5, .bool false), (6, .string (bs x)), (40, .map (some mb)), (41, .string (bs x))], [⟨nb, 43, true, [.map (some mb), .int .i64 (((frN cs).length : Int) - 1)]⟩], [], W1.heap.size⟩⟩ := by kernel_rfl
theorem ntkd_s11 (nb : Nat) (mb : Nat) (x : List UInt8) (cs : List NE) (W2 : World) : Res.prune [4, 5] [] (exec Try.prog (bodyOf Try.f13) 43 10 [⟨false, 0, []⟩, ⟨false, 0, []⟩, ⟨false, 0, []⟩] [.ops [1, 1, 1, 1, 1, 0, 1, 0] [], .code [1, 1, 1, 1, 1, 1]] ⟨[(4, .string ⟨#[]⟩), (5, .bool false), (6, .string (bs x)), (40, .map (some mb)), (41, .string (bs x))], [⟨nb, 43, true, [.map (some mb), .int .i64 (((frN cs).length : Int) - 1)]⟩], [], W2.heap.size⟩) = some ⟨[], dupR [], [.code [1, 1, 1, 1, 1, 1, 1]], ⟨[(4, .string (bs x)), (5, .bool true)], [⟨nb, 43, true, [.map (some mb), .int .i64 (((frN cs).length : Int) - 1)]⟩], [], W2.heap.size⟩⟩ := by kernel_rfl
theorem ntkd_r12 (nb : Nat) (mb : Nat) (x : List UInt8) (cs : List NE) : resL Try.prog [] [⟨nb, 43, true, [.map (some mb), .int .i64 (((frN cs).length : Int) - 1)]⟩] [(4, .string (bs x)), (5, .bool true)] Try.f13.results.toList [] = some ([.string (bs x), .bool true], dupR []) := by kernel_rfl
set_option maxRecDepth 100000 in
set_option maxHeartbeats 4000000 in
theorem take_del (nb mb : Nat) (i : Int) (cs : List NE) (ck : Nat) (hok : NetOk cs ck) (x : List UInt8) (ho : lookR (frN cs) i = some x) (hne : nb ≠ mb) (hc : cntN cs (bs x) = 1) (w : World) (hp : Blk w nb 43 [.map (some mb), .int .i64 ((frN cs).length : Int)]) (hmp : NapAt w mb cs ck) :
    Calls Try.prog 13 #[.pointer (some ⟨nb, 0, none⟩), .int .i64 i] w (fun e w' => e = .returned (lookV (some x)) ∧ Blk w' nb 43 [.map (some mb), .int .i64 ((frN cs).length - 1)] ∧ NapAt w' mb (delN (putN cs (bs x) (cntN cs (bs x) - 1) ck) (bs x)) (putK cs (bs x) ck) ∧ Kept (fun x => x = nb ∨ x = mb) w w') := by
  refine calls_of_holds (S := (fun x => x = nb)) (l := [.pointer (some ⟨nb, 0, none⟩), .int .i64 i]) (n := 43) Try.func13 (body_of (by kernel_rfl)) rfl (by simp) (MemOk.start (bk := [⟨nb, 43, true, [.map (some mb), .int .i64 ((frN cs).length : Int)]⟩]) (wn := []) (by simpa using hp) (by simp) (by simp) (by simp)) ?_
  have hln := hok.len
  refine holds_go _ _ (ntkd_s1 i nb mb cs w) trivial ?_
  refine holds_callP (.tuple #[.string (bs x), .bool true]) (ntkd_c2 i nb) trivial rfl (fun wx hm => by have h := look_any nb mb i cs ck hok wx (hm.at_ 0 rfl) (hmp.kept hm.kept (fun e => hne e.symm)); rw [ho] at h; exact h) fun z2 hz2 => ?_
  replace hz2 : w.heap.size ≤ z2 := hz2
  refine holds_go _ _ (ntkd_s3 i nb mb x cs z2) ⟨rfl, in64 (by omega), trivial⟩ ?_
  have hq1 := hok.cnt (bs x)
  refine holds_opR (dst := (some 28)) (x := Instr.lookup 41 (.map (some mb)) (.string (bs x)) false) (.int .i64 (cntN cs (bs x))) (by kernel_rfl) (by kernel_rfl) rfl (fun wx hm => ?_) ?_
  · exact run_lookN (P := Try.prog) wx 41 9 3 mb _ _ _ (by kernel_rfl) (by kernel_rfl) (by kernel_rfl) (hmp.kept hm.kept (fun e => hne e.symm))
  refine holds_go _ _ (ntkd_s5 nb mb x cs z2) ⟨in64 (by omega), trivial⟩ ?_
  refine holds_opSW (w := w) (S' := (fun x => x = nb ∨ x = mb)) (x := Instr.mapUpdate 41 (.map (some mb)) (.string (bs x)) (.int .i64 (cntN cs (bs x) - 1))) (fun W_ => NapAt W_ mb (putN cs (bs x) (cntN cs (bs x) - 1) ck) (putK cs (bs x) ck)) (by kernel_rfl) (by kernel_rfl) (fun wx hm => ?_) (fun W1 hX1 hm1 => ?_)
  · obtain ⟨w', h1, h2, h3, h4⟩ := run_putN (P := Try.prog) wx 41 9 3 mb cs ck (bs x) (cntN cs (bs x) - 1) (by kernel_rfl) (by kernel_rfl) (hmp.kept hm.kept (fun e => hne e.symm))
    exact ⟨w', h1, h2, hm.offN (fun _ h => .inl h) h3 (fun x e => .inl (.inr e)) (by intro b hb; simp at hb; subst hb; exact hne)⟩
  have hnb : ¬ Turned [⟨nb, 43, true, [.map (some mb), .int .i64 (((frN cs).length : Int) - 1)]⟩] mb := by
    rintro ⟨b, hb, hr, he⟩
    simp at hb
    subst hb
    exact hne he
  refine holds_go _ _ (ntkd_s7 nb mb x cs W1) trivial ?_
  refine holds_opR (dst := (some 35)) (x := Instr.lookup 41 (.map (some mb)) (.string (bs x)) false) (.int .i64 (cntN cs (bs x) - 1)) (by kernel_rfl) (by kernel_rfl) rfl (fun wx hm => ?_) ?_
  · have h := run_lookN (P := Try.prog) wx 41 9 3 mb _ _ (bs x) (by kernel_rfl) (by kernel_rfl) (by kernel_rfl) (hX1.kept hm.kept hnb)
    rw [cnt_put, if_pos rfl] at h
    exact h
  refine holds_go _ _ (ntkd_s9 nb mb x cs W1) ⟨beq_iff_eq.2 (by omega), trivial⟩ ?_
  refine holds_opW (w := w) (S' := (fun x => x = nb ∨ x = mb)) (dst := none) (x := Builtin.delete_ #[41, 9] 0 #[.map (some mb), .string (bs x)]) (fun _ => .tuple #[]) (fun _ W_ => NapAt W_ mb (delN (putN cs (bs x) (cntN cs (bs x) - 1) ck) (bs x)) (putK cs (bs x) ck)) (fun _ => [(4, .string ⟨#[]⟩), (5, .bool false), (6, .string (bs x)), (40, .map (some mb)), (41, .string (bs x))]) (by kernel_rfl) (by kernel_rfl) (fun _ => rfl) (fun wx hm => ?_) (fun _ W2 hX2 hm2 => ?_)
  · obtain ⟨w', h1, h2, h3, h4⟩ := run_delN (P := Try.prog) wx 41 9 3 0 9 mb _ _ (bs x) (by kernel_rfl) (by kernel_rfl) (hX1.kept hm.kept hnb)
    exact ⟨0, w', h1, h2, (MemOk.back2 hm1 hm).offN (fun _ h => h) h3 (fun x e => .inl (.inr e)) (by intro b hb; simp at hb; subst hb; exact hne)⟩
  refine holds_go _ _ (ntkd_s11 nb mb x cs W2) trivial ?_
  refine holds_ret [] (by kernel_rfl) (ntkd_r12 nb mb x cs) ?_
  intro wx hm
  exact ⟨rfl, hm.at_ 0 rfl, hX2.kept hm.kept hnb, (MemOk.back2 hm2 hm).kept⟩

theorem ntko_s1 (i : Int) (nb : Nat) (mb : Nat) (cs : List NE) (w : World) : Res.prune [0, 4, 5, 9, 10] [] (exec Try.prog (bodyOf Try.f13) 43 12 [⟨false, 0, []⟩, ⟨false, 0, []⟩, ⟨false, 0, []⟩, ⟨false, 0, []⟩] [.code []] ⟨[(0, .pointer (some ⟨nb, 0, none⟩)), (1, .int .i64 i)], [⟨nb, 43, true, [.map (some mb), .int .i64 ((frN cs).length : Int)]⟩], [], w.heap.size⟩) = some ⟨[], dupR [], [.ops [1, 0] [2, 3, 4, 5, 6, 7], .code [1, 1]], ⟨[(0, .pointer (some ⟨nb, 0, none⟩)), (4, .string ⟨#[]⟩), (5, .bool false), (9, .pointer (some ⟨nb, 0, none⟩)), (10, .int .i64 i)], [⟨nb, 43, true, [.map (some mb), .int .i64 ((frN cs).length : Int)]⟩], [], w.heap.size⟩⟩ := by kernel_rfl
theorem ntko_c2 (i : Int) (nb : Nat) : callAt Try.prog (opsOf (getCode (bodyOf Try.f13) [1, 0])) [(0, .pointer (some ⟨nb, 0, none⟩)), (4, .string ⟨#[]⟩), (5, .bool false), (9, .pointer (some ⟨nb, 0, none⟩)), (10, .int .i64 i)] 2 = some (14, [.pointer (some ⟨nb, 0, none⟩), .int .i64 i], some 11, []) := by kernel_rfl
theorem ntko_s3 (i : Int) (nb : Nat) (mb : Nat) (x : List UInt8) (cs : List NE) (z2 : Nat) : Res.prune [0, 4, 5, 6, 26, 27] [] (exec Try.prog (bodyOf Try.f13) 43 35 [⟨false, 0, []⟩, ⟨false, 0, []⟩, ⟨false, 0, []⟩, ⟨false, 0, []⟩, ⟨false, 0, []⟩, ⟨false, 0, []⟩, ⟨false, 0, []⟩, ⟨false, 0, []⟩, ⟨false, 0, []⟩, ⟨false, 0, []⟩, ⟨false, 0, []⟩, ⟨false, 0, [⟨false, 0, 1, 1⟩]⟩, ⟨false, 1, []⟩, ⟨false, 0, []⟩, ⟨false, 0, []⟩, ⟨false, 0, [⟨false, 0, 1, 1⟩]⟩, ⟨false, 0, []⟩, ⟨false, 0, []⟩, ⟨false, 0, []⟩, ⟨false, 0, [⟨false, 0, 0, 1⟩]⟩, ⟨false, 0, []⟩] [.ops [1, 0] [3, 4, 5, 6, 7], .code [1, 1]] ⟨[(11, .tuple #[.string (bs x), .bool true]), (0, .pointer (some ⟨nb, 0, none⟩)), (4, .string ⟨#[]⟩), (5, .bool false), (9, .pointer (some ⟨nb, 0, none⟩)), (10, .int .i64 i)], [⟨nb, 43, true, [.map (some mb), .int .i64 ((frN cs).length : Int)]⟩], [], z2⟩) = some ⟨[false = false, inR .i64 ((((frN cs).length : Int) - 1))], dupR [(nb, 1, 1), (nb, 1, 1), (nb, 0, 1)], [.ops [1, 1, 1, 1, 0] [5, 6, 7], .code [1, 1, 1, 1, 1]], ⟨[(0, .pointer (some ⟨nb, 0, none⟩)), (4, .string ⟨#[]⟩), (5, .bool false), (6, .string (bs x)), (26, .map (some mb)), (27, .string (bs x))], [⟨nb, 43, true, [.map (some mb), .int .i64 (((frN cs).length : Int) - 1)]⟩], [], z2⟩⟩ := by kernel_rfl
theorem ntko_s5 (nb : Nat) (mb : Nat) (x : List UInt8) (cs : List NE) (z2 : Nat) : Res.prune [0, 4, 5, 6, 26, 27, 29] [] (exec Try.prog (bodyOf Try.f13) 43 4 [⟨false, 1, []⟩] [.ops [1, 1, 1, 1, 0] [6, 7], .code [1, 1, 1, 1, 1]] ⟨[(28, .int .i64 (cntN cs (bs x))), (0, .pointer (some ⟨nb, 0, none⟩)), (4, .string ⟨#[]⟩), (5, .bool false), (6, .string (bs x)), (26, .map (some mb)), (27, .string (bs x))], [⟨nb, 43, true, [.map (some mb), .int .i64 (((frN cs).length : Int) - 1)]⟩], [], z2⟩) = some ⟨[inR .i64 (((cntN cs (bs x)) - 1))], dupR [], [.ops [1, 1, 1, 1, 0] [7], .code [1, 1, 1, 1, 1]], ⟨[(0, .pointer (some ⟨nb, 0, none⟩)), (4, .string ⟨#[]⟩), (5, .bool false), (6, .string (bs x)), (26, .map (some mb)), (27, .string (bs x)), (29, .int .i64 ((cntN cs (bs x)) - 1))], [⟨nb, 43, true, [.map (some mb), .int .i64 (((frN cs).length : Int) - 1)]⟩], [], z2⟩⟩ := by kernel_rfl
theorem ntko_s7 (nb : Nat) (mb : Nat) (x : List UInt8) (cs : List NE) (W1 : World) : Res.prune [0, 4, 5, 6, 33, 34] [] (exec Try.prog (bodyOf Try.f13) 43 12 [⟨false, 0, []⟩, ⟨false, 0, []⟩, ⟨false, 0, []⟩, ⟨false, 0, [⟨false, 0, 0, 1⟩]⟩, ⟨false, 0, []⟩] [.ops [1, 1, 1, 1, 0] [], .code [1, 1, 1, 1, 1]] ⟨[(0, .pointer (some ⟨nb, 0, none⟩)), (4, .string ⟨#[]⟩), (5, .bool false), (6, .string (bs x)), (26, .map (some mb)), (27, .string (bs x)), (29, .int .i64 ((cntN cs (bs x)) - 1))], [⟨nb, 43, true, [.map (some mb), .int .i64 (((frN cs).length : Int) - 1)]⟩], [], W1.heap.size⟩) = some ⟨[], dupR [(nb, 0, 1)], [.ops [1, 1, 1, 1, 1, 0, 0] [5, 6], .code [1, 1, 1, 1, 1, 0, 1], .code [1, 1, 1, 1, 1, 1]], ⟨[(0, .pointer (some ⟨nb, 0, none⟩)), (4, .string ⟨#[]⟩), (5, .bool false), (6, .string (bs x)), (33, .map (some mb)), (34, .string (bs x))], [⟨nb, 43, true, [.map (some mb), .int .i64 (((frN cs).length : Int) - 1)]⟩], [], W1.heap.size⟩⟩ := by kernel_rfl
theorem ntko_s9 (nb : Nat) (mb : Nat) (x : List UInt8) (cs : List NE) (W1 : World) : Res.prune [4, 5] [] (exec Try.prog (bodyOf Try.f13) 43 13 [⟨false, 0, []⟩, ⟨false, 0, []⟩, ⟨false, 0, []⟩, ⟨false, 0, []⟩, ⟨false, 0, []⟩] [.ops [1, 1, 1, 1, 1, 0, 0] [6], .code [1, 1, 1, 1, 1, 0, 1], .code [1, 1, 1, 1, 1, 1]] ⟨[(35, .int .i64 (cntN cs (bs x) - 1)), (0, .pointer (some ⟨nb, 0, none⟩)), (4, .string ⟨#[]⟩), (5, .bool false), (6, .string (bs x)), (33, .map (some mb)), (34, .string (bs x))], [⟨nb, 43, true, [.map (some mb), .int .i64 (((frN cs).length : Int) - 1)]⟩], [], W1.heap.size⟩) = some ⟨[((cntN cs (bs x) - 1) == 0) = false], dupR [], [.code [1, 1, 1, 1, 1, 1, 1]], ⟨[(4, .string (bs x)), (5, .bool true)], [⟨nb, 43, true, [.map (some mb), .int .i64 (((frN cs).length : Int) - 1)]⟩], [], W1.heap.size⟩⟩ := by kernel_rfl
theorem ntko_r10 (nb : Nat) (mb : Nat) (x : List UInt8) (cs : List NE) : resL Try.prog [] [⟨nb, 43, true, [.map (some mb), .int .i64 (((frN cs).length : Int) - 1)]⟩] [(4, .string (bs x)), (5, .bool true)] Try.f13.results.toList [] = some ([.string (bs x), .bool true], dupR []) := by kernel_rfl
set_option maxRecDepth 100000 in
set_option maxHeartbeats 4000000 in
theorem take_one (nb mb : Nat) (i : Int) (cs : List NE) (ck : Nat) (hok : NetOk cs ck) (x : List UInt8) (ho : lookR (frN cs) i = some x) (hne : nb ≠ mb) (hc : cntN cs (bs x) ≠ 1 ∧ 1 ≤ cntN cs (bs x)) (w : World) (hp : Blk w nb 43 [.map (some mb), .int .i64 ((frN cs).length : Int)]) (hmp : NapAt w mb cs ck) :
    Calls Try.prog 13 #[.pointer (some ⟨nb, 0, none⟩), .int .i64 i] w (fun e w' => e = .returned (lookV (some x)) ∧ Blk w' nb 43 [.map (some mb), .int .i64 ((frN cs).length - 1)] ∧ NapAt w' mb (putN cs (bs x) (cntN cs (bs x) - 1) ck) (putK cs (bs x) ck) ∧ Kept (fun x => x = nb ∨ x = mb) w w') := by
  refine calls_of_holds (S := (fun x => x = nb)) (l := [.pointer (some ⟨nb, 0, none⟩), .int .i64 i]) (n := 43) Try.func13 (body_of (by kernel_rfl)) rfl (by simp) (MemOk.start (bk := [⟨nb, 43, true, [.map (some mb), .int .i64 ((frN cs).length : Int)]⟩]) (wn := []) (by simpa using hp) (by simp) (by simp) (by simp)) ?_
  have hln := hok.len
  refine holds_go _ _ (ntko_s1 i nb mb cs w) trivial ?_
  refine holds_callP (.tuple #[.string (bs x), .bool true]) (ntko_c2 i nb) trivial rfl (fun wx hm => by have h := look_any nb mb i cs ck hok wx (hm.at_ 0 rfl) (hmp.kept hm.kept (fun e => hne e.symm)); rw [ho] at h; exact h) fun z2 hz2 => ?_
  replace hz2 : w.heap.size ≤ z2 := hz2
  refine holds_go _ _ (ntko_s3 i nb mb x cs z2) ⟨rfl, in64 (by omega), trivial⟩ ?_
  have hq1 := hok.cnt (bs x)
  refine holds_opR (dst := (some 28)) (x := Instr.lookup 41 (.map (some mb)) (.string (bs x)) false) (.int .i64 (cntN cs (bs x))) (by kernel_rfl) (by kernel_rfl) rfl (fun wx hm => ?_) ?_
  · exact run_lookN (P := Try.prog) wx 41 9 3 mb _ _ _ (by kernel_rfl) (by kernel_rfl) (by kernel_rfl) (hmp.kept hm.kept (fun e => hne e.symm))
  refine holds_go _ _ (ntko_s5 nb mb x cs z2) ⟨in64 (by omega), trivial⟩ ?_
  refine holds_opSW (w := w) (S' := (fun x => x = nb ∨ x = mb)) (x := Instr.mapUpdate 41 (.map (some mb)) (.string (bs x)) (.int .i64 (cntN cs (bs x) - 1))) (fun W_ => NapAt W_ mb (putN cs (bs x) (cntN cs (bs x) - 1) ck) (putK cs (bs x) ck)) (by kernel_rfl) (by kernel_rfl) (fun wx hm => ?_) (fun W1 hX1 hm1 => ?_)
  · obtain ⟨w', h1, h2, h3, h4⟩ := run_putN (P := Try.prog) wx 41 9 3 mb cs ck (bs x) (cntN cs (bs x) - 1) (by kernel_rfl) (by kernel_rfl) (hmp.kept hm.kept (fun e => hne e.symm))
    exact ⟨w', h1, h2, hm.offN (fun _ h => .inl h) h3 (fun x e => .inl (.inr e)) (by intro b hb; simp at hb; subst hb; exact hne)⟩
  have hnb : ¬ Turned [⟨nb, 43, true, [.map (some mb), .int .i64 (((frN cs).length : Int) - 1)]⟩] mb := by
    rintro ⟨b, hb, hr, he⟩
    simp at hb
    subst hb
    exact hne he
  refine holds_go _ _ (ntko_s7 nb mb x cs W1) trivial ?_
  refine holds_opR (dst := (some 35)) (x := Instr.lookup 41 (.map (some mb)) (.string (bs x)) false) (.int .i64 (cntN cs (bs x) - 1)) (by kernel_rfl) (by kernel_rfl) rfl (fun wx hm => ?_) ?_
  · have h := run_lookN (P := Try.prog) wx 41 9 3 mb _ _ (bs x) (by kernel_rfl) (by kernel_rfl) (by kernel_rfl) (hX1.kept hm.kept hnb)
    rw [cnt_put, if_pos rfl] at h
    exact h
  refine holds_go _ _ (ntko_s9 nb mb x cs W1) ⟨beq_eq_false_iff_ne.2 (by omega), trivial⟩ ?_
  refine holds_ret [] (by kernel_rfl) (ntko_r10 nb mb x cs) ?_
  intro wx hm
  exact ⟨rfl, hm.at_ 0 rfl, hX1.kept hm.kept hnb, (MemOk.back2 hm1 hm).kept⟩

theorem mem_del : ∀ {cs : List NE} {s : ByteArray}, (cs.map (·.k)).Nodup → ∀ {d : NE}, d ∈ delN cs s → d ∈ cs ∧ d.k ≠ s
  | [], _, _, _, h => by cases h
  | c :: cs, s, hn, d, h => by
    rw [List.map_cons, List.nodup_cons] at hn
    simp only [delN] at h
    split at h
    · rename_i he
      exact ⟨List.mem_cons_of_mem _ h, fun e => hn.1 (by rw [← he, ← e]; exact List.mem_map.2 ⟨d, h, rfl⟩)⟩
    · rename_i he
      rcases List.mem_cons.1 h with rfl | h
      · exact ⟨List.mem_cons_self .., fun e => he e.symm⟩
      · exact ⟨List.mem_cons_of_mem _ (mem_del hn.2 h).1, (mem_del hn.2 h).2⟩
theorem put_ok {cs : List NE} {ck : Nat} (h : NetOk cs ck) {s : ByteArray} (v : Int) (hs : s ∈ cs.map (·.k)) : ((putN cs s v ck).map (·.born)).Nodup ∧ (∀ d ∈ putN cs s v ck, d.born < putK cs s ck) ∧ (∀ d ∈ putN cs s v ck, d.k.size ≤ 1000) ∧ ∀ d ∈ putN cs s v ck, d.k = s ∧ d.c = v ∨ 0 < d.c := by
  have hb : (putN cs s v ck).map (·.born) = cs.map (·.born) ∧ putK cs s ck = ck := by
    rcases born_put cs s v ck 0 with ⟨h1, h2⟩ | ⟨h1, h2⟩
    · obtain ⟨p, hp⟩ := Option.isSome_iff_exists.1 h1
      exact ⟨h2, by simp [putK, hp]⟩
    · exact absurd hs (lookN_none h1)
  have hbl : ∀ d ∈ putN cs s v ck, d.born < ck := fun d hd => by
    have h1 : d.born ∈ cs.map (·.born) := hb.1 ▸ List.mem_map.2 ⟨d, hd, rfl⟩
    obtain ⟨c, hc, h4⟩ := List.mem_map.1 h1
    have := h.bl c hc
    omega
  obtain ⟨c0, hc0, e0⟩ := List.mem_map.1 hs
  refine ⟨hb.1 ▸ h.nb, fun d hd => by rw [hb.2]; exact hbl d hd, fun d hd => ?_, fun d hd => ?_⟩
  · rcases mem_put hd with ⟨h2, _⟩ | ⟨h2, _⟩ | h2
    · exact h.sz d h2
    · rw [h2, ← e0]
      exact h.sz c0 hc0
    · exact h.sz d h2
  · rcases mem_put hd with ⟨h2, _⟩ | ⟨h2, h3, _⟩ | h2
    · exact .inr (h.pos d h2)
    · exact .inl ⟨h2, h3⟩
    · exact .inr (h.pos d h2)
def takeL (L : List (List UInt8)) (i : Int) : List (List UInt8) := if (lookR L i).isSome = true then L.eraseIdx i.toNat else L
theorem take_net (nb mb : Nat) (L : List (List UInt8)) (i : Int) (w : World) (h : NetAt 43 w nb mb L) :
    Calls Try.prog 13 #[.pointer (some ⟨nb, 0, none⟩), .int .i64 i] w (fun e w' => e = .returned (lookV (lookR L i)) ∧ NetAt 43 w' nb mb (takeL L i) ∧ Kept (ours nb mb) w w') := by
  obtain ⟨cs, ck, hB, hN, ok, rfl, hne⟩ := h
  unfold takeL
  cases ho : lookR (frN cs) i with
  | none =>
    rw [if_neg (by simp)]
    exact (take_none nb mb i cs ck ok ho w hB hN).mono fun e w' ⟨a1, a2⟩ => ⟨a1, ⟨cs, ck, hB.kept a2 id, hN.kept a2 id, ok, rfl, hne⟩, a2.mono (fun _ _ h => h.elim)⟩
  | some x =>
    rw [if_pos (show (some x).isSome = true from rfl)]
    have hx : (frN cs)[i.toNat]? = some x := by
      unfold lookR at ho
      split at ho
      · cases ho
      · exact ho
    have hi := (List.getElem?_eq_some_iff.1 hx).1
    have hmem : x ∈ frN cs := List.mem_of_getElem? hx
    have h1 : 1 ≤ cntN cs (bs x) := by
      have h2 := count_fr ok.nk x
      have h3 := List.count_pos_iff.2 hmem
      omega
    have hs : bs x ∈ cs.map (·.k) := by
      refine Classical.byContradiction fun hn => ?_
      rw [cnt_none hn] at h1
      omega
    obtain ⟨p1, p2, p3, p4⟩ := put_ok ok (cntN cs (bs x) - 1) hs
    have hnk := nk_put ok.nk (bs x) (cntN cs (bs x) - 1) ck
    have hlen : ((frN cs).eraseIdx i.toNat).length = (frN cs).length - 1 := by rw [List.length_eraseIdx, if_pos hi]
    have hln := ok.len
    by_cases hc : cntN cs (bs x) = 1
    · have hnk2 := hnk.sublist ((del_sub _ (bs x)).map (·.k))
      have hfr := fr_take (cs' := delN (putN cs (bs x) (cntN cs (bs x) - 1) ck) (bs x)) ok.nk hnk2 hx (fun t => by
        rw [cnt_del hnk, cnt_put]
        split
        · omega
        · rfl)
      refine (take_del nb mb i cs ck ok x ho hne hc w hB hN).mono fun e w' ⟨a1, a2, a3, a4⟩ => ⟨a1, ⟨_, _, ?_, a3, ⟨hnk2, p1.sublist ((del_sub _ _).map _), fun d hd => p2 d ((del_sub _ _).subset hd), fun d hd => ?_, fun d hd => p3 d ((del_sub _ _).subset hd), by rw [hfr, hlen]; omega⟩, hfr.symm, hne⟩, a4⟩
      · rw [hlen]
        have e2 : (((frN cs).length - 1 : Nat) : Int) = ((frN cs).length : Int) - 1 := by omega
        rw [e2]
        exact a2
      · obtain ⟨m1, m2⟩ := mem_del hnk hd
        exact (p4 d m1).resolve_left (fun h => m2 h.1)
    · have hfr := fr_take (cs' := putN cs (bs x) (cntN cs (bs x) - 1) ck) ok.nk hnk hx (fun t => cnt_put _ _ _ _ _)
      refine (take_one nb mb i cs ck ok x ho hne ⟨hc, h1⟩ w hB hN).mono fun e w' ⟨a1, a2, a3, a4⟩ => ⟨a1, ⟨_, _, ?_, a3, ⟨hnk, p1, p2, fun d hd => ?_, p3, by rw [hfr, hlen]; omega⟩, hfr.symm, hne⟩, a4⟩
      · rw [hlen]
        have e2 : (((frN cs).length - 1 : Nat) : Int) = ((frN cs).length : Int) - 1 := by omega
        rw [e2]
        exact a2
      · rcases p4 d hd with ⟨_, h3⟩ | h3
        · omega
        · exact h3
def copyB (L : List (List UInt8)) (i : Int) : Bool := match lookR L i with
  | some x => okS L (bs x)
  | none => false
def copyL (L : List (List UInt8)) (i : Int) : List (List UInt8) := match lookR L i with
  | some x => sendL L (bs x)
  | none => L
theorem ncps_s1 (i : Int) (nb : Nat) (w : World) : Res.prune [0, 4, 8, 9] [] (exec Try.prog (bodyOf Try.f19) 19 11 [⟨false, 0, []⟩, ⟨false, 0, []⟩, ⟨false, 0, []⟩] [.code []] ⟨[(0, .pointer (some ⟨nb, 0, none⟩)), (1, .int .i64 i)], [], [], w.heap.size⟩) = some ⟨[], dupR [], [.ops [1, 0] [2, 3, 4, 5, 6, 7], .code [1, 1]], ⟨[(0, .pointer (some ⟨nb, 0, none⟩)), (4, .bool false), (8, .pointer (some ⟨nb, 0, none⟩)), (9, .int .i64 i)], [], [], w.heap.size⟩⟩ := by kernel_rfl
theorem ncps_c2 (i : Int) (nb : Nat) : callAt Try.prog (opsOf (getCode (bodyOf Try.f19) [1, 0])) [(0, .pointer (some ⟨nb, 0, none⟩)), (4, .bool false), (8, .pointer (some ⟨nb, 0, none⟩)), (9, .int .i64 i)] 2 = some (14, [.pointer (some ⟨nb, 0, none⟩), .int .i64 i], some 10, []) := by kernel_rfl
theorem ncps_s3 (i : Int) (nb : Nat) (x : List UInt8) (z2 : Nat) : Res.prune [4, 14, 15, 16] [] (exec Try.prog (bodyOf Try.f19) 19 15 [⟨false, 0, []⟩, ⟨false, 0, []⟩, ⟨false, 0, []⟩, ⟨false, 0, []⟩, ⟨false, 0, []⟩, ⟨false, 0, []⟩, ⟨false, 0, []⟩, ⟨true, 0, []⟩, ⟨true, 0, []⟩] [.ops [1, 0] [3, 4, 5, 6, 7], .code [1, 1]] ⟨[(10, .tuple #[.string (bs x), .bool true]), (0, .pointer (some ⟨nb, 0, none⟩)), (4, .bool false), (8, .pointer (some ⟨nb, 0, none⟩)), (9, .int .i64 i)], [], [], z2⟩) = some ⟨[true = true, true = true], dupR [], [.ops [1, 1, 0] [4, 5, 6], .code [1, 1, 1]], ⟨[(4, .bool false), (14, .bool true), (15, .pointer (some ⟨nb, 0, none⟩)), (16, .string (bs x))], [], [], z2⟩⟩ := by kernel_rfl
theorem ncps_c4 (nb : Nat) (x : List UInt8) : callAt Try.prog (opsOf (getCode (bodyOf Try.f19) [1, 1, 0])) [(4, .bool false), (14, .bool true), (15, .pointer (some ⟨nb, 0, none⟩)), (16, .string (bs x))] 4 = some (11, [.pointer (some ⟨nb, 0, none⟩), .string (bs x)], some 17, [true = true]) := by kernel_rfl
theorem ncps_s5 (nb : Nat) (x : List UInt8) (L : List (List UInt8)) (W1 : World) : Res.prune [4] [] (exec Try.prog (bodyOf Try.f19) 19 6 [⟨false, 2, []⟩, ⟨false, 0, []⟩] [.ops [1, 1, 0] [5, 6], .code [1, 1, 1]] ⟨[(17, .bool (okS L (bs x))), (4, .bool false), (14, .bool true), (15, .pointer (some ⟨nb, 0, none⟩)), (16, .string (bs x))], [], [], W1.heap.size⟩) = some ⟨[true = true], dupR [], [.code [1, 1, 1]], ⟨[(4, .bool (okS L (bs x)))], [], [], W1.heap.size⟩⟩ := by kernel_rfl
theorem ncps_r6 (x : List UInt8) (L : List (List UInt8)) : resL Try.prog [] [] [(4, .bool (okS L (bs x)))] Try.f19.results.toList [] = some ([.bool (okS L (bs x))], dupR []) := by kernel_rfl
set_option maxRecDepth 100000 in
set_option maxHeartbeats 4000000 in
theorem copy_some (nb mb : Nat) (L : List (List UInt8)) (i : Int) (x : List UInt8) (ho : lookR L i = some x) (w : World) (h : NetAt 43 w nb mb L) :
    Calls Try.prog 19 #[.pointer (some ⟨nb, 0, none⟩), .int .i64 i] w (fun e w' => e = .returned (.bool (okS L (bs x))) ∧ NetAt 43 w' nb mb (sendL L (bs x)) ∧ Kept (ours nb mb) w w') := by
  refine calls_of_holds (S := (fun _ => False)) (l := [.pointer (some ⟨nb, 0, none⟩), .int .i64 i]) (n := 19) Try.func19 (body_of (by kernel_rfl)) rfl (by simp) (MemOk.none w _) ?_
  refine holds_go _ _ (ncps_s1 i nb w) trivial ?_
  refine holds_callP (.tuple #[.string (bs x), .bool true]) (ncps_c2 i nb) trivial rfl (fun wx hm => by have h1 := look_net nb mb L i wx (h.kept hm.kept id id); rw [ho] at h1; exact h1) fun z2 hz2 => ?_
  replace hz2 : w.heap.size ≤ z2 := hz2
  refine holds_go _ _ (ncps_s3 i nb x z2) ⟨rfl, rfl, trivial⟩ ?_
  refine holds_callW (w := w) (S' := (ours nb mb)) (Y := Nat) (fun _ => .bool (okS L (bs x))) (fun _ => []) (fun _ W_ => NetAt 43 W_ nb mb (sendL L (bs x))) (fun _ => [(17, .bool (okS L (bs x))), (4, .bool false), (14, .bool true), (15, .pointer (some ⟨nb, 0, none⟩)), (16, .string (bs x))]) (ncps_c4 nb x) ⟨rfl, trivial⟩ (fun _ => rfl) (fun wx hm => ?_) (fun _ W1 hX1 hm1 => ?_)
  · refine (send_net nb mb L (bs x) wx (h.kept hm.kept id id)).mono fun e w' ⟨h1, h2, h3⟩ => ?_
    exact ⟨0, h1, h2, hm.offN (S' := ours nb mb) (fun _ h => h.elim) h3 (fun x h => .inl h) (by simp)⟩
  refine holds_go _ _ (ncps_s5 nb x L W1) ⟨rfl, trivial⟩ ?_
  refine holds_ret [] (by kernel_rfl) (ncps_r6 x L) ?_
  intro wx hm
  exact ⟨rfl, hX1.kept hm.kept (by rintro ⟨b, hb, hr, he⟩; simp at hb) (by rintro ⟨b, hb, hr, he⟩; simp at hb), (MemOk.back2 hm1 hm).kept⟩

theorem ncpn_s1 (i : Int) (nb : Nat) (w : World) : Res.prune [0, 4, 8, 9] [] (exec Try.prog (bodyOf Try.f19) 19 11 [⟨false, 0, []⟩, ⟨false, 0, []⟩, ⟨false, 0, []⟩] [.code []] ⟨[(0, .pointer (some ⟨nb, 0, none⟩)), (1, .int .i64 i)], [], [], w.heap.size⟩) = some ⟨[], dupR [], [.ops [1, 0] [2, 3, 4, 5, 6, 7], .code [1, 1]], ⟨[(0, .pointer (some ⟨nb, 0, none⟩)), (4, .bool false), (8, .pointer (some ⟨nb, 0, none⟩)), (9, .int .i64 i)], [], [], w.heap.size⟩⟩ := by kernel_rfl
theorem ncpn_c2 (i : Int) (nb : Nat) : callAt Try.prog (opsOf (getCode (bodyOf Try.f19) [1, 0])) [(0, .pointer (some ⟨nb, 0, none⟩)), (4, .bool false), (8, .pointer (some ⟨nb, 0, none⟩)), (9, .int .i64 i)] 2 = some (14, [.pointer (some ⟨nb, 0, none⟩), .int .i64 i], some 10, []) := by kernel_rfl
theorem ncpn_s3 (i : Int) (nb : Nat) (z2 : Nat) : Res.prune [4] [] (exec Try.prog (bodyOf Try.f19) 19 19 [⟨false, 0, []⟩, ⟨false, 0, []⟩, ⟨false, 0, []⟩, ⟨false, 0, []⟩, ⟨false, 0, []⟩, ⟨false, 0, []⟩, ⟨false, 0, []⟩, ⟨false, 0, []⟩, ⟨false, 0, []⟩, ⟨false, 0, []⟩, ⟨false, 3, []⟩, ⟨false, 0, []⟩] [.ops [1, 0] [3, 4, 5, 6, 7], .code [1, 1]] ⟨[(10, .tuple #[.string ⟨#[]⟩, .bool false]), (0, .pointer (some ⟨nb, 0, none⟩)), (4, .bool false), (8, .pointer (some ⟨nb, 0, none⟩)), (9, .int .i64 i)], [], [], z2⟩) = some ⟨[false = false, false = false, false = false, false = false], dupR [], [.code [1, 1, 1]], ⟨[(4, .bool false)], [], [], z2⟩⟩ := by kernel_rfl
theorem ncpn_r4 : resL Try.prog [] [] [(4, .bool false)] Try.f19.results.toList [] = some ([.bool false], dupR []) := by kernel_rfl
set_option maxRecDepth 100000 in
set_option maxHeartbeats 4000000 in
theorem copy_none (nb mb : Nat) (L : List (List UInt8)) (i : Int) (ho : lookR L i = none) (w : World) (h : NetAt 43 w nb mb L) :
    Calls Try.prog 19 #[.pointer (some ⟨nb, 0, none⟩), .int .i64 i] w (RetK (.bool false) w) := by
  refine calls_of_holds (S := (fun _ => False)) (l := [.pointer (some ⟨nb, 0, none⟩), .int .i64 i]) (n := 19) Try.func19 (body_of (by kernel_rfl)) rfl (by simp) (MemOk.none w _) ?_
  refine holds_go _ _ (ncpn_s1 i nb w) trivial ?_
  refine holds_callP (.tuple #[.string ⟨#[]⟩, .bool false]) (ncpn_c2 i nb) trivial rfl (fun wx hm => by have h1 := look_net nb mb L i wx (h.kept hm.kept id id); rw [ho] at h1; exact h1) fun z2 hz2 => ?_
  replace hz2 : w.heap.size ≤ z2 := hz2
  refine holds_go _ _ (ncpn_s3 i nb z2) ⟨rfl, rfl, rfl, rfl, trivial⟩ ?_
  refine holds_ret [] (by kernel_rfl) (ncpn_r4) ?_
  intro wx hm
  exact ⟨rfl, hm.kept⟩

theorem copy_net (nb mb : Nat) (L : List (List UInt8)) (i : Int) (w : World) (h : NetAt 43 w nb mb L) :
    Calls Try.prog 19 #[.pointer (some ⟨nb, 0, none⟩), .int .i64 i] w (fun e w' => e = .returned (.bool (copyB L i)) ∧ NetAt 43 w' nb mb (copyL L i) ∧ Kept (ours nb mb) w w') := by
  unfold copyB copyL
  cases ho : lookR L i with
  | none => exact (copy_none nb mb L i ho w h).mono fun e w' ⟨a1, a2⟩ => ⟨a1, h.kept a2 id id, a2.mono (fun _ _ h => h.elim)⟩
  | some x => exact copy_some nb mb L i x ho w h
theorem ndrs_s1 (i : Int) (nb : Nat) (w : World) : Res.prune [4, 8, 9] [] (exec Try.prog (bodyOf Try.f21) 14 11 [⟨false, 0, []⟩, ⟨false, 0, []⟩, ⟨false, 0, []⟩] [.code []] ⟨[(0, .pointer (some ⟨nb, 0, none⟩)), (1, .int .i64 i)], [], [], w.heap.size⟩) = some ⟨[], dupR [], [.ops [1, 0] [2, 3, 4, 5, 6, 7], .code [1, 1]], ⟨[(4, .bool false), (8, .pointer (some ⟨nb, 0, none⟩)), (9, .int .i64 i)], [], [], w.heap.size⟩⟩ := by kernel_rfl
theorem ndrs_c2 (i : Int) (nb : Nat) : callAt Try.prog (opsOf (getCode (bodyOf Try.f21) [1, 0])) [(4, .bool false), (8, .pointer (some ⟨nb, 0, none⟩)), (9, .int .i64 i)] 2 = some (13, [.pointer (some ⟨nb, 0, none⟩), .int .i64 i], some 10, []) := by kernel_rfl
theorem ndrs_s3 (i : Int) (nb : Nat) (x : List UInt8) (W1 : World) : Res.prune [4] [] (exec Try.prog (bodyOf Try.f21) 14 14 [⟨false, 0, []⟩, ⟨false, 0, []⟩, ⟨false, 0, []⟩, ⟨false, 0, []⟩, ⟨false, 0, []⟩, ⟨false, 0, []⟩, ⟨false, 0, []⟩] [.ops [1, 0] [3, 4, 5, 6, 7], .code [1, 1]] ⟨[(10, .tuple #[.string (bs x), .bool true]), (4, .bool false), (8, .pointer (some ⟨nb, 0, none⟩)), (9, .int .i64 i)], [], [], W1.heap.size⟩) = some ⟨[], dupR [], [.code [1, 1, 1]], ⟨[(4, .bool true)], [], [], W1.heap.size⟩⟩ := by kernel_rfl
theorem ndrs_r4 : resL Try.prog [] [] [(4, .bool true)] Try.f21.results.toList [] = some ([.bool true], dupR []) := by kernel_rfl
set_option maxRecDepth 100000 in
set_option maxHeartbeats 4000000 in
theorem drop_some (nb mb : Nat) (L : List (List UInt8)) (i : Int) (x : List UInt8) (ho : lookR L i = some x) (w : World) (h : NetAt 43 w nb mb L) :
    Calls Try.prog 21 #[.pointer (some ⟨nb, 0, none⟩), .int .i64 i] w (fun e w' => e = .returned (.bool true) ∧ NetAt 43 w' nb mb (takeL L i) ∧ Kept (ours nb mb) w w') := by
  refine calls_of_holds (S := (fun _ => False)) (l := [.pointer (some ⟨nb, 0, none⟩), .int .i64 i]) (n := 14) Try.func21 (body_of (by kernel_rfl)) rfl (by simp) (MemOk.none w _) ?_
  refine holds_go _ _ (ndrs_s1 i nb w) trivial ?_
  refine holds_callW (w := w) (S' := (ours nb mb)) (Y := Nat) (fun _ => .tuple #[.string (bs x), .bool true]) (fun _ => []) (fun _ W_ => NetAt 43 W_ nb mb (takeL L i)) (fun _ => [(10, .tuple #[.string (bs x), .bool true]), (4, .bool false), (8, .pointer (some ⟨nb, 0, none⟩)), (9, .int .i64 i)]) (ndrs_c2 i nb) trivial (fun _ => rfl) (fun wx hm => ?_) (fun _ W1 hX1 hm1 => ?_)
  · refine (take_net nb mb L i wx (h.kept hm.kept id id)).mono fun e w' ⟨h1, h2, h3⟩ => ?_
    rw [ho] at h1
    exact ⟨0, h1, h2, hm.offN (S' := ours nb mb) (fun _ h => h.elim) h3 (fun x h => .inl h) (by simp)⟩
  refine holds_go _ _ (ndrs_s3 i nb x W1) trivial ?_
  refine holds_ret [] (by kernel_rfl) (ndrs_r4) ?_
  intro wx hm
  exact ⟨rfl, hX1.kept hm.kept (by rintro ⟨b, hb, hr, he⟩; simp at hb) (by rintro ⟨b, hb, hr, he⟩; simp at hb), (MemOk.back2 hm1 hm).kept⟩

theorem ndrn_s1 (i : Int) (nb : Nat) (w : World) : Res.prune [4, 8, 9] [] (exec Try.prog (bodyOf Try.f21) 14 11 [⟨false, 0, []⟩, ⟨false, 0, []⟩, ⟨false, 0, []⟩] [.code []] ⟨[(0, .pointer (some ⟨nb, 0, none⟩)), (1, .int .i64 i)], [], [], w.heap.size⟩) = some ⟨[], dupR [], [.ops [1, 0] [2, 3, 4, 5, 6, 7], .code [1, 1]], ⟨[(4, .bool false), (8, .pointer (some ⟨nb, 0, none⟩)), (9, .int .i64 i)], [], [], w.heap.size⟩⟩ := by kernel_rfl
theorem ndrn_c2 (i : Int) (nb : Nat) : callAt Try.prog (opsOf (getCode (bodyOf Try.f21) [1, 0])) [(4, .bool false), (8, .pointer (some ⟨nb, 0, none⟩)), (9, .int .i64 i)] 2 = some (13, [.pointer (some ⟨nb, 0, none⟩), .int .i64 i], some 10, []) := by kernel_rfl
theorem ndrn_s3 (i : Int) (nb : Nat) (W1 : World) : Res.prune [4] [] (exec Try.prog (bodyOf Try.f21) 14 14 [⟨false, 0, []⟩, ⟨false, 0, []⟩, ⟨false, 0, []⟩, ⟨false, 0, []⟩, ⟨false, 0, []⟩, ⟨false, 0, []⟩, ⟨false, 0, []⟩] [.ops [1, 0] [3, 4, 5, 6, 7], .code [1, 1]] ⟨[(10, .tuple #[.string ⟨#[]⟩, .bool false]), (4, .bool false), (8, .pointer (some ⟨nb, 0, none⟩)), (9, .int .i64 i)], [], [], W1.heap.size⟩) = some ⟨[], dupR [], [.code [1, 1, 1]], ⟨[(4, .bool false)], [], [], W1.heap.size⟩⟩ := by kernel_rfl
theorem ndrn_r4 : resL Try.prog [] [] [(4, .bool false)] Try.f21.results.toList [] = some ([.bool false], dupR []) := by kernel_rfl
set_option maxRecDepth 100000 in
set_option maxHeartbeats 4000000 in
theorem drop_none (nb mb : Nat) (L : List (List UInt8)) (i : Int) (ho : lookR L i = none) (w : World) (h : NetAt 43 w nb mb L) :
    Calls Try.prog 21 #[.pointer (some ⟨nb, 0, none⟩), .int .i64 i] w (fun e w' => e = .returned (.bool false) ∧ NetAt 43 w' nb mb (takeL L i) ∧ Kept (ours nb mb) w w') := by
  refine calls_of_holds (S := (fun _ => False)) (l := [.pointer (some ⟨nb, 0, none⟩), .int .i64 i]) (n := 14) Try.func21 (body_of (by kernel_rfl)) rfl (by simp) (MemOk.none w _) ?_
  refine holds_go _ _ (ndrn_s1 i nb w) trivial ?_
  refine holds_callW (w := w) (S' := (ours nb mb)) (Y := Nat) (fun _ => .tuple #[.string ⟨#[]⟩, .bool false]) (fun _ => []) (fun _ W_ => NetAt 43 W_ nb mb (takeL L i)) (fun _ => [(10, .tuple #[.string ⟨#[]⟩, .bool false]), (4, .bool false), (8, .pointer (some ⟨nb, 0, none⟩)), (9, .int .i64 i)]) (ndrn_c2 i nb) trivial (fun _ => rfl) (fun wx hm => ?_) (fun _ W1 hX1 hm1 => ?_)
  · refine (take_net nb mb L i wx (h.kept hm.kept id id)).mono fun e w' ⟨h1, h2, h3⟩ => ?_
    rw [ho] at h1
    exact ⟨0, h1, h2, hm.offN (S' := ours nb mb) (fun _ h => h.elim) h3 (fun x h => .inl h) (by simp)⟩
  refine holds_go _ _ (ndrn_s3 i nb W1) trivial ?_
  refine holds_ret [] (by kernel_rfl) (ndrn_r4) ?_
  intro wx hm
  exact ⟨rfl, hX1.kept hm.kept (by rintro ⟨b, hb, hr, he⟩; simp at hb) (by rintro ⟨b, hb, hr, he⟩; simp at hb), (MemOk.back2 hm1 hm).kept⟩

theorem drop_net (nb mb : Nat) (L : List (List UInt8)) (i : Int) (w : World) (h : NetAt 43 w nb mb L) :
    Calls Try.prog 21 #[.pointer (some ⟨nb, 0, none⟩), .int .i64 i] w (fun e w' => e = .returned (.bool (lookR L i).isSome) ∧ NetAt 43 w' nb mb (takeL L i) ∧ Kept (ours nb mb) w w') := by
  cases ho : lookR L i with
  | none => exact drop_none nb mb L i ho w h
  | some x => exact drop_some nb mb L i x ho w h
end Go.Proofs.Ythndmmondlpghaa
