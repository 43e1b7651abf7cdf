/- NetOrder, walked. -/
import Derived.Test.YthndmmondlpghaaAwake13
import Derived.Test.YthndmmondlpghaaPick13
namespace Go.Proofs.Ythndmmondlpghaa
open Go.RowKit

/-- which text is sent to the second net -/
def sgO (t0 : Int) (NN : Nat) (B : Int) (j : Nat) : Nat := if (Int.tmod t0 2 == 0) = true then Int.toNat (((j : Int) + B) % (NN : Int)) else Int.toNat ((NN : Int) - 1 - (j : Int))
def sndL (l : List ByteArray) : List (List UInt8) := l.foldl sendL []
theorem send_len (L : List (List UInt8)) (s : ByteArray) : (sendL L s).length ≤ L.length + 1 := by
  unfold sendL
  split
  · rw [ins_len]
    exact Nat.le_refl _
  · omega
theorem snd_len0 : ∀ (l : List ByteArray) (L : List (List UInt8)), (l.foldl sendL L).length ≤ L.length + l.length
  | [], _ => Nat.le_refl _
  | s :: l, L => by
    have h1 := snd_len0 l (sendL L s)
    have h2 := send_len L s
    rw [List.foldl_cons, List.length_cons]
    omega
theorem snd_len (l : List ByteArray) : (sndL l).length ≤ l.length := by
  have := snd_len0 l []
  simpa [sndL] using this
theorem snd_succ (g : Nat → ByteArray) (i : Nat) : sndL ((List.range (i + 1)).map g) = sendL (sndL ((List.range i).map g)) (g i) := by
  unfold sndL
  rw [List.range_succ, List.map_append, List.foldl_append]
  rfl
theorem okS_few {L : List (List UInt8)} {s : ByteArray} (h : L.length < 64) : okS L s = decide (((s.size : Nat) : Int) ≤ 1000) := by
  unfold okS
  rw [decide_eq_true h, Bool.true_and]
  exact decide_eq_decide.2 (by omega)
def small (s : ByteArray) : Bool := decide (s.size ≤ 1000)
theorem snd_count0 (x : List UInt8) : ∀ (l : List ByteArray) (L : List (List UInt8)), L.length + l.length ≤ 64 → (l.foldl sendL L).count x = L.count x + ((l.filter small).map kb).count x
  | [], _, _ => rfl
  | s :: l, L, h => by
    rw [List.length_cons] at h
    have h2 := send_len L s
    rw [List.foldl_cons, snd_count0 x l (sendL L s) (by omega)]
    have ho : okS L s = small s := by
      unfold okS small
      rw [decide_eq_true (by omega), Bool.true_and]
    unfold sendL
    rw [ho]
    cases hs : small s
    · rw [if_neg (by simp), List.filter_cons_of_neg (by rw [hs]; simp)]
    · rw [if_pos rfl, count_ins, List.filter_cons_of_pos hs, List.map_cons, List.count_cons, List.count_cons]
      omega
theorem snd_srt : ∀ (l : List ByteArray) {L : List (List UInt8)}, Srt L → Srt (l.foldl sendL L)
  | [], _, h => h
  | s :: l, L, h => by
    rw [List.foldl_cons]
    refine snd_srt l ?_
    unfold sendL
    split
    · exact srt_ins _ _
    · exact h
theorem mod2 {a N : Int} (h0 : 0 ≤ a) (h1 : a < 2 * N) : a % N = if a < N then a else a - N := by
  split
  · exact Int.emod_eq_of_lt h0 (by assumption)
  · have e : a % N = (a - N) % N := by
      rw [← Int.add_emod_right (a - N) N, Int.sub_add_cancel]
    rw [e]
    exact Int.emod_eq_of_lt (by omega) (by omega)
theorem sg_perm {NN : Nat} {t0 B : Int} (hB : 1 ≤ NN → 0 ≤ B ∧ B < (NN : Int)) : ((List.range NN).map (sgO t0 NN B)).Perm (List.range NN) := by
  have hlt : ∀ j, j < NN → sgO t0 NN B j < NN ∧ sgO t0 NN B j = if (Int.tmod t0 2 == 0) = true then (if (j : Int) + B < NN then ((j : Int) + B).toNat else ((j : Int) + B - NN).toNat) else NN - 1 - j := fun j hj => by
    have hb := hB (by omega)
    unfold sgO
    split
    · rw [mod2 (by omega) (by omega)]
      split <;> refine ⟨by omega, rfl⟩
    · exact ⟨by omega, by omega⟩
  refine (List.perm_ext_iff_of_nodup ?_ List.nodup_range).2 fun a => ?_
  · refine List.pairwise_map.2 (List.nodup_range.imp_of_mem fun {p q} hp hq hne e => hne ?_)
    rw [List.mem_range] at hp hq
    have hb := hB (by omega)
    rw [(hlt p hp).2, (hlt q hq).2] at e
    split at e
    · split at e <;> split at e <;> omega
    · omega
  · rw [List.mem_map, List.mem_range]
    constructor
    · rintro ⟨j, hj, rfl⟩
      exact (hlt j (List.mem_range.1 hj)).1
    · intro ha
      have hb := hB (by omega)
      by_cases e : (Int.tmod t0 2 == 0) = true
      · by_cases h2 : (a : Int) < B
        · refine ⟨((a : Int) - B + NN).toNat, List.mem_range.2 (by omega), ?_⟩
          rw [(hlt _ (by omega)).2, if_pos e, if_neg (by omega)]
          omega
        · refine ⟨((a : Int) - B).toNat, List.mem_range.2 (by omega), ?_⟩
          rw [(hlt _ (by omega)).2, if_pos e, if_pos (by omega)]
          omega
      · refine ⟨NN - 1 - a, List.mem_range.2 (by omega), ?_⟩
        rw [(hlt _ (by omega)).2, if_neg e]
        omega
theorem snd_eq {NN : Nat} {t0 B : Int} (hN : NN ≤ 64) (g : Nat → ByteArray) (hB : 1 ≤ NN → 0 ≤ B ∧ B < (NN : Int)) : sndL ((List.range NN).map g) = sndL ((List.range NN).map fun j => g (sgO t0 NN B j)) := by
  refine srt_eq (snd_srt _ List.Pairwise.nil) (snd_srt _ List.Pairwise.nil) fun x => ?_
  unfold sndL
  rw [snd_count0 x _ [] (by simp; exact hN), snd_count0 x _ [] (by simp; exact hN)]
  have hp : ((List.range NN).map fun j => g (sgO t0 NN B j)).Perm ((List.range NN).map g) := by
    have := (sg_perm (t0 := t0) hB).map g
    rwa [List.map_map] at this
  rw [((hp.filter small).map kb).count_eq x]
theorem nor_s1 (A : Option Addr) (n : Nat) (cp : Nat) (t0 : Int) (w : World) : Res.prune [0, 1, 4] [] (exec Try.prog (bodyOf Try.f3) 128 9 [⟨false, 0, []⟩] [.code []] ⟨[(0, .slice A n cp), (1, .int .i64 t0)], [], [], w.heap.size⟩) = some ⟨[], dupR [], [.ops [1, 0] [0, 1], .code [1, 1]], ⟨[(0, .slice A n cp), (1, .int .i64 t0), (4, .bool false)], [], [], w.heap.size⟩⟩ := by kernel_rfl
theorem nor_c2 (A : Option Addr) (n : Nat) (cp : Nat) (t0 : Int) : callAt Try.prog (opsOf (getCode (bodyOf Try.f3) [1, 0])) [(0, .slice A n cp), (1, .int .i64 t0), (4, .bool false)] 0 = some (8, [], some 18, []) := by kernel_rfl
theorem nor_s3 (A : Option Addr) (n : Nat) (cp : Nat) (t0 : Int) (z2 : Nat) : Res.prune [0, 1, 4, 5] [] (exec Try.prog (bodyOf Try.f3) 128 7 [⟨false, 0, []⟩] [.ops [1, 0] [1], .code [1, 1]] ⟨[(18, .bool true), (0, .slice A n cp), (1, .int .i64 t0), (4, .bool false)], [], [], z2⟩) = some ⟨[], dupR [], [.ops [1, 1, 0] [0, 1], .code [1, 1, 1]], ⟨[(0, .slice A n cp), (1, .int .i64 t0), (4, .bool false), (5, .bool true)], [], [], z2⟩⟩ := by kernel_rfl
theorem nor_c4 (A : Option Addr) (n : Nat) (cp : Nat) (t0 : Int) : callAt Try.prog (opsOf (getCode (bodyOf Try.f3) [1, 1, 0])) [(0, .slice A n cp), (1, .int .i64 t0), (4, .bool false), (5, .bool true)] 0 = some (9, [], some 19, []) := by kernel_rfl
theorem nor_s5 (A : Option Addr) (n : Nat) (cp : Nat) (t0 : Int) (nb : Nat) (W1 : World) : Res.prune [0, 1, 4, 5, 6] [] (exec Try.prog (bodyOf Try.f3) 128 7 [⟨false, 0, []⟩] [.ops [1, 1, 0] [1], .code [1, 1, 1]] ⟨[(19, .pointer (some ⟨nb, 0, none⟩)), (0, .slice A n cp), (1, .int .i64 t0), (4, .bool false), (5, .bool true)], [], [], W1.heap.size⟩) = some ⟨[], dupR [], [.ops [1, 1, 1, 0] [0, 1], .code [1, 1, 1, 1]], ⟨[(0, .slice A n cp), (1, .int .i64 t0), (4, .bool false), (5, .bool true), (6, .pointer (some ⟨nb, 0, none⟩))], [], [], W1.heap.size⟩⟩ := by kernel_rfl
theorem nor_c6 (A : Option Addr) (n : Nat) (cp : Nat) (t0 : Int) (nb : Nat) : callAt Try.prog (opsOf (getCode (bodyOf Try.f3) [1, 1, 1, 0])) [(0, .slice A n cp), (1, .int .i64 t0), (4, .bool false), (5, .bool true), (6, .pointer (some ⟨nb, 0, none⟩))] 0 = some (9, [], some 20, []) := by kernel_rfl
theorem nor_s7 (A : Option Addr) (n : Nat) (cp : Nat) (t0 : Int) (nb : Nat) (nc : Nat) (W2 : World) : Res.prune [0, 1, 4, 6, 7, 8, 9] [] (exec Try.prog (bodyOf Try.f3) 128 34 [⟨false, 0, []⟩, ⟨false, 0, []⟩, ⟨false, 0, []⟩, ⟨false, 0, []⟩, ⟨false, 0, []⟩, ⟨false, 0, []⟩, ⟨false, 3, []⟩, ⟨false, 0, []⟩, ⟨false, 0, []⟩, ⟨false, 0, []⟩, ⟨false, 3, []⟩, ⟨false, 0, []⟩, ⟨false, 0, []⟩, ⟨false, 0, []⟩, ⟨false, 1, []⟩, ⟨false, 0, []⟩, ⟨false, 0, []⟩] [.ops [1, 1, 1, 0] [1], .code [1, 1, 1, 1]] ⟨[(20, .pointer (some ⟨nc, 0, none⟩)), (0, .slice A n cp), (1, .int .i64 t0), (4, .bool false), (5, .bool true), (6, .pointer (some ⟨nb, 0, none⟩))], [], [], W2.heap.size⟩) = some ⟨[false = false, false = false, false = false, false = false, false = false, false = false, false = false, True], dupR [], [.code [1, 1, 1, 1, 1, 1, 0, 1, 0], .blk 0, .code [1, 1, 1, 1, 1, 1, 1]], ⟨[(0, .slice A n cp), (1, .int .i64 t0), (4, .bool false), (6, .pointer (some ⟨nb, 0, none⟩)), (7, .pointer (some ⟨nc, 0, none⟩)), (8, .int .i64 (minZ (n : Int) 64)), (9, .int .i64 0)], [], [], W2.heap.size⟩⟩ := by kernel_rfl
def OrderI (A : Option Addr) (n : Nat) (cp : Nat) (txs : Nat → Txt1) (t0 : Int) (B : Int) (nb : Nat) (mb : Nat) (nc : Nat) (mc : Nat) (NN : Nat)  (m : Nat) (st : St) (W0 : World) : Prop :=
  ∃ (i : Nat) (L : List (List UInt8)) (L2 : List (List UInt8)) (z : Nat), m + i = NN ∧ L = sndL ((List.range i).map fun jj => (txs jj).s) ∧ L2 = sndL ((List.range i).map fun jj => (txs (sgO t0 NN B jj)).s) ∧ NetAt 43 W0 nc mc L2 ∧ NetAt 43 W0 nb mb L ∧ st = ⟨[(0, .slice A n cp), (1, .int .i64 t0), (4, .bool false), (6, .pointer (some ⟨nb, 0, none⟩)), (7, .pointer (some ⟨nc, 0, none⟩)), (8, .int .i64 (NN : Int)), (9, .int .i64 (i : Int))], [], [], z⟩
theorem nor_s8 (A : Option Addr) (n : Nat) (cp : Nat) (t0 : Int) (i : Nat) (nb : Nat) (nc : Nat) (W3 : World) (J : Act → World → Prop) (NN : Nat) : Res.prune [4, 6, 7, 79] [] (exec Try.prog (bodyOf Try.f3) 128 16 [⟨false, 0, []⟩, ⟨false, 0, []⟩, ⟨false, 0, []⟩, ⟨false, 0, []⟩, ⟨false, 0, []⟩] [.code [1, 1, 1, 1, 1, 1, 0, 1, 0, 0], .inv J, .blk 0, .code [1, 1, 1, 1, 1, 1, 1]] ⟨[(0, .slice A n cp), (1, .int .i64 t0), (4, .bool false), (6, .pointer (some ⟨nb, 0, none⟩)), (7, .pointer (some ⟨nc, 0, none⟩)), (8, .int .i64 (NN : Int)), (9, .int .i64 (i : Int))], [], [], W3.heap.size⟩) = some ⟨[(decide (((i : Int) : Int) < (NN : Int))) = false], dupR [], [.ops [1, 1, 1, 1, 1, 1, 1, 0, 0] [1, 2, 3, 4], .code [1, 1, 1, 1, 1, 1, 1, 0, 1], .code [1, 1, 1, 1, 1, 1, 1, 1]], ⟨[(4, .bool false), (6, .pointer (some ⟨nb, 0, none⟩)), (7, .pointer (some ⟨nc, 0, none⟩)), (79, .pointer (some ⟨nb, 0, none⟩))], [], [], W3.heap.size⟩⟩ := by kernel_rfl
theorem nor_c9 (nb : Nat) (nc : Nat) : callAt Try.prog (opsOf (getCode (bodyOf Try.f3) [1, 1, 1, 1, 1, 1, 1, 0, 0])) [(4, .bool false), (6, .pointer (some ⟨nb, 0, none⟩)), (7, .pointer (some ⟨nc, 0, none⟩)), (79, .pointer (some ⟨nb, 0, none⟩))] 1 = some (12, [.pointer (some ⟨nb, 0, none⟩)], some 80, []) := by kernel_rfl
theorem nor_s10 (nb : Nat) (nc : Nat) (L2 : List (List UInt8)) (z9 : Nat) : Res.prune [4, 6, 7, 80, 81] [] (exec Try.prog (bodyOf Try.f3) 128 4 [⟨false, 0, []⟩] [.ops [1, 1, 1, 1, 1, 1, 1, 0, 0] [2, 3, 4], .code [1, 1, 1, 1, 1, 1, 1, 0, 1], .code [1, 1, 1, 1, 1, 1, 1, 1]] ⟨[(80, .int .i64 (L2.length : Int)), (4, .bool false), (6, .pointer (some ⟨nb, 0, none⟩)), (7, .pointer (some ⟨nc, 0, none⟩)), (79, .pointer (some ⟨nb, 0, none⟩))], [], [], z9⟩) = some ⟨[], dupR [], [.ops [1, 1, 1, 1, 1, 1, 1, 0, 0] [3, 4], .code [1, 1, 1, 1, 1, 1, 1, 0, 1], .code [1, 1, 1, 1, 1, 1, 1, 1]], ⟨[(4, .bool false), (6, .pointer (some ⟨nb, 0, none⟩)), (7, .pointer (some ⟨nc, 0, none⟩)), (80, .int .i64 (L2.length : Int)), (81, .pointer (some ⟨nc, 0, none⟩))], [], [], z9⟩⟩ := by kernel_rfl
theorem nor_c11 (nb : Nat) (nc : Nat) (L2 : List (List UInt8)) : callAt Try.prog (opsOf (getCode (bodyOf Try.f3) [1, 1, 1, 1, 1, 1, 1, 0, 0])) [(4, .bool false), (6, .pointer (some ⟨nb, 0, none⟩)), (7, .pointer (some ⟨nc, 0, none⟩)), (80, .int .i64 (L2.length : Int)), (81, .pointer (some ⟨nc, 0, none⟩))] 3 = some (12, [.pointer (some ⟨nc, 0, none⟩)], some 82, []) := by kernel_rfl
theorem nor_s12 (nb : Nat) (nc : Nat) (L2 : List (List UInt8)) (z11 : Nat) : Res.prune [4, 6, 7, 12, 13] [] (exec Try.prog (bodyOf Try.f3) 128 17 [⟨false, 0, []⟩, ⟨false, 0, []⟩, ⟨false, 0, []⟩, ⟨false, 0, []⟩] [.ops [1, 1, 1, 1, 1, 1, 1, 0, 0] [4], .code [1, 1, 1, 1, 1, 1, 1, 0, 1], .code [1, 1, 1, 1, 1, 1, 1, 1]] ⟨[(82, .int .i64 (L2.length : Int)), (4, .bool false), (6, .pointer (some ⟨nb, 0, none⟩)), (7, .pointer (some ⟨nc, 0, none⟩)), (80, .int .i64 (L2.length : Int)), (81, .pointer (some ⟨nc, 0, none⟩))], [], [], z11⟩) = some ⟨[((L2.length : Int) != (L2.length : Int)) = false], dupR [], [.code [1, 1, 1, 1, 1, 1, 1, 1, 1, 0, 1, 0], .blk 2, .code [1, 1, 1, 1, 1, 1, 1, 1, 1, 1]], ⟨[(4, .bool false), (6, .pointer (some ⟨nb, 0, none⟩)), (7, .pointer (some ⟨nc, 0, none⟩)), (12, .string ⟨#[]⟩), (13, .int .i64 0)], [], [], z11⟩⟩ := by kernel_rfl
def OrderK (nb : Nat) (mb : Nat) (nc : Nat) (mc : Nat)  (m : Nat) (st : St) (W0 : World) : Prop :=
  ∃ (k : Nat) (L : List (List UInt8)) (was : List UInt8) (z : Nat), m + k = 64 ∧ L.length + k ≤ 64 ∧ (∀ xq ∈ L, leB was xq = true) ∧ NetAt 43 W0 nc mc L ∧ NetAt 43 W0 nb mb L ∧ st = ⟨[(4, .bool false), (6, .pointer (some ⟨nb, 0, none⟩)), (7, .pointer (some ⟨nc, 0, none⟩)), (12, .string (bs was)), (13, .int .i64 (k : Int))], [], [], z⟩
theorem nor_s13 (k : Nat) (nb : Nat) (nc : Nat) (was : List UInt8) (W4 : World) (J2 : Act → World → Prop) : Res.prune [4, 6, 7, 12, 13, 84] [] (exec Try.prog (bodyOf Try.f3) 128 7 [⟨false, 0, []⟩] [.code [1, 1, 1, 1, 1, 1, 1, 1, 1, 0, 1, 0, 0], .inv J2, .blk 2, .code [1, 1, 1, 1, 1, 1, 1, 1, 1, 1]] ⟨[(4, .bool false), (6, .pointer (some ⟨nb, 0, none⟩)), (7, .pointer (some ⟨nc, 0, none⟩)), (12, .string (bs was)), (13, .int .i64 (k : Int))], [], [], W4.heap.size⟩) = some ⟨[], dupR [], [.ops [1, 1, 1, 1, 1, 1, 1, 1, 1, 0, 1, 0, 0, 0, 0] [1, 2, 3, 4, 5, 6], .code [1, 1, 1, 1, 1, 1, 1, 1, 1, 0, 1, 0, 0, 0, 1], .code [1, 1, 1, 1, 1, 1, 1, 1, 1, 0, 1, 0, 0, 1], .inv J2, .blk 2, .code [1, 1, 1, 1, 1, 1, 1, 1, 1, 1]], ⟨[(4, .bool false), (6, .pointer (some ⟨nb, 0, none⟩)), (7, .pointer (some ⟨nc, 0, none⟩)), (12, .string (bs was)), (13, .int .i64 (k : Int)), (84, .pointer (some ⟨nb, 0, none⟩))], [], [], W4.heap.size⟩⟩ := by kernel_rfl
theorem nor_c14 (k : Nat) (nb : Nat) (nc : Nat) (was : List UInt8) : callAt Try.prog (opsOf (getCode (bodyOf Try.f3) [1, 1, 1, 1, 1, 1, 1, 1, 1, 0, 1, 0, 0, 0, 0])) [(4, .bool false), (6, .pointer (some ⟨nb, 0, none⟩)), (7, .pointer (some ⟨nc, 0, none⟩)), (12, .string (bs was)), (13, .int .i64 (k : Int)), (84, .pointer (some ⟨nb, 0, none⟩))] 1 = some (12, [.pointer (some ⟨nb, 0, none⟩)], some 85, []) := by kernel_rfl
theorem nor_s15 (k : Nat) (nb : Nat) (nc : Nat) (was : List UInt8) (J2 : Act → World → Prop) (z14 : Nat) : Res.prune [4, 7, 120] [] (exec Try.prog (bodyOf Try.f3) 128 14 [⟨false, 0, []⟩, ⟨false, 0, []⟩, ⟨false, 0, []⟩, ⟨false, 0, []⟩, ⟨false, 3, []⟩, ⟨false, 0, []⟩, ⟨false, 0, []⟩] [.ops [1, 1, 1, 1, 1, 1, 1, 1, 1, 0, 1, 0, 0, 0, 0] [2, 3, 4, 5, 6], .code [1, 1, 1, 1, 1, 1, 1, 1, 1, 0, 1, 0, 0, 0, 1], .code [1, 1, 1, 1, 1, 1, 1, 1, 1, 0, 1, 0, 0, 1], .inv J2, .blk 2, .code [1, 1, 1, 1, 1, 1, 1, 1, 1, 1]] ⟨[(85, .int .i64 0), (4, .bool false), (6, .pointer (some ⟨nb, 0, none⟩)), (7, .pointer (some ⟨nc, 0, none⟩)), (12, .string (bs was)), (13, .int .i64 (k : Int)), (84, .pointer (some ⟨nb, 0, none⟩))], [], [], z14⟩) = some ⟨[false = false, false = false, false = false, false = false], dupR [], [.ops [1, 1, 1, 1, 1, 1, 1, 1, 1, 1, 0] [1, 2, 3, 4, 5, 6, 7, 8], .code [1, 1, 1, 1, 1, 1, 1, 1, 1, 1, 1]], ⟨[(4, .bool false), (7, .pointer (some ⟨nc, 0, none⟩)), (120, .pointer (some ⟨nb, 0, none⟩))], [], [], z14⟩⟩ := by kernel_rfl
theorem nor_c16 (nb : Nat) (nc : Nat) : callAt Try.prog (opsOf (getCode (bodyOf Try.f3) [1, 1, 1, 1, 1, 1, 1, 1, 1, 1, 0])) [(4, .bool false), (7, .pointer (some ⟨nc, 0, none⟩)), (120, .pointer (some ⟨nb, 0, none⟩))] 1 = some (12, [.pointer (some ⟨nb, 0, none⟩)], some 121, []) := by kernel_rfl
theorem nor_s17 (nb : Nat) (nc : Nat) (z16 : Nat) : Res.prune [4, 123, 124] [] (exec Try.prog (bodyOf Try.f3) 128 6 [⟨false, 0, []⟩, ⟨false, 0, []⟩, ⟨true, 0, []⟩] [.ops [1, 1, 1, 1, 1, 1, 1, 1, 1, 1, 0] [2, 3, 4, 5, 6, 7, 8], .code [1, 1, 1, 1, 1, 1, 1, 1, 1, 1, 1]] ⟨[(121, .int .i64 0), (4, .bool false), (7, .pointer (some ⟨nc, 0, none⟩)), (120, .pointer (some ⟨nb, 0, none⟩))], [], [], z16⟩) = some ⟨[true = true], dupR [], [.ops [1, 1, 1, 1, 1, 1, 1, 1, 1, 1, 0] [5, 6, 7, 8], .code [1, 1, 1, 1, 1, 1, 1, 1, 1, 1, 1]], ⟨[(4, .bool false), (123, .bool true), (124, .pointer (some ⟨nc, 0, none⟩))], [], [], z16⟩⟩ := by kernel_rfl
theorem nor_c18 (nc : Nat) : callAt Try.prog (opsOf (getCode (bodyOf Try.f3) [1, 1, 1, 1, 1, 1, 1, 1, 1, 1, 0])) [(4, .bool false), (123, .bool true), (124, .pointer (some ⟨nc, 0, none⟩))] 5 = some (12, [.pointer (some ⟨nc, 0, none⟩)], some 125, [true = true]) := by kernel_rfl
theorem nor_s19 (nc : Nat) (z18 : Nat) : Res.prune [4] [] (exec Try.prog (bodyOf Try.f3) 128 7 [⟨true, 0, []⟩, ⟨false, 2, []⟩, ⟨false, 0, []⟩] [.ops [1, 1, 1, 1, 1, 1, 1, 1, 1, 1, 0] [6, 7, 8], .code [1, 1, 1, 1, 1, 1, 1, 1, 1, 1, 1]] ⟨[(125, .int .i64 0), (4, .bool false), (123, .bool true), (124, .pointer (some ⟨nc, 0, none⟩))], [], [], z18⟩) = some ⟨[true = true, true = true], dupR [], [.code [1, 1, 1, 1, 1, 1, 1, 1, 1, 1, 1]], ⟨[(4, .bool true)], [], [], z18⟩⟩ := by kernel_rfl
theorem nor_r20 : resL Try.prog [] [] [(4, .bool true)] Try.f3.results.toList [] = some ([.bool true], dupR []) := by kernel_rfl
theorem nor_s21 (k : Nat) (nb : Nat) (nc : Nat) (was : List UInt8) (W4 : World) (J2 : Act → World → Prop) : Res.prune [4, 6, 7, 12, 13, 84] [] (exec Try.prog (bodyOf Try.f3) 128 7 [⟨false, 0, []⟩] [.code [1, 1, 1, 1, 1, 1, 1, 1, 1, 0, 1, 0, 0], .inv J2, .blk 2, .code [1, 1, 1, 1, 1, 1, 1, 1, 1, 1]] ⟨[(4, .bool false), (6, .pointer (some ⟨nb, 0, none⟩)), (7, .pointer (some ⟨nc, 0, none⟩)), (12, .string (bs was)), (13, .int .i64 (k : Int))], [], [], W4.heap.size⟩) = some ⟨[], dupR [], [.ops [1, 1, 1, 1, 1, 1, 1, 1, 1, 0, 1, 0, 0, 0, 0] [1, 2, 3, 4, 5, 6], .code [1, 1, 1, 1, 1, 1, 1, 1, 1, 0, 1, 0, 0, 0, 1], .code [1, 1, 1, 1, 1, 1, 1, 1, 1, 0, 1, 0, 0, 1], .inv J2, .blk 2, .code [1, 1, 1, 1, 1, 1, 1, 1, 1, 1]], ⟨[(4, .bool false), (6, .pointer (some ⟨nb, 0, none⟩)), (7, .pointer (some ⟨nc, 0, none⟩)), (12, .string (bs was)), (13, .int .i64 (k : Int)), (84, .pointer (some ⟨nb, 0, none⟩))], [], [], W4.heap.size⟩⟩ := by kernel_rfl
theorem nor_c22 (k : Nat) (nb : Nat) (nc : Nat) (was : List UInt8) : callAt Try.prog (opsOf (getCode (bodyOf Try.f3) [1, 1, 1, 1, 1, 1, 1, 1, 1, 0, 1, 0, 0, 0, 0])) [(4, .bool false), (6, .pointer (some ⟨nb, 0, none⟩)), (7, .pointer (some ⟨nc, 0, none⟩)), (12, .string (bs was)), (13, .int .i64 (k : Int)), (84, .pointer (some ⟨nb, 0, none⟩))] 1 = some (12, [.pointer (some ⟨nb, 0, none⟩)], some 85, []) := by kernel_rfl
theorem nor_s23 (k : Nat) (nb : Nat) (nc : Nat) (L : List (List UInt8)) (was : List UInt8) (J2 : Act → World → Prop) (z22 : Nat) : Res.prune [4, 6, 7, 12, 13, 94] [] (exec Try.prog (bodyOf Try.f3) 128 16 [⟨false, 0, []⟩, ⟨false, 0, []⟩, ⟨true, 0, []⟩, ⟨true, 0, []⟩, ⟨false, 2, []⟩, ⟨true, 0, []⟩, ⟨false, 0, []⟩] [.ops [1, 1, 1, 1, 1, 1, 1, 1, 1, 0, 1, 0, 0, 0, 0] [2, 3, 4, 5, 6], .code [1, 1, 1, 1, 1, 1, 1, 1, 1, 0, 1, 0, 0, 0, 1], .code [1, 1, 1, 1, 1, 1, 1, 1, 1, 0, 1, 0, 0, 1], .inv J2, .blk 2, .code [1, 1, 1, 1, 1, 1, 1, 1, 1, 1]] ⟨[(85, .int .i64 ((L.length : Int) + 1)), (4, .bool false), (6, .pointer (some ⟨nb, 0, none⟩)), (7, .pointer (some ⟨nc, 0, none⟩)), (12, .string (bs was)), (13, .int .i64 (k : Int)), (84, .pointer (some ⟨nb, 0, none⟩))], [], [], z22⟩) = some ⟨[(decide ((((L.length : Int) + 1) : Int) > 0)) = true, (decide ((((L.length : Int) + 1) : Int) > 0)) = true, (decide ((((L.length : Int) + 1) : Int) > 0)) = true, (decide (((k : Int) : Int) < 64)) = true], dupR [], [.ops [1, 1, 1, 1, 1, 1, 1, 1, 1, 0, 1, 0, 0, 1, 0, 0, 0] [1, 2, 3, 4, 5, 6], .code [1, 1, 1, 1, 1, 1, 1, 1, 1, 0, 1, 0, 0, 1, 0, 0, 1], .blk 3, .code [1, 1, 1, 1, 1, 1, 1, 1, 1, 0, 1, 0, 0, 1, 1], .inv J2, .blk 2, .code [1, 1, 1, 1, 1, 1, 1, 1, 1, 1]], ⟨[(4, .bool false), (6, .pointer (some ⟨nb, 0, none⟩)), (7, .pointer (some ⟨nc, 0, none⟩)), (12, .string (bs was)), (13, .int .i64 (k : Int)), (94, .pointer (some ⟨nb, 0, none⟩))], [], [], z22⟩⟩ := by kernel_rfl
theorem nor_c24 (k : Nat) (nb : Nat) (nc : Nat) (was : List UInt8) : callAt Try.prog (opsOf (getCode (bodyOf Try.f3) [1, 1, 1, 1, 1, 1, 1, 1, 1, 0, 1, 0, 0, 1, 0, 0, 0])) [(4, .bool false), (6, .pointer (some ⟨nb, 0, none⟩)), (7, .pointer (some ⟨nc, 0, none⟩)), (12, .string (bs was)), (13, .int .i64 (k : Int)), (94, .pointer (some ⟨nb, 0, none⟩))] 1 = some (13, [.pointer (some ⟨nb, 0, none⟩), .int .i64 0], some 95, []) := by kernel_rfl
theorem nor_s25 (x : List UInt8) (k : Nat) (nb : Nat) (nc : Nat) (was : List UInt8) (W5 : World) (J2 : Act → World → Prop) : Res.prune [4, 6, 7, 12, 13, 14, 15, 99] [] (exec Try.prog (bodyOf Try.f3) 128 12 [⟨false, 0, []⟩, ⟨false, 0, []⟩, ⟨false, 0, []⟩, ⟨false, 0, []⟩, ⟨false, 0, []⟩, ⟨false, 0, []⟩] [.ops [1, 1, 1, 1, 1, 1, 1, 1, 1, 0, 1, 0, 0, 1, 0, 0, 0] [2, 3, 4, 5, 6], .code [1, 1, 1, 1, 1, 1, 1, 1, 1, 0, 1, 0, 0, 1, 0, 0, 1], .blk 3, .code [1, 1, 1, 1, 1, 1, 1, 1, 1, 0, 1, 0, 0, 1, 1], .inv J2, .blk 2, .code [1, 1, 1, 1, 1, 1, 1, 1, 1, 1]] ⟨[(95, .tuple #[.string (bs x), .bool true]), (4, .bool false), (6, .pointer (some ⟨nb, 0, none⟩)), (7, .pointer (some ⟨nc, 0, none⟩)), (12, .string (bs was)), (13, .int .i64 (k : Int)), (94, .pointer (some ⟨nb, 0, none⟩))], [], [], W5.heap.size⟩) = some ⟨[], dupR [], [.ops [1, 1, 1, 1, 1, 1, 1, 1, 1, 0, 1, 0, 0, 1, 0, 0, 1, 0] [1, 2, 3, 4, 5, 6], .code [1, 1, 1, 1, 1, 1, 1, 1, 1, 0, 1, 0, 0, 1, 0, 0, 1, 1], .blk 3, .code [1, 1, 1, 1, 1, 1, 1, 1, 1, 0, 1, 0, 0, 1, 1], .inv J2, .blk 2, .code [1, 1, 1, 1, 1, 1, 1, 1, 1, 1]], ⟨[(4, .bool false), (6, .pointer (some ⟨nb, 0, none⟩)), (7, .pointer (some ⟨nc, 0, none⟩)), (12, .string (bs was)), (13, .int .i64 (k : Int)), (14, .string (bs x)), (15, .bool true), (99, .pointer (some ⟨nc, 0, none⟩))], [], [], W5.heap.size⟩⟩ := by kernel_rfl
theorem nor_c26 (x : List UInt8) (k : Nat) (nb : Nat) (nc : Nat) (was : List UInt8) : callAt Try.prog (opsOf (getCode (bodyOf Try.f3) [1, 1, 1, 1, 1, 1, 1, 1, 1, 0, 1, 0, 0, 1, 0, 0, 1, 0])) [(4, .bool false), (6, .pointer (some ⟨nb, 0, none⟩)), (7, .pointer (some ⟨nc, 0, none⟩)), (12, .string (bs was)), (13, .int .i64 (k : Int)), (14, .string (bs x)), (15, .bool true), (99, .pointer (some ⟨nc, 0, none⟩))] 1 = some (13, [.pointer (some ⟨nc, 0, none⟩), .int .i64 0], some 100, []) := by kernel_rfl
theorem nor_s27 (x : List UInt8) (k : Nat) (nb : Nat) (nc : Nat) (was : List UInt8) (W6 : World) (J2 : Act → World → Prop) : Res.prune [4, 6, 7, 12, 13] [] (exec Try.prog (bodyOf Try.f3) 128 41 [⟨false, 0, []⟩, ⟨false, 0, []⟩, ⟨false, 0, []⟩, ⟨false, 0, []⟩, ⟨false, 0, []⟩, ⟨false, 0, []⟩, ⟨false, 0, []⟩, ⟨false, 0, []⟩, ⟨false, 0, []⟩, ⟨false, 0, []⟩, ⟨false, 0, []⟩, ⟨false, 3, []⟩, ⟨false, 0, []⟩, ⟨false, 0, []⟩, ⟨false, 0, []⟩, ⟨false, 3, []⟩, ⟨false, 0, []⟩, ⟨false, 0, []⟩, ⟨false, 0, []⟩, ⟨false, 0, []⟩, ⟨false, 3, []⟩, ⟨false, 0, []⟩, ⟨false, 0, []⟩, ⟨false, 0, []⟩, ⟨false, 0, []⟩, ⟨false, 1, []⟩, ⟨false, 0, []⟩] [.ops [1, 1, 1, 1, 1, 1, 1, 1, 1, 0, 1, 0, 0, 1, 0, 0, 1, 0] [2, 3, 4, 5, 6], .code [1, 1, 1, 1, 1, 1, 1, 1, 1, 0, 1, 0, 0, 1, 0, 0, 1, 1], .blk 3, .code [1, 1, 1, 1, 1, 1, 1, 1, 1, 0, 1, 0, 0, 1, 1], .inv J2, .blk 2, .code [1, 1, 1, 1, 1, 1, 1, 1, 1, 1]] ⟨[(100, .tuple #[.string (bs x), .bool true]), (4, .bool false), (6, .pointer (some ⟨nb, 0, none⟩)), (7, .pointer (some ⟨nc, 0, none⟩)), (12, .string (bs was)), (13, .int .i64 (k : Int)), (14, .string (bs x)), (15, .bool true), (99, .pointer (some ⟨nc, 0, none⟩))], [], [], W6.heap.size⟩) = some ⟨[(!(ByteArray.toList (bs x) == ByteArray.toList (bs x))) = false, (!(ByteArray.toList (bs x) == ByteArray.toList (bs x))) = false, (!(ByteArray.toList (bs x) == ByteArray.toList (bs x))) = false, false = false, false = false, false = false, false = false, false = false, false = false, false = false, (Op.bytesLess (ByteArray.toList (bs x)) (ByteArray.toList (bs was))) = false, inR .i64 (((k : Int) + 1))], dupR [], [.inv J2, .blk 2, .code [1, 1, 1, 1, 1, 1, 1, 1, 1, 1]], ⟨[(4, .bool false), (6, .pointer (some ⟨nb, 0, none⟩)), (7, .pointer (some ⟨nc, 0, none⟩)), (12, .string (bs x)), (13, .int .i64 ((k : Int) + 1))], [], [], W6.heap.size⟩⟩ := by kernel_rfl
theorem nor_s28 (n : Nat) (cp : Nat) (b : Nat) (o : Nat) (txs : Nat → Txt1) (t0 : Int) (i : Nat) (B : Int) (nb : Nat) (nc : Nat) (W3 : World) (J : Act → World → Prop) (NN : Nat) : Res.prune [0, 1, 4, 6, 7, 8, 9, 10, 11, 52] [] (exec Try.prog (bodyOf Try.f3) 128 40 [⟨false, 0, []⟩, ⟨false, 0, []⟩, ⟨false, 0, []⟩, ⟨true, 0, []⟩, ⟨false, 0, []⟩, ⟨false, 0, []⟩, ⟨false, 1, []⟩, ⟨false, 0, [⟨true, 0, 0, 1⟩]⟩, ⟨false, 0, []⟩, ⟨false, 0, []⟩, ⟨false, 0, []⟩, ⟨false, 1, []⟩, ⟨false, 0, []⟩, ⟨false, 1, []⟩, ⟨false, 1, []⟩, ⟨false, 0, [⟨true, 1, 0, 1⟩]⟩, ⟨false, 0, []⟩, ⟨false, 0, []⟩, ⟨false, 2, []⟩, ⟨false, 0, []⟩] [.code [1, 1, 1, 1, 1, 1, 0, 1, 0, 0], .inv J, .blk 0, .code [1, 1, 1, 1, 1, 1, 1]] ⟨[(0, .slice (some ⟨b, o, none⟩) n cp), (1, .int .i64 t0), (4, .bool false), (6, .pointer (some ⟨nb, 0, none⟩)), (7, .pointer (some ⟨nc, 0, none⟩)), (8, .int .i64 (NN : Int)), (9, .int .i64 (i : Int))], [], [⟨b, o + i * 1, [.string ((txs i).s)]⟩, ⟨b, o + (Int.toNat (((NN : Int) - 1) - (i : Int))) * 1, [.string ((txs (Int.toNat ((NN : Int) - 1 - (i : Int)))).s)]⟩, ⟨b, o + (Int.toNat (((i : Int) + B) % (NN : Int))) * 1, [.string ((txs (Int.toNat (((i : Int) + B) % (NN : Int)))).s)]⟩], W3.heap.size⟩) = some ⟨[(decide (((i : Int) : Int) < (NN : Int))) = true, (0 : Int) ≤ (i : Int) ∧ (i : Int) < ((n : Nat) : Int), inR .i64 (((NN : Int) - 1)), inR .i64 ((((NN : Int) - 1) - (i : Int))), (0 : Int) ≤ (((NN : Int) - 1) - (i : Int)) ∧ (((NN : Int) - 1) - (i : Int)) < ((n : Nat) : Int), (2 : Int) ≠ 0], dupR [(b, o + i * 1, 1), (b, o + (Int.toNat (((NN : Int) - 1) - (i : Int))) * 1, 1)], [.code [1, 1, 1, 1, 1, 1, 0, 1, 0, 0, 1, 0, 0, 1, 1, 0, 1], .code [1, 1, 1, 1, 1, 1, 0, 1, 0, 0, 1, 0, 0, 1, 1, 1], .blk 1, .code [1, 1, 1, 1, 1, 1, 0, 1, 0, 0, 1, 1], .inv J, .blk 0, .code [1, 1, 1, 1, 1, 1, 1]], ⟨[(0, .slice (some ⟨b, o, none⟩) n cp), (1, .int .i64 t0), (4, .bool false), (6, .pointer (some ⟨nb, 0, none⟩)), (7, .pointer (some ⟨nc, 0, none⟩)), (8, .int .i64 (NN : Int)), (9, .int .i64 (i : Int)), (10, .string ((txs i).s)), (11, .string ((txs (Int.toNat ((NN : Int) - 1 - (i : Int)))).s)), (52, .bool ((Int.tmod t0 2) == 0))], [], [⟨b, o + i * 1, [.string ((txs i).s)]⟩, ⟨b, o + (Int.toNat (((NN : Int) - 1) - (i : Int))) * 1, [.string ((txs (Int.toNat ((NN : Int) - 1 - (i : Int)))).s)]⟩, ⟨b, o + (Int.toNat (((i : Int) + B) % (NN : Int))) * 1, [.string ((txs (Int.toNat (((i : Int) + B) % (NN : Int)))).s)]⟩], W3.heap.size⟩⟩ := by kernel_rfl
theorem nor_s29 (n : Nat) (cp : Nat) (b : Nat) (o : Nat) (txs : Nat → Txt1) (t0 : Int) (i : Nat) (B : Int) (nb : Nat) (nc : Nat) (W3 : World) (J : Act → World → Prop) (NN : Nat) : Res.prune [0, 1, 4, 6, 7, 8, 9, 10, 11, 53, 54, 55, 56] [] (exec Try.prog (bodyOf Try.f3) 128 9 [⟨true, 0, []⟩, ⟨false, 0, []⟩, ⟨false, 0, []⟩, ⟨false, 0, []⟩, ⟨false, 0, []⟩] [.code [1, 1, 1, 1, 1, 1, 0, 1, 0, 0, 1, 0, 0, 1, 1, 0, 1], .code [1, 1, 1, 1, 1, 1, 0, 1, 0, 0, 1, 0, 0, 1, 1, 1], .blk 1, .code [1, 1, 1, 1, 1, 1, 0, 1, 0, 0, 1, 1], .inv J, .blk 0, .code [1, 1, 1, 1, 1, 1, 1]] ⟨[(0, .slice (some ⟨b, o, none⟩) n cp), (1, .int .i64 t0), (4, .bool false), (6, .pointer (some ⟨nb, 0, none⟩)), (7, .pointer (some ⟨nc, 0, none⟩)), (8, .int .i64 (NN : Int)), (9, .int .i64 (i : Int)), (10, .string ((txs i).s)), (11, .string ((txs (Int.toNat ((NN : Int) - 1 - (i : Int)))).s)), (52, .bool ((Int.tmod t0 2) == 0))], [], [⟨b, o + i * 1, [.string ((txs i).s)]⟩, ⟨b, o + (Int.toNat (((NN : Int) - 1) - (i : Int))) * 1, [.string ((txs (Int.toNat ((NN : Int) - 1 - (i : Int)))).s)]⟩, ⟨b, o + (Int.toNat (((i : Int) + B) % (NN : Int))) * 1, [.string ((txs (Int.toNat (((i : Int) + B) % (NN : Int)))).s)]⟩], W3.heap.size⟩) = some ⟨[((Int.tmod t0 2) == 0) = true], dupR [], [.ops [1, 1, 1, 1, 1, 1, 0, 1, 0, 0, 1, 0, 0, 1, 1, 0, 1, 0] [4, 5, 6, 7, 8, 9, 10], .code [1, 1, 1, 1, 1, 1, 0, 1, 0, 0, 1, 0, 0, 1, 1, 1], .blk 1, .code [1, 1, 1, 1, 1, 1, 0, 1, 0, 0, 1, 1], .inv J, .blk 0, .code [1, 1, 1, 1, 1, 1, 1]], ⟨[(0, .slice (some ⟨b, o, none⟩) n cp), (1, .int .i64 t0), (4, .bool false), (6, .pointer (some ⟨nb, 0, none⟩)), (7, .pointer (some ⟨nc, 0, none⟩)), (8, .int .i64 (NN : Int)), (9, .int .i64 (i : Int)), (10, .string ((txs i).s)), (11, .string ((txs (Int.toNat ((NN : Int) - 1 - (i : Int)))).s)), (53, .slice (some ⟨b, o, none⟩) n cp), (54, .int .i64 (i : Int)), (55, .int .i64 t0), (56, .int .i64 (NN : Int))], [], [⟨b, o + i * 1, [.string ((txs i).s)]⟩, ⟨b, o + (Int.toNat (((NN : Int) - 1) - (i : Int))) * 1, [.string ((txs (Int.toNat ((NN : Int) - 1 - (i : Int)))).s)]⟩, ⟨b, o + (Int.toNat (((i : Int) + B) % (NN : Int))) * 1, [.string ((txs (Int.toNat (((i : Int) + B) % (NN : Int)))).s)]⟩], W3.heap.size⟩⟩ := by kernel_rfl
theorem nor_c30 (n : Nat) (cp : Nat) (b : Nat) (o : Nat) (txs : Nat → Txt1) (t0 : Int) (i : Nat) (nb : Nat) (nc : Nat) (NN : Nat) : callAt Try.prog (opsOf (getCode (bodyOf Try.f3) [1, 1, 1, 1, 1, 1, 0, 1, 0, 0, 1, 0, 0, 1, 1, 0, 1, 0])) [(0, .slice (some ⟨b, o, none⟩) n cp), (1, .int .i64 t0), (4, .bool false), (6, .pointer (some ⟨nb, 0, none⟩)), (7, .pointer (some ⟨nc, 0, none⟩)), (8, .int .i64 (NN : Int)), (9, .int .i64 (i : Int)), (10, .string ((txs i).s)), (11, .string ((txs (Int.toNat ((NN : Int) - 1 - (i : Int)))).s)), (53, .slice (some ⟨b, o, none⟩) n cp), (54, .int .i64 (i : Int)), (55, .int .i64 t0), (56, .int .i64 (NN : Int))] 4 = some (10, [.int .i64 t0, .int .i64 (NN : Int)], some 57, []) := by kernel_rfl
theorem nor_s31 (n : Nat) (cp : Nat) (b : Nat) (o : Nat) (txs : Nat → Txt1) (t0 : Int) (i : Nat) (B : Int) (nb : Nat) (nc : Nat) (J : Act → World → Prop) (NN : Nat) (z30 : Nat) : Res.prune [0, 1, 4, 6, 7, 8, 9, 10, 11, 63, 64] [] (exec Try.prog (bodyOf Try.f3) 128 14 [⟨false, 1, []⟩, ⟨false, 0, []⟩, ⟨false, 1, []⟩, ⟨false, 1, []⟩, ⟨false, 0, [⟨true, 2, 0, 1⟩]⟩, ⟨false, 0, []⟩, ⟨false, 0, []⟩, ⟨false, 0, []⟩] [.ops [1, 1, 1, 1, 1, 1, 0, 1, 0, 0, 1, 0, 0, 1, 1, 0, 1, 0] [5, 6, 7, 8, 9, 10], .code [1, 1, 1, 1, 1, 1, 0, 1, 0, 0, 1, 0, 0, 1, 1, 1], .blk 1, .code [1, 1, 1, 1, 1, 1, 0, 1, 0, 0, 1, 1], .inv J, .blk 0, .code [1, 1, 1, 1, 1, 1, 1]] ⟨[(57, .int .i64 B), (0, .slice (some ⟨b, o, none⟩) n cp), (1, .int .i64 t0), (4, .bool false), (6, .pointer (some ⟨nb, 0, none⟩)), (7, .pointer (some ⟨nc, 0, none⟩)), (8, .int .i64 (NN : Int)), (9, .int .i64 (i : Int)), (10, .string ((txs i).s)), (11, .string ((txs (Int.toNat ((NN : Int) - 1 - (i : Int)))).s)), (53, .slice (some ⟨b, o, none⟩) n cp), (54, .int .i64 (i : Int)), (55, .int .i64 t0), (56, .int .i64 (NN : Int))], [], [⟨b, o + i * 1, [.string ((txs i).s)]⟩, ⟨b, o + (Int.toNat (((NN : Int) - 1) - (i : Int))) * 1, [.string ((txs (Int.toNat ((NN : Int) - 1 - (i : Int)))).s)]⟩, ⟨b, o + (Int.toNat (((i : Int) + B) % (NN : Int))) * 1, [.string ((txs (Int.toNat (((i : Int) + B) % (NN : Int)))).s)]⟩], z30⟩) = some ⟨[inR .i64 (((i : Int) + B)), (0 : Int) ≤ ((i : Int) + B) ∧ (0 : Int) < (NN : Int), (0 : Int) ≤ (((i : Int) + B) % (NN : Int)) ∧ (((i : Int) + B) % (NN : Int)) < ((n : Nat) : Int)], dupR [(b, o + (Int.toNat (((i : Int) + B) % (NN : Int))) * 1, 1)], [.ops [1, 1, 1, 1, 1, 1, 0, 1, 0, 0, 1, 0, 0, 1, 1, 1, 0] [2, 3, 4, 5, 6, 7, 8, 9, 10, 11, 12, 13, 14, 15], .code [1, 1, 1, 1, 1, 1, 0, 1, 0, 0, 1, 0, 0, 1, 1, 1, 1], .blk 1, .code [1, 1, 1, 1, 1, 1, 0, 1, 0, 0, 1, 1], .inv J, .blk 0, .code [1, 1, 1, 1, 1, 1, 1]], ⟨[(0, .slice (some ⟨b, o, none⟩) n cp), (1, .int .i64 t0), (4, .bool false), (6, .pointer (some ⟨nb, 0, none⟩)), (7, .pointer (some ⟨nc, 0, none⟩)), (8, .int .i64 (NN : Int)), (9, .int .i64 (i : Int)), (10, .string ((txs i).s)), (11, .string ((txs (Int.toNat (((i : Int) + B) % (NN : Int)))).s)), (63, .pointer (some ⟨nb, 0, none⟩)), (64, .string ((txs i).s))], [], [⟨b, o + i * 1, [.string ((txs i).s)]⟩, ⟨b, o + (Int.toNat (((NN : Int) - 1) - (i : Int))) * 1, [.string ((txs (Int.toNat ((NN : Int) - 1 - (i : Int)))).s)]⟩, ⟨b, o + (Int.toNat (((i : Int) + B) % (NN : Int))) * 1, [.string ((txs (Int.toNat (((i : Int) + B) % (NN : Int)))).s)]⟩], z30⟩⟩ := by kernel_rfl
theorem nor_c32 (n : Nat) (cp : Nat) (b : Nat) (o : Nat) (txs : Nat → Txt1) (t0 : Int) (i : Nat) (B : Int) (nb : Nat) (nc : Nat) (NN : Nat) : callAt Try.prog (opsOf (getCode (bodyOf Try.f3) [1, 1, 1, 1, 1, 1, 0, 1, 0, 0, 1, 0, 0, 1, 1, 1, 0])) [(0, .slice (some ⟨b, o, none⟩) n cp), (1, .int .i64 t0), (4, .bool false), (6, .pointer (some ⟨nb, 0, none⟩)), (7, .pointer (some ⟨nc, 0, none⟩)), (8, .int .i64 (NN : Int)), (9, .int .i64 (i : Int)), (10, .string ((txs i).s)), (11, .string ((txs (Int.toNat (((i : Int) + B) % (NN : Int)))).s)), (63, .pointer (some ⟨nb, 0, none⟩)), (64, .string ((txs i).s))] 2 = some (11, [.pointer (some ⟨nb, 0, none⟩), .string ((txs i).s)], some 65, []) := by kernel_rfl
theorem nor_s33 (n : Nat) (cp : Nat) (b : Nat) (o : Nat) (txs : Nat → Txt1) (t0 : Int) (i : Nat) (B : Int) (nb : Nat) (nc : Nat) (W4 : World) (J : Act → World → Prop) (NN : Nat) : Res.prune [0, 1, 4, 6, 7, 8, 9, 11, 70, 71, 72] [] (exec Try.prog (bodyOf Try.f3) 128 10 [⟨false, 0, []⟩, ⟨false, 0, []⟩, ⟨false, 0, []⟩, ⟨false, 0, []⟩, ⟨false, 0, []⟩, ⟨false, 0, []⟩, ⟨false, 0, []⟩] [.ops [1, 1, 1, 1, 1, 1, 0, 1, 0, 0, 1, 0, 0, 1, 1, 1, 0] [3, 4, 5, 6, 7, 8, 9, 10, 11, 12, 13, 14, 15], .code [1, 1, 1, 1, 1, 1, 0, 1, 0, 0, 1, 0, 0, 1, 1, 1, 1], .blk 1, .code [1, 1, 1, 1, 1, 1, 0, 1, 0, 0, 1, 1], .inv J, .blk 0, .code [1, 1, 1, 1, 1, 1, 1]] ⟨[(65, .bool (decide (((((txs i).s).size : Int) : Int) ≤ 1000))), (0, .slice (some ⟨b, o, none⟩) n cp), (1, .int .i64 t0), (4, .bool false), (6, .pointer (some ⟨nb, 0, none⟩)), (7, .pointer (some ⟨nc, 0, none⟩)), (8, .int .i64 (NN : Int)), (9, .int .i64 (i : Int)), (10, .string ((txs i).s)), (11, .string ((txs (Int.toNat (((i : Int) + B) % (NN : Int)))).s)), (63, .pointer (some ⟨nb, 0, none⟩)), (64, .string ((txs i).s))], [], [], W4.heap.size⟩) = some ⟨[(!((decide (((((txs i).s).size : Int) : Int) ≤ 1000)) == (decide (((((txs i).s).size : Int) : Int) ≤ 1000)))) = false, (!((decide (((((txs i).s).size : Int) : Int) ≤ 1000)) == (decide (((((txs i).s).size : Int) : Int) ≤ 1000)))) = false], dupR [], [.ops [1, 1, 1, 1, 1, 1, 0, 1, 0, 0, 1, 0, 0, 1, 1, 1, 0] [10, 11, 12, 13, 14, 15], .code [1, 1, 1, 1, 1, 1, 0, 1, 0, 0, 1, 0, 0, 1, 1, 1, 1], .blk 1, .code [1, 1, 1, 1, 1, 1, 0, 1, 0, 0, 1, 1], .inv J, .blk 0, .code [1, 1, 1, 1, 1, 1, 1]], ⟨[(0, .slice (some ⟨b, o, none⟩) n cp), (1, .int .i64 t0), (4, .bool false), (6, .pointer (some ⟨nb, 0, none⟩)), (7, .pointer (some ⟨nc, 0, none⟩)), (8, .int .i64 (NN : Int)), (9, .int .i64 (i : Int)), (11, .string ((txs (Int.toNat (((i : Int) + B) % (NN : Int)))).s)), (70, .bool (!((decide (((((txs i).s).size : Int) : Int) ≤ 1000)) == (decide (((((txs i).s).size : Int) : Int) ≤ 1000))))), (71, .pointer (some ⟨nc, 0, none⟩)), (72, .string ((txs (Int.toNat (((i : Int) + B) % (NN : Int)))).s))], [], [], W4.heap.size⟩⟩ := by kernel_rfl
theorem nor_c34 (n : Nat) (cp : Nat) (b : Nat) (o : Nat) (txs : Nat → Txt1) (t0 : Int) (i : Nat) (B : Int) (nb : Nat) (nc : Nat) (NN : Nat) : callAt Try.prog (opsOf (getCode (bodyOf Try.f3) [1, 1, 1, 1, 1, 1, 0, 1, 0, 0, 1, 0, 0, 1, 1, 1, 0])) [(0, .slice (some ⟨b, o, none⟩) n cp), (1, .int .i64 t0), (4, .bool false), (6, .pointer (some ⟨nb, 0, none⟩)), (7, .pointer (some ⟨nc, 0, none⟩)), (8, .int .i64 (NN : Int)), (9, .int .i64 (i : Int)), (11, .string ((txs (Int.toNat (((i : Int) + B) % (NN : Int)))).s)), (70, .bool (!((decide (((((txs i).s).size : Int) : Int) ≤ 1000)) == (decide (((((txs i).s).size : Int) : Int) ≤ 1000))))), (71, .pointer (some ⟨nc, 0, none⟩)), (72, .string ((txs (Int.toNat (((i : Int) + B) % (NN : Int)))).s))] 10 = some (11, [.pointer (some ⟨nc, 0, none⟩), .string ((txs (Int.toNat (((i : Int) + B) % (NN : Int)))).s)], some 73, [(!((decide (((((txs i).s).size : Int) : Int) ≤ 1000)) == (decide (((((txs i).s).size : Int) : Int) ≤ 1000)))) = false]) := by kernel_rfl
theorem nor_s35 (n : Nat) (cp : Nat) (b : Nat) (o : Nat) (txs : Nat → Txt1) (t0 : Int) (i : Nat) (B : Int) (nb : Nat) (nc : Nat) (W5 : World) (J : Act → World → Prop) (NN : Nat) : Res.prune [0, 1, 4, 6, 7, 8, 9] [] (exec Try.prog (bodyOf Try.f3) 128 17 [⟨false, 0, []⟩, ⟨false, 0, []⟩, ⟨false, 0, []⟩, ⟨false, 0, []⟩, ⟨false, 3, []⟩, ⟨false, 0, []⟩, ⟨false, 0, []⟩, ⟨false, 1, []⟩, ⟨false, 0, []⟩] [.ops [1, 1, 1, 1, 1, 1, 0, 1, 0, 0, 1, 0, 0, 1, 1, 1, 0] [11, 12, 13, 14, 15], .code [1, 1, 1, 1, 1, 1, 0, 1, 0, 0, 1, 0, 0, 1, 1, 1, 1], .blk 1, .code [1, 1, 1, 1, 1, 1, 0, 1, 0, 0, 1, 1], .inv J, .blk 0, .code [1, 1, 1, 1, 1, 1, 1]] ⟨[(73, .bool (decide (((((txs (Int.toNat (((i : Int) + B) % (NN : Int)))).s).size : Int) : Int) ≤ 1000))), (0, .slice (some ⟨b, o, none⟩) n cp), (1, .int .i64 t0), (4, .bool false), (6, .pointer (some ⟨nb, 0, none⟩)), (7, .pointer (some ⟨nc, 0, none⟩)), (8, .int .i64 (NN : Int)), (9, .int .i64 (i : Int)), (11, .string ((txs (Int.toNat (((i : Int) + B) % (NN : Int)))).s)), (70, .bool (!((decide (((((txs i).s).size : Int) : Int) ≤ 1000)) == (decide (((((txs i).s).size : Int) : Int) ≤ 1000))))), (71, .pointer (some ⟨nc, 0, none⟩)), (72, .string ((txs (Int.toNat (((i : Int) + B) % (NN : Int)))).s))], [], [], W5.heap.size⟩) = some ⟨[(!((decide (((((txs i).s).size : Int) : Int) ≤ 1000)) == (decide (((((txs i).s).size : Int) : Int) ≤ 1000)))) = false, (!((decide (((((txs i).s).size : Int) : Int) ≤ 1000)) == (decide (((((txs i).s).size : Int) : Int) ≤ 1000)))) = false, (!((decide (((((txs i).s).size : Int) : Int) ≤ 1000)) == (decide (((((txs i).s).size : Int) : Int) ≤ 1000)))) = false, (!((decide (((((txs i).s).size : Int) : Int) ≤ 1000)) == (decide (((((txs i).s).size : Int) : Int) ≤ 1000)))) = false, (!((decide (((((txs i).s).size : Int) : Int) ≤ 1000)) == (decide (((((txs i).s).size : Int) : Int) ≤ 1000)))) = false, (!((decide (((((txs (Int.toNat (((i : Int) + B) % (NN : Int)))).s).size : Int) : Int) ≤ 1000)) == (decide (((((txs (Int.toNat (((i : Int) + B) % (NN : Int)))).s).size : Int) : Int) ≤ 1000)))) = false, inR .i64 (((i : Int) + 1))], dupR [], [.inv J, .blk 0, .code [1, 1, 1, 1, 1, 1, 1]], ⟨[(0, .slice (some ⟨b, o, none⟩) n cp), (1, .int .i64 t0), (4, .bool false), (6, .pointer (some ⟨nb, 0, none⟩)), (7, .pointer (some ⟨nc, 0, none⟩)), (8, .int .i64 (NN : Int)), (9, .int .i64 ((i : Int) + 1))], [], [], W5.heap.size⟩⟩ := by kernel_rfl
theorem nor_s36 (n : Nat) (cp : Nat) (b : Nat) (o : Nat) (txs : Nat → Txt1) (t0 : Int) (i : Nat) (B : Int) (nb : Nat) (nc : Nat) (W3 : World) (J : Act → World → Prop) (NN : Nat) : Res.prune [0, 1, 4, 6, 7, 8, 9, 10, 11, 63, 64] [] (exec Try.prog (bodyOf Try.f3) 128 9 [⟨false, 0, []⟩, ⟨false, 0, []⟩, ⟨false, 0, []⟩] [.code [1, 1, 1, 1, 1, 1, 0, 1, 0, 0, 1, 0, 0, 1, 1, 0, 1], .code [1, 1, 1, 1, 1, 1, 0, 1, 0, 0, 1, 0, 0, 1, 1, 1], .blk 1, .code [1, 1, 1, 1, 1, 1, 0, 1, 0, 0, 1, 1], .inv J, .blk 0, .code [1, 1, 1, 1, 1, 1, 1]] ⟨[(0, .slice (some ⟨b, o, none⟩) n cp), (1, .int .i64 t0), (4, .bool false), (6, .pointer (some ⟨nb, 0, none⟩)), (7, .pointer (some ⟨nc, 0, none⟩)), (8, .int .i64 (NN : Int)), (9, .int .i64 (i : Int)), (10, .string ((txs i).s)), (11, .string ((txs (Int.toNat ((NN : Int) - 1 - (i : Int)))).s)), (52, .bool ((Int.tmod t0 2) == 0))], [], [⟨b, o + i * 1, [.string ((txs i).s)]⟩, ⟨b, o + (Int.toNat (((NN : Int) - 1) - (i : Int))) * 1, [.string ((txs (Int.toNat ((NN : Int) - 1 - (i : Int)))).s)]⟩, ⟨b, o + (Int.toNat (((i : Int) + B) % (NN : Int))) * 1, [.string ((txs (Int.toNat (((i : Int) + B) % (NN : Int)))).s)]⟩], W3.heap.size⟩) = some ⟨[((Int.tmod t0 2) == 0) = false], dupR [], [.ops [1, 1, 1, 1, 1, 1, 0, 1, 0, 0, 1, 0, 0, 1, 1, 1, 0] [2, 3, 4, 5, 6, 7, 8, 9, 10, 11, 12, 13, 14, 15], .code [1, 1, 1, 1, 1, 1, 0, 1, 0, 0, 1, 0, 0, 1, 1, 1, 1], .blk 1, .code [1, 1, 1, 1, 1, 1, 0, 1, 0, 0, 1, 1], .inv J, .blk 0, .code [1, 1, 1, 1, 1, 1, 1]], ⟨[(0, .slice (some ⟨b, o, none⟩) n cp), (1, .int .i64 t0), (4, .bool false), (6, .pointer (some ⟨nb, 0, none⟩)), (7, .pointer (some ⟨nc, 0, none⟩)), (8, .int .i64 (NN : Int)), (9, .int .i64 (i : Int)), (10, .string ((txs i).s)), (11, .string ((txs (Int.toNat ((NN : Int) - 1 - (i : Int)))).s)), (63, .pointer (some ⟨nb, 0, none⟩)), (64, .string ((txs i).s))], [], [⟨b, o + i * 1, [.string ((txs i).s)]⟩, ⟨b, o + (Int.toNat (((NN : Int) - 1) - (i : Int))) * 1, [.string ((txs (Int.toNat ((NN : Int) - 1 - (i : Int)))).s)]⟩, ⟨b, o + (Int.toNat (((i : Int) + B) % (NN : Int))) * 1, [.string ((txs (Int.toNat (((i : Int) + B) % (NN : Int)))).s)]⟩], W3.heap.size⟩⟩ := by kernel_rfl
theorem nor_c37 (n : Nat) (cp : Nat) (b : Nat) (o : Nat) (txs : Nat → Txt1) (t0 : Int) (i : Nat) (nb : Nat) (nc : Nat) (NN : Nat) : callAt Try.prog (opsOf (getCode (bodyOf Try.f3) [1, 1, 1, 1, 1, 1, 0, 1, 0, 0, 1, 0, 0, 1, 1, 1, 0])) [(0, .slice (some ⟨b, o, none⟩) n cp), (1, .int .i64 t0), (4, .bool false), (6, .pointer (some ⟨nb, 0, none⟩)), (7, .pointer (some ⟨nc, 0, none⟩)), (8, .int .i64 (NN : Int)), (9, .int .i64 (i : Int)), (10, .string ((txs i).s)), (11, .string ((txs (Int.toNat ((NN : Int) - 1 - (i : Int)))).s)), (63, .pointer (some ⟨nb, 0, none⟩)), (64, .string ((txs i).s))] 2 = some (11, [.pointer (some ⟨nb, 0, none⟩), .string ((txs i).s)], some 65, []) := by kernel_rfl
theorem nor_s38 (n : Nat) (cp : Nat) (b : Nat) (o : Nat) (txs : Nat → Txt1) (t0 : Int) (i : Nat) (nb : Nat) (nc : Nat) (W4 : World) (J : Act → World → Prop) (NN : Nat) : Res.prune [0, 1, 4, 6, 7, 8, 9, 11, 70, 71, 72] [] (exec Try.prog (bodyOf Try.f3) 128 10 [⟨false, 0, []⟩, ⟨false, 0, []⟩, ⟨false, 0, []⟩, ⟨false, 0, []⟩, ⟨false, 0, []⟩, ⟨false, 0, []⟩, ⟨false, 0, []⟩] [.ops [1, 1, 1, 1, 1, 1, 0, 1, 0, 0, 1, 0, 0, 1, 1, 1, 0] [3, 4, 5, 6, 7, 8, 9, 10, 11, 12, 13, 14, 15], .code [1, 1, 1, 1, 1, 1, 0, 1, 0, 0, 1, 0, 0, 1, 1, 1, 1], .blk 1, .code [1, 1, 1, 1, 1, 1, 0, 1, 0, 0, 1, 1], .inv J, .blk 0, .code [1, 1, 1, 1, 1, 1, 1]] ⟨[(65, .bool (decide (((((txs i).s).size : Int) : Int) ≤ 1000))), (0, .slice (some ⟨b, o, none⟩) n cp), (1, .int .i64 t0), (4, .bool false), (6, .pointer (some ⟨nb, 0, none⟩)), (7, .pointer (some ⟨nc, 0, none⟩)), (8, .int .i64 (NN : Int)), (9, .int .i64 (i : Int)), (10, .string ((txs i).s)), (11, .string ((txs (Int.toNat ((NN : Int) - 1 - (i : Int)))).s)), (63, .pointer (some ⟨nb, 0, none⟩)), (64, .string ((txs i).s))], [], [], W4.heap.size⟩) = some ⟨[(!((decide (((((txs i).s).size : Int) : Int) ≤ 1000)) == (decide (((((txs i).s).size : Int) : Int) ≤ 1000)))) = false, (!((decide (((((txs i).s).size : Int) : Int) ≤ 1000)) == (decide (((((txs i).s).size : Int) : Int) ≤ 1000)))) = false], dupR [], [.ops [1, 1, 1, 1, 1, 1, 0, 1, 0, 0, 1, 0, 0, 1, 1, 1, 0] [10, 11, 12, 13, 14, 15], .code [1, 1, 1, 1, 1, 1, 0, 1, 0, 0, 1, 0, 0, 1, 1, 1, 1], .blk 1, .code [1, 1, 1, 1, 1, 1, 0, 1, 0, 0, 1, 1], .inv J, .blk 0, .code [1, 1, 1, 1, 1, 1, 1]], ⟨[(0, .slice (some ⟨b, o, none⟩) n cp), (1, .int .i64 t0), (4, .bool false), (6, .pointer (some ⟨nb, 0, none⟩)), (7, .pointer (some ⟨nc, 0, none⟩)), (8, .int .i64 (NN : Int)), (9, .int .i64 (i : Int)), (11, .string ((txs (Int.toNat ((NN : Int) - 1 - (i : Int)))).s)), (70, .bool (!((decide (((((txs i).s).size : Int) : Int) ≤ 1000)) == (decide (((((txs i).s).size : Int) : Int) ≤ 1000))))), (71, .pointer (some ⟨nc, 0, none⟩)), (72, .string ((txs (Int.toNat ((NN : Int) - 1 - (i : Int)))).s))], [], [], W4.heap.size⟩⟩ := by kernel_rfl
theorem nor_c39 (n : Nat) (cp : Nat) (b : Nat) (o : Nat) (txs : Nat → Txt1) (t0 : Int) (i : Nat) (nb : Nat) (nc : Nat) (NN : Nat) : callAt Try.prog (opsOf (getCode (bodyOf Try.f3) [1, 1, 1, 1, 1, 1, 0, 1, 0, 0, 1, 0, 0, 1, 1, 1, 0])) [(0, .slice (some ⟨b, o, none⟩) n cp), (1, .int .i64 t0), (4, .bool false), (6, .pointer (some ⟨nb, 0, none⟩)), (7, .pointer (some ⟨nc, 0, none⟩)), (8, .int .i64 (NN : Int)), (9, .int .i64 (i : Int)), (11, .string ((txs (Int.toNat ((NN : Int) - 1 - (i : Int)))).s)), (70, .bool (!((decide (((((txs i).s).size : Int) : Int) ≤ 1000)) == (decide (((((txs i).s).size : Int) : Int) ≤ 1000))))), (71, .pointer (some ⟨nc, 0, none⟩)), (72, .string ((txs (Int.toNat ((NN : Int) - 1 - (i : Int)))).s))] 10 = some (11, [.pointer (some ⟨nc, 0, none⟩), .string ((txs (Int.toNat ((NN : Int) - 1 - (i : Int)))).s)], some 73, [(!((decide (((((txs i).s).size : Int) : Int) ≤ 1000)) == (decide (((((txs i).s).size : Int) : Int) ≤ 1000)))) = false]) := by kernel_rfl
theorem nor_s40 (n : Nat) (cp : Nat) (b : Nat) (o : Nat) (txs : Nat → Txt1) (t0 : Int) (i : Nat) (nb : Nat) (nc : Nat) (W5 : World) (J : Act → World → Prop) (NN : Nat) : Res.prune [0, 1, 4, 6, 7, 8, 9] [] (exec Try.prog (bodyOf Try.f3) 128 17 [⟨false, 0, []⟩, ⟨false, 0, []⟩, ⟨false, 0, []⟩, ⟨false, 0, []⟩, ⟨false, 3, []⟩, ⟨false, 0, []⟩, ⟨false, 0, []⟩, ⟨false, 1, []⟩, ⟨false, 0, []⟩] [.ops [1, 1, 1, 1, 1, 1, 0, 1, 0, 0, 1, 0, 0, 1, 1, 1, 0] [11, 12, 13, 14, 15], .code [1, 1, 1, 1, 1, 1, 0, 1, 0, 0, 1, 0, 0, 1, 1, 1, 1], .blk 1, .code [1, 1, 1, 1, 1, 1, 0, 1, 0, 0, 1, 1], .inv J, .blk 0, .code [1, 1, 1, 1, 1, 1, 1]] ⟨[(73, .bool (decide (((((txs (Int.toNat ((NN : Int) - 1 - (i : Int)))).s).size : Int) : Int) ≤ 1000))), (0, .slice (some ⟨b, o, none⟩) n cp), (1, .int .i64 t0), (4, .bool false), (6, .pointer (some ⟨nb, 0, none⟩)), (7, .pointer (some ⟨nc, 0, none⟩)), (8, .int .i64 (NN : Int)), (9, .int .i64 (i : Int)), (11, .string ((txs (Int.toNat ((NN : Int) - 1 - (i : Int)))).s)), (70, .bool (!((decide (((((txs i).s).size : Int) : Int) ≤ 1000)) == (decide (((((txs i).s).size : Int) : Int) ≤ 1000))))), (71, .pointer (some ⟨nc, 0, none⟩)), (72, .string ((txs (Int.toNat ((NN : Int) - 1 - (i : Int)))).s))], [], [], W5.heap.size⟩) = some ⟨[(!((decide (((((txs i).s).size : Int) : Int) ≤ 1000)) == (decide (((((txs i).s).size : Int) : Int) ≤ 1000)))) = false, (!((decide (((((txs i).s).size : Int) : Int) ≤ 1000)) == (decide (((((txs i).s).size : Int) : Int) ≤ 1000)))) = false, (!((decide (((((txs i).s).size : Int) : Int) ≤ 1000)) == (decide (((((txs i).s).size : Int) : Int) ≤ 1000)))) = false, (!((decide (((((txs i).s).size : Int) : Int) ≤ 1000)) == (decide (((((txs i).s).size : Int) : Int) ≤ 1000)))) = false, (!((decide (((((txs i).s).size : Int) : Int) ≤ 1000)) == (decide (((((txs i).s).size : Int) : Int) ≤ 1000)))) = false, (!((decide (((((txs (Int.toNat ((NN : Int) - 1 - (i : Int)))).s).size : Int) : Int) ≤ 1000)) == (decide (((((txs (Int.toNat ((NN : Int) - 1 - (i : Int)))).s).size : Int) : Int) ≤ 1000)))) = false, inR .i64 (((i : Int) + 1))], dupR [], [.inv J, .blk 0, .code [1, 1, 1, 1, 1, 1, 1]], ⟨[(0, .slice (some ⟨b, o, none⟩) n cp), (1, .int .i64 t0), (4, .bool false), (6, .pointer (some ⟨nb, 0, none⟩)), (7, .pointer (some ⟨nc, 0, none⟩)), (8, .int .i64 (NN : Int)), (9, .int .i64 ((i : Int) + 1))], [], [], W5.heap.size⟩⟩ := by kernel_rfl
set_option maxRecDepth 100000 in
set_option maxHeartbeats 4000000 in
theorem order_any (A : Option Addr) (n cp : Nat) (txs : Nat → Txt1) (t0 : Int) (w : World) (HA : TextsAt w A n txs) (ht : I64 t0) (hn0 : n ≤ 9223372036854775807) :
    Calls Try.prog 3 #[.slice A n cp, .int .i64 t0] w (RetK (.bool true) w) := by
  refine calls_of_holds (S := (fun _ => False)) (l := [.slice A n cp, .int .i64 t0]) (n := 128) Try.func3 (body_of (by kernel_rfl)) rfl (by simp) (MemOk.none w _) ?_
  refine holds_go _ _ (nor_s1 A n cp t0 w) trivial ?_
  refine holds_callP (.bool true) (nor_c2 A n cp t0) trivial rfl (fun wx hm => awake13P wx) fun z2 hz2 => ?_
  replace hz2 : w.heap.size ≤ z2 := hz2
  refine holds_go _ _ (nor_s3 A n cp t0 z2) trivial ?_
  refine holds_callW (w := w) (S' := (fun _ => False)) (Y := Nat × Nat) (fun (⟨nb, mb⟩ : Nat × Nat) => .pointer (some ⟨nb, 0, none⟩)) (fun (⟨nb, mb⟩ : Nat × Nat) => []) (fun (⟨nb, mb⟩ : Nat × Nat) W_ => (z2 ≤ mb ∧ mb < nb) ∧ NetAt 43 W_ nb mb []) (fun (⟨nb, mb⟩ : Nat × Nat) => [(19, .pointer (some ⟨nb, 0, none⟩)), (0, .slice A n cp), (1, .int .i64 t0), (4, .bool false), (5, .bool true)]) (nor_c4 A n cp t0) trivial (fun _ => rfl) (fun wx hm => ?_) (fun y W1 hX1 hm1 => ?_)
  · refine (new_net wx).mono fun e w' ⟨nb', mb', he, h1, h2, h3, h4⟩ => ?_
    have hs : wx.heap.size = z2 := hm.size
    exact ⟨(nb', mb'), he, ⟨⟨by omega, h2⟩, h3⟩, (hm.same h4).2⟩
  obtain ⟨nb, mb⟩ := y
  obtain ⟨hz_nb, hX1⟩ := hX1
  have hN1nb := hX1
  have hl_hN1nb := hN1nb.lt
  have hnT : ∀ xx, (xx = nb ∨ xx = mb) → ¬ Turned [] xx := by
    rintro xx hx2 ⟨b, hb, hr, he⟩
    simp at hb
  refine holds_go _ _ (nor_s5 A n cp t0 nb W1) trivial ?_
  refine holds_callW (w := w) (S' := (fun _ => False)) (Y := Nat × Nat) (fun (⟨nc, mc⟩ : Nat × Nat) => .pointer (some ⟨nc, 0, none⟩)) (fun (⟨nc, mc⟩ : Nat × Nat) => []) (fun (⟨nc, mc⟩ : Nat × Nat) W_ => (W1.heap.size ≤ mc ∧ mc < nc) ∧ NetAt 43 W_ nc mc [] ∧ NetAt 43 W_ nb mb []) (fun (⟨nc, mc⟩ : Nat × Nat) => [(20, .pointer (some ⟨nc, 0, none⟩)), (0, .slice A n cp), (1, .int .i64 t0), (4, .bool false), (5, .bool true), (6, .pointer (some ⟨nb, 0, none⟩))]) (nor_c6 A n cp t0 nb) trivial (fun _ => rfl) (fun wx hm => ?_) (fun y W2 hX2 hm2 => ?_)
  · refine (new_net wx).mono fun e w' ⟨nb', mb', he, h1, h2, h3, h4⟩ => ?_
    have hs : wx.heap.size = W1.heap.size := hm.size
    exact ⟨(nb', mb'), he, ⟨⟨by omega, h2⟩, h3, (hN1nb.kept hm.kept (hnT _ (by omega)) (hnT _ (by omega))).kept h4 id id⟩, ((MemOk.back2 hm1 hm).same h4).2⟩
  obtain ⟨nc, mc⟩ := y
  obtain ⟨hz_nc, hX2⟩ := hX2
  obtain ⟨hN2nc, hN2nb⟩ := hX2
  have hl_hN2nc := hN2nc.lt
  have hl_hN2nb := hN2nb.lt
  have hnT : ∀ xx, (xx = nc ∨ xx = mc ∨ xx = nb ∨ xx = mb) → ¬ Turned [] xx := by
    rintro xx hx2 ⟨b, hb, hr, he⟩
    simp at hb
  refine holds_go _ _ (nor_s7 A n cp t0 nb nc W2) ⟨rfl, rfl, rfl, rfl, rfl, rfl, rfl, trivial, trivial⟩ ?_
  obtain ⟨NN, hNN⟩ : ∃ NN : Nat, minZ (n : Int) 64 = (NN : Int) := ⟨min n 64, by unfold minZ; split <;> omega⟩
  have hNb : NN ≤ n ∧ NN ≤ 64 ∧ (n ≤ 64 → NN = n) := by
    unfold minZ at hNN
    split at hNN <;> omega
  obtain ⟨B, hB⟩ : ∃ B, pickZ t0 (NN : Int) = B := ⟨_, rfl⟩
  have hBb : 1 ≤ NN → 0 ≤ B ∧ B < (NN : Int) := fun h1 => by
    have h := pickZ_bd t0 (NN : Int) (by omega)
    rw [hB] at h
    exact h
  refine holds_loopW (w := w) (S' := fun _ => False) (OrderI A n cp txs t0 B nb mb nc mc NN) NN (by kernel_rfl) (fun W3 hm => ⟨⟨0, [], [], _, rfl, rfl, rfl, (hN2nc.kept hm.kept (hnT _ (by omega)) (hnT _ (by omega))), (hN2nb.kept hm.kept (hnT _ (by omega)) (hnT _ (by omega))), by rw [hNN]; rfl⟩, MemOk.back2 hm2 hm⟩) ?_
  rintro m2 _ W3 ⟨i, L, L2, z2, hmi, hLA, hLB, hN3nc, hN3nb, rfl⟩ hm3 J hJ
  clear hnT
  have hl_hN3nc := hN3nc.lt
  have hl_hN3nb := hN3nb.lt
  have hnT : ∀ xx, (xx = nc ∨ xx = mc ∨ xx = nb ∨ xx = mb) → ¬ Turned [] xx := by
    rintro xx hx2 ⟨b, hb, hr, he⟩
    simp at hb
  by_cases h1 : i < NN
  rotate_left
  · skip
    have hi : i = NN := by omega
    have hAB : L2 = L := by
      rw [hLA, hLB, hi]
      exact (snd_eq hNb.2.1 (fun j => (txs j).s) hBb).symm
    subst hAB
    have hl64 := hN3nb.srt
    refine holds_go _ _ (nor_s8 A n cp t0 i nb nc W3 J NN) ⟨decide_eq_false (by omega), trivial⟩ ?_
    refine holds_callP (.int .i64 (L2.length : Int)) (nor_c9 nb nc) trivial rfl (fun wx hm => len_net nb mb L2 wx (hN3nb.kept hm.kept (hnT _ (by omega)) (hnT _ (by omega)))) fun z9 hz9 => ?_
    replace hz9 : W3.heap.size ≤ z9 := hz9
    refine holds_go _ _ (nor_s10 nb nc L2 z9) trivial ?_
    refine holds_callP (.int .i64 (L2.length : Int)) (nor_c11 nb nc L2) trivial rfl (fun wx hm => len_net nc mc L2 wx (hN3nc.kept hm.kept (hnT _ (by omega)) (hnT _ (by omega)))) fun z11 hz11 => ?_
    replace hz11 : z9 ≤ z11 := hz11
    refine holds_go _ _ (nor_s12 nb nc L2 z11) ⟨by simp, trivial⟩ ?_
    refine holds_loopW (w := w) (S' := fun _ => False) (OrderK nb mb nc mc) 64 (by kernel_rfl) (fun W4 hm => ⟨⟨0, L2, [], _, rfl, hl64.2, fun x _ => le_nil x, (hN3nc.kept hm.kept (hnT _ (by omega)) (hnT _ (by omega))), (hN3nb.kept hm.kept (hnT _ (by omega)) (hnT _ (by omega))), rfl⟩, MemOk.back2 hm3 hm⟩) ?_
    rintro m3 _ W4 ⟨k, L, was, z3, hmk, hLk, hwas, hN4nc, hN4nb, rfl⟩ hm4 J2 hJ2
    clear hnT
    have hl_hN4nc := hN4nc.lt
    have hl_hN4nb := hN4nb.lt
    have hnT : ∀ xx, (xx = nc ∨ xx = mc ∨ xx = nb ∨ xx = mb) → ¬ Turned [] xx := by
      rintro xx hx2 ⟨b, hb, hr, he⟩
      simp at hb
    rcases L with _ | ⟨x, L⟩
    · skip
      refine holds_go _ _ (nor_s13 k nb nc was W4 J2) trivial ?_
      refine holds_callP (.int .i64 0) (nor_c14 k nb nc was) trivial rfl (fun wx hm => len_net nb mb [] wx (hN4nb.kept hm.kept (hnT _ (by omega)) (hnT _ (by omega)))) fun z14 hz14 => ?_
      replace hz14 : W4.heap.size ≤ z14 := hz14
      refine holds_go _ _ (nor_s15 k nb nc was J2 z14) ⟨rfl, rfl, rfl, rfl, trivial⟩ ?_
      refine holds_callP (.int .i64 0) (nor_c16 nb nc) trivial rfl (fun wx hm => len_net nb mb [] wx (hN4nb.kept hm.kept (hnT _ (by omega)) (hnT _ (by omega)))) fun z16 hz16 => ?_
      replace hz16 : z14 ≤ z16 := hz16
      refine holds_go _ _ (nor_s17 nb nc z16) ⟨rfl, trivial⟩ ?_
      refine holds_callP (.int .i64 0) (nor_c18 nc) ⟨rfl, trivial⟩ rfl (fun wx hm => len_net nc mc [] wx (hN4nc.kept hm.kept (hnT _ (by omega)) (hnT _ (by omega)))) fun z18 hz18 => ?_
      replace hz18 : z16 ≤ z18 := hz18
      refine holds_go _ _ (nor_s19 nc z18) ⟨rfl, rfl, trivial⟩ ?_
      refine holds_ret [] (by kernel_rfl) (nor_r20) ?_
      intro wx hm
      exact ⟨rfl, (MemOk.back2 hm4 hm).kept⟩
    · skip
      refine holds_go _ _ (nor_s21 k nb nc was W4 J2) trivial ?_
      have hln : ((x :: L).length : Int) = (L.length : Int) + 1 := by simp
      have hLk2 : L.length + 1 + k ≤ 64 := hLk
      have hsrt := hN4nb.srt.1
      refine holds_callP (.int .i64 ((L.length : Int) + 1)) (nor_c22 k nb nc was) trivial rfl (fun wx hm => by have h := len_net nb mb (x :: L) wx (hN4nb.kept hm.kept (hnT _ (by omega)) (hnT _ (by omega))); rw [hln] at h; exact h) fun z22 hz22 => ?_
      replace hz22 : W4.heap.size ≤ z22 := hz22
      refine holds_go _ _ (nor_s23 k nb nc L was J2 z22) ⟨decide_eq_true (by omega), decide_eq_true (by omega), decide_eq_true (by omega), decide_eq_true (by omega), trivial⟩ ?_
      have hnB : ∀ b ∈ ([] : List Bk), ¬ (b.g = nc ∨ b.g = mc ∨ b.g = nb ∨ b.g = mb) := by
        intro b hb hx2
        simp at hb
      refine holds_callW (w := w) (S' := (fun _ => False)) (Y := Nat) (fun _ => .tuple #[.string (bs x), .bool true]) (fun _ => []) (fun _ W_ => NetAt 43 W_ nc mc (x :: L) ∧ NetAt 43 W_ nb mb L) (fun _ => [(95, .tuple #[.string (bs x), .bool true]), (4, .bool false), (6, .pointer (some ⟨nb, 0, none⟩)), (7, .pointer (some ⟨nc, 0, none⟩)), (12, .string (bs was)), (13, .int .i64 (k : Int)), (94, .pointer (some ⟨nb, 0, none⟩))]) (nor_c24 k nb nc was) trivial (fun _ => rfl) (fun wx hm => ?_) (fun _ W5 hX5 hm5 => ?_)
      · refine (take_net nb mb (x :: L) 0 wx (hN4nb.kept hm.kept (hnT _ (by omega)) (hnT _ (by omega)))).mono fun e w' ⟨h1, h2, h3⟩ => ?_
        exact ⟨0, h1, ⟨(hN4nc.kept hm.kept (hnT _ (by omega)) (hnT _ (by omega))).kept h3 (fun e => by rcases e with e | e <;> omega) (fun e => by rcases e with e | e <;> omega), h2⟩, (MemOk.back2 hm4 hm).offN (fun _ h => h) h3 (fun x h => .inr (by rcases h with h | h <;> omega)) (fun b hb h => hnB b hb (by rcases h with h | h <;> omega))⟩
      clear hnT hnB
      obtain ⟨hN5nc, hN5nb⟩ := hX5
      have hl_hN5nc := hN5nc.lt
      have hl_hN5nb := hN5nb.lt
      have hnT : ∀ xx, (xx = nc ∨ xx = mc ∨ xx = nb ∨ xx = mb) → ¬ Turned [] xx := by
        rintro xx hx2 ⟨b, hb, hr, he⟩
        simp at hb
      refine holds_go _ _ (nor_s25 x k nb nc was W5 J2) trivial ?_
      have hnB : ∀ b ∈ ([] : List Bk), ¬ (b.g = nc ∨ b.g = mc ∨ b.g = nb ∨ b.g = mb) := by
        intro b hb hx2
        simp at hb
      refine holds_callW (w := w) (S' := (fun _ => False)) (Y := Nat) (fun _ => .tuple #[.string (bs x), .bool true]) (fun _ => []) (fun _ W_ => NetAt 43 W_ nc mc L ∧ NetAt 43 W_ nb mb L) (fun _ => [(100, .tuple #[.string (bs x), .bool true]), (4, .bool false), (6, .pointer (some ⟨nb, 0, none⟩)), (7, .pointer (some ⟨nc, 0, none⟩)), (12, .string (bs was)), (13, .int .i64 (k : Int)), (14, .string (bs x)), (15, .bool true), (99, .pointer (some ⟨nc, 0, none⟩))]) (nor_c26 x k nb nc was) trivial (fun _ => rfl) (fun wx hm => ?_) (fun _ W6 hX6 hm6 => ?_)
      · refine (take_net nc mc (x :: L) 0 wx (hN5nc.kept hm.kept (hnT _ (by omega)) (hnT _ (by omega)))).mono fun e w' ⟨h1, h2, h3⟩ => ?_
        exact ⟨0, h1, ⟨h2, (hN5nb.kept hm.kept (hnT _ (by omega)) (hnT _ (by omega))).kept h3 (fun e => by rcases e with e | e <;> omega) (fun e => by rcases e with e | e <;> omega)⟩, (MemOk.back2 hm5 hm).offN (fun _ h => h) h3 (fun x h => .inr (by rcases h with h | h <;> omega)) (fun b hb h => hnB b hb (by rcases h with h | h <;> omega))⟩
      clear hnT hnB
      obtain ⟨hN6nc, hN6nb⟩ := hX6
      have hl_hN6nc := hN6nc.lt
      have hl_hN6nb := hN6nb.lt
      have hnT : ∀ xx, (xx = nc ∨ xx = mc ∨ xx = nb ∨ xx = mb) → ¬ Turned [] xx := by
        rintro xx hx2 ⟨b, hb, hr, he⟩
        simp at hb
      refine holds_go _ _ (nor_s27 x k nb nc was W6 J2) ⟨(by rw [beq_self_eq_true _]; rfl), (by rw [beq_self_eq_true _]; rfl), (by rw [beq_self_eq_true _]; rfl), rfl, rfl, rfl, rfl, rfl, rfl, rfl, less_str (hwas x (List.mem_cons_self ..)), in64 (by omega), trivial⟩ ?_
      intro a_ w9 hf hm
      exact hJ2 (m3 - 1) _ a_ w9 (by omega) ⟨k + 1, L, x, _, by omega, by omega, fun y hy => (List.pairwise_cons.1 hsrt).1 y hy, (hN6nc.kept hm.kept (hnT _ (by omega)) (hnT _ (by omega))), (hN6nb.kept hm.kept (hnT _ (by omega)) (hnT _ (by omega))), by rw [← cast_succ k]⟩ hf (MemOk.back2 hm6 hm)
  have hBb2 := hBb (by omega)
  have hr1 : 0 ≤ ((i : Int) + B) % (NN : Int) ∧ ((i : Int) + B) % (NN : Int) < (NN : Int) := ⟨Int.emod_nonneg _ (by omega), Int.emod_lt_of_pos _ (by omega)⟩
  obtain ⟨R, hR⟩ : ∃ R, ((i : Int) + B) % (NN : Int) = R := ⟨_, rfl⟩
  rw [hR] at hr1
  obtain ⟨_, b, o, rfl, hb, hc⟩ := HA i (by omega)
  obtain ⟨_, b2, o2, hA2, _, hc2⟩ := HA (Int.toNat ((NN : Int) - 1 - (i : Int))) (by omega)
  obtain ⟨_, b3, o3, hA3, _, hc3⟩ := HA (Int.toNat (((i : Int) + B) % (NN : Int))) (by rw [hR]; omega)
  simp only [Option.some.injEq, Addr.mk.injEq, and_true] at hA2 hA3
  obtain ⟨rfl, rfl⟩ := hA2
  obtain ⟨rfl, rfl⟩ := hA3
  refine holds_wins [⟨b, o + i * 1, (txs i).cells⟩, ⟨b, o + Int.toNat ((NN : Int) - 1 - (i : Int)) * 1, (txs (Int.toNat ((NN : Int) - 1 - (i : Int)))).cells⟩, ⟨b, o + Int.toNat (((i : Int) + B) % (NN : Int)) * 1, (txs (Int.toNat (((i : Int) + B) % (NN : Int)))).cells⟩] (fun _ x hx => ?_) ?_
  · simp only [List.mem_cons, List.not_mem_nil, or_false] at hx
    rcases hx with rfl | rfl | rfl
    · exact ⟨by rintro ⟨c, hcb, hr, he⟩; simp at hcb, win_kept hb hc rfl hm3.kept id⟩
    · exact ⟨by rintro ⟨c, hcb, hr, he⟩; simp at hcb, win_kept hb hc2 rfl hm3.kept id⟩
    · exact ⟨by rintro ⟨c, hcb, hr, he⟩; simp at hcb, win_kept hb hc3 rfl hm3.kept id⟩
  have hlnA : L.length ≤ i := by rw [hLA]; exact Nat.le_trans (snd_len _) (by simp)
  have hlnB : L2.length ≤ i := by rw [hLB]; exact Nat.le_trans (snd_len _) (by simp)
  refine holds_go _ _ (nor_s28 n cp b o txs t0 i B nb nc W3 J NN) ⟨decide_eq_true (by omega), ⟨by omega, by omega⟩, in64 (by omega), in64 (by omega), ⟨by omega, by omega⟩, (by decide), trivial⟩ ?_
  rcases Bool.eq_false_or_eq_true ((Int.tmod t0 2) == 0) with d1 | d1
  · skip
    refine holds_go _ _ (nor_s29 n cp b o txs t0 i B nb nc W3 J NN) ⟨d1, trivial⟩ ?_
    refine holds_callP (.int .i64 B) (nor_c30 n cp b o txs t0 i nb nc NN) trivial rfl (fun wx hm => pick13 _ _ _ hB wx (by omega) (by omega) ht) fun z30 hz30 => ?_
    replace hz30 : W3.heap.size ≤ z30 := hz30
    refine holds_go _ _ (nor_s31 n cp b o txs t0 i B nb nc J NN z30) ⟨in64 (by omega), ⟨by omega, by omega⟩, ⟨by omega, by omega⟩, trivial⟩ ?_
    have hnB : ∀ b ∈ ([] : List Bk), ¬ (b.g = nc ∨ b.g = mc ∨ b.g = nb ∨ b.g = mb) := by
      intro b hb hx2
      simp at hb
    refine holds_callW (w := w) (S' := (fun _ => False)) (Y := Nat) (fun _ => .bool (decide (((((txs i).s).size : Int) : Int) ≤ 1000))) (fun _ => []) (fun _ W_ => NetAt 43 W_ nc mc L2 ∧ NetAt 43 W_ nb mb (sendL L ((txs i).s))) (fun _ => [(65, .bool (decide (((((txs i).s).size : Int) : Int) ≤ 1000))), (0, .slice (some ⟨b, o, none⟩) n cp), (1, .int .i64 t0), (4, .bool false), (6, .pointer (some ⟨nb, 0, none⟩)), (7, .pointer (some ⟨nc, 0, none⟩)), (8, .int .i64 (NN : Int)), (9, .int .i64 (i : Int)), (10, .string ((txs i).s)), (11, .string ((txs (Int.toNat (((i : Int) + B) % (NN : Int)))).s)), (63, .pointer (some ⟨nb, 0, none⟩)), (64, .string ((txs i).s))]) (nor_c32 n cp b o txs t0 i B nb nc NN) trivial (fun _ => rfl) (fun wx hm => ?_) (fun _ W4 hX4 hm4 => ?_)
    · refine (send_net nb mb L ((txs i).s) wx (hN3nb.kept hm.kept (hnT _ (by omega)) (hnT _ (by omega)))).mono fun e w' ⟨h1, h2, h3⟩ => ?_
      rw [okS_few (by omega)] at h1
      exact ⟨0, h1, ⟨(hN3nc.kept hm.kept (hnT _ (by omega)) (hnT _ (by omega))).kept h3 (fun e => by rcases e with e | e <;> omega) (fun e => by rcases e with e | e <;> omega), h2⟩, (MemOk.back2 hm3 hm).offN (fun _ h => h) h3 (fun x h => .inr (by rcases h with h | h <;> omega)) (fun b hb h => hnB b hb (by rcases h with h | h <;> omega))⟩
    clear hnT hnB
    obtain ⟨hN4nc, hN4nb⟩ := hX4
    have hl_hN4nc := hN4nc.lt
    have hl_hN4nb := hN4nb.lt
    have hnT : ∀ xx, (xx = nc ∨ xx = mc ∨ xx = nb ∨ xx = mb) → ¬ Turned [] xx := by
      rintro xx hx2 ⟨b, hb, hr, he⟩
      simp at hb
    refine holds_go _ _ (nor_s33 n cp b o txs t0 i B nb nc W4 J NN) ⟨(by rw [beq_self_eq_true _]; rfl), (by rw [beq_self_eq_true _]; rfl), trivial⟩ ?_
    have hnB : ∀ b ∈ ([] : List Bk), ¬ (b.g = nc ∨ b.g = mc ∨ b.g = nb ∨ b.g = mb) := by
      intro b hb hx2
      simp at hb
    refine holds_callW (w := w) (S' := (fun _ => False)) (Y := Nat) (fun _ => .bool (decide (((((txs (Int.toNat (((i : Int) + B) % (NN : Int)))).s).size : Int) : Int) ≤ 1000))) (fun _ => []) (fun _ W_ => NetAt 43 W_ nc mc (sendL L2 ((txs (Int.toNat (((i : Int) + B) % (NN : Int)))).s)) ∧ NetAt 43 W_ nb mb (sendL L ((txs i).s))) (fun _ => [(73, .bool (decide (((((txs (Int.toNat (((i : Int) + B) % (NN : Int)))).s).size : Int) : Int) ≤ 1000))), (0, .slice (some ⟨b, o, none⟩) n cp), (1, .int .i64 t0), (4, .bool false), (6, .pointer (some ⟨nb, 0, none⟩)), (7, .pointer (some ⟨nc, 0, none⟩)), (8, .int .i64 (NN : Int)), (9, .int .i64 (i : Int)), (11, .string ((txs (Int.toNat (((i : Int) + B) % (NN : Int)))).s)), (70, .bool (!((decide (((((txs i).s).size : Int) : Int) ≤ 1000)) == (decide (((((txs i).s).size : Int) : Int) ≤ 1000))))), (71, .pointer (some ⟨nc, 0, none⟩)), (72, .string ((txs (Int.toNat (((i : Int) + B) % (NN : Int)))).s))]) (nor_c34 n cp b o txs t0 i B nb nc NN) ⟨(by rw [beq_self_eq_true _]; rfl), trivial⟩ (fun _ => rfl) (fun wx hm => ?_) (fun _ W5 hX5 hm5 => ?_)
    · refine (send_net nc mc L2 ((txs (Int.toNat (((i : Int) + B) % (NN : Int)))).s) wx (hN4nc.kept hm.kept (hnT _ (by omega)) (hnT _ (by omega)))).mono fun e w' ⟨h1, h2, h3⟩ => ?_
      rw [okS_few (by omega)] at h1
      exact ⟨0, h1, ⟨h2, (hN4nb.kept hm.kept (hnT _ (by omega)) (hnT _ (by omega))).kept h3 (fun e => by rcases e with e | e <;> omega) (fun e => by rcases e with e | e <;> omega)⟩, (MemOk.back2 hm4 hm).offN (fun _ h => h) h3 (fun x h => .inr (by rcases h with h | h <;> omega)) (fun b hb h => hnB b hb (by rcases h with h | h <;> omega))⟩
    clear hnT hnB
    obtain ⟨hN5nc, hN5nb⟩ := hX5
    have hl_hN5nc := hN5nc.lt
    have hl_hN5nb := hN5nb.lt
    have hnT : ∀ xx, (xx = nc ∨ xx = mc ∨ xx = nb ∨ xx = mb) → ¬ Turned [] xx := by
      rintro xx hx2 ⟨b, hb, hr, he⟩
      simp at hb
    refine holds_go _ _ (nor_s35 n cp b o txs t0 i B nb nc W5 J NN) ⟨(by rw [beq_self_eq_true _]; rfl), (by rw [beq_self_eq_true _]; rfl), (by rw [beq_self_eq_true _]; rfl), (by rw [beq_self_eq_true _]; rfl), (by rw [beq_self_eq_true _]; rfl), (by rw [beq_self_eq_true _]; rfl), in64 (by omega), trivial⟩ ?_
    have hsg : sgO t0 NN B i = Int.toNat (((i : Int) + B) % (NN : Int)) := by
      unfold sgO
      rw [if_pos d1]
    intro a_ w9 hf hm
    exact hJ (m2 - 1) _ a_ w9 (by omega) ⟨i + 1, _, _, _, by omega, by rw [hLA]; exact (snd_succ _ i).symm, by rw [hLB, ← hsg]; exact (snd_succ (fun j => (txs (sgO t0 NN B j)).s) i).symm, (hN5nc.kept hm.kept (hnT _ (by omega)) (hnT _ (by omega))), (hN5nb.kept hm.kept (hnT _ (by omega)) (hnT _ (by omega))), by rw [← cast_succ i]⟩ hf (MemOk.back2 hm5 hm)
  · skip
    refine holds_go _ _ (nor_s36 n cp b o txs t0 i B nb nc W3 J NN) ⟨d1, trivial⟩ ?_
    have hnB : ∀ b ∈ ([] : List Bk), ¬ (b.g = nc ∨ b.g = mc ∨ b.g = nb ∨ b.g = mb) := by
      intro b hb hx2
      simp at hb
    refine holds_callW (w := w) (S' := (fun _ => False)) (Y := Nat) (fun _ => .bool (decide (((((txs i).s).size : Int) : Int) ≤ 1000))) (fun _ => []) (fun _ W_ => NetAt 43 W_ nc mc L2 ∧ NetAt 43 W_ nb mb (sendL L ((txs i).s))) (fun _ => [(65, .bool (decide (((((txs i).s).size : Int) : Int) ≤ 1000))), (0, .slice (some ⟨b, o, none⟩) n cp), (1, .int .i64 t0), (4, .bool false), (6, .pointer (some ⟨nb, 0, none⟩)), (7, .pointer (some ⟨nc, 0, none⟩)), (8, .int .i64 (NN : Int)), (9, .int .i64 (i : Int)), (10, .string ((txs i).s)), (11, .string ((txs (Int.toNat ((NN : Int) - 1 - (i : Int)))).s)), (63, .pointer (some ⟨nb, 0, none⟩)), (64, .string ((txs i).s))]) (nor_c37 n cp b o txs t0 i nb nc NN) trivial (fun _ => rfl) (fun wx hm => ?_) (fun _ W4 hX4 hm4 => ?_)
    · refine (send_net nb mb L ((txs i).s) wx (hN3nb.kept hm.kept (hnT _ (by omega)) (hnT _ (by omega)))).mono fun e w' ⟨h1, h2, h3⟩ => ?_
      rw [okS_few (by omega)] at h1
      exact ⟨0, h1, ⟨(hN3nc.kept hm.kept (hnT _ (by omega)) (hnT _ (by omega))).kept h3 (fun e => by rcases e with e | e <;> omega) (fun e => by rcases e with e | e <;> omega), h2⟩, (MemOk.back2 hm3 hm).offN (fun _ h => h) h3 (fun x h => .inr (by rcases h with h | h <;> omega)) (fun b hb h => hnB b hb (by rcases h with h | h <;> omega))⟩
    clear hnT hnB
    obtain ⟨hN4nc, hN4nb⟩ := hX4
    have hl_hN4nc := hN4nc.lt
    have hl_hN4nb := hN4nb.lt
    have hnT : ∀ xx, (xx = nc ∨ xx = mc ∨ xx = nb ∨ xx = mb) → ¬ Turned [] xx := by
      rintro xx hx2 ⟨b, hb, hr, he⟩
      simp at hb
    refine holds_go _ _ (nor_s38 n cp b o txs t0 i nb nc W4 J NN) ⟨(by rw [beq_self_eq_true _]; rfl), (by rw [beq_self_eq_true _]; rfl), trivial⟩ ?_
    have hnB : ∀ b ∈ ([] : List Bk), ¬ (b.g = nc ∨ b.g = mc ∨ b.g = nb ∨ b.g = mb) := by
      intro b hb hx2
      simp at hb
    refine holds_callW (w := w) (S' := (fun _ => False)) (Y := Nat) (fun _ => .bool (decide (((((txs (Int.toNat ((NN : Int) - 1 - (i : Int)))).s).size : Int) : Int) ≤ 1000))) (fun _ => []) (fun _ W_ => NetAt 43 W_ nc mc (sendL L2 ((txs (Int.toNat ((NN : Int) - 1 - (i : Int)))).s)) ∧ NetAt 43 W_ nb mb (sendL L ((txs i).s))) (fun _ => [(73, .bool (decide (((((txs (Int.toNat ((NN : Int) - 1 - (i : Int)))).s).size : Int) : Int) ≤ 1000))), (0, .slice (some ⟨b, o, none⟩) n cp), (1, .int .i64 t0), (4, .bool false), (6, .pointer (some ⟨nb, 0, none⟩)), (7, .pointer (some ⟨nc, 0, none⟩)), (8, .int .i64 (NN : Int)), (9, .int .i64 (i : Int)), (11, .string ((txs (Int.toNat ((NN : Int) - 1 - (i : Int)))).s)), (70, .bool (!((decide (((((txs i).s).size : Int) : Int) ≤ 1000)) == (decide (((((txs i).s).size : Int) : Int) ≤ 1000))))), (71, .pointer (some ⟨nc, 0, none⟩)), (72, .string ((txs (Int.toNat ((NN : Int) - 1 - (i : Int)))).s))]) (nor_c39 n cp b o txs t0 i nb nc NN) ⟨(by rw [beq_self_eq_true _]; rfl), trivial⟩ (fun _ => rfl) (fun wx hm => ?_) (fun _ W5 hX5 hm5 => ?_)
    · refine (send_net nc mc L2 ((txs (Int.toNat ((NN : Int) - 1 - (i : Int)))).s) wx (hN4nc.kept hm.kept (hnT _ (by omega)) (hnT _ (by omega)))).mono fun e w' ⟨h1, h2, h3⟩ => ?_
      rw [okS_few (by omega)] at h1
      exact ⟨0, h1, ⟨h2, (hN4nb.kept hm.kept (hnT _ (by omega)) (hnT _ (by omega))).kept h3 (fun e => by rcases e with e | e <;> omega) (fun e => by rcases e with e | e <;> omega)⟩, (MemOk.back2 hm4 hm).offN (fun _ h => h) h3 (fun x h => .inr (by rcases h with h | h <;> omega)) (fun b hb h => hnB b hb (by rcases h with h | h <;> omega))⟩
    clear hnT hnB
    obtain ⟨hN5nc, hN5nb⟩ := hX5
    have hl_hN5nc := hN5nc.lt
    have hl_hN5nb := hN5nb.lt
    have hnT : ∀ xx, (xx = nc ∨ xx = mc ∨ xx = nb ∨ xx = mb) → ¬ Turned [] xx := by
      rintro xx hx2 ⟨b, hb, hr, he⟩
      simp at hb
    refine holds_go _ _ (nor_s40 n cp b o txs t0 i nb nc W5 J NN) ⟨(by rw [beq_self_eq_true _]; rfl), (by rw [beq_self_eq_true _]; rfl), (by rw [beq_self_eq_true _]; rfl), (by rw [beq_self_eq_true _]; rfl), (by rw [beq_self_eq_true _]; rfl), (by rw [beq_self_eq_true _]; rfl), in64 (by omega), trivial⟩ ?_
    have hsg : sgO t0 NN B i = Int.toNat ((NN : Int) - 1 - (i : Int)) := by
      unfold sgO
      rw [if_neg (by rw [d1]; simp)]
    intro a_ w9 hf hm
    exact hJ (m2 - 1) _ a_ w9 (by omega) ⟨i + 1, _, _, _, by omega, by rw [hLA]; exact (snd_succ _ i).symm, by rw [hLB, ← hsg]; exact (snd_succ (fun j => (txs (sgO t0 NN B j)).s) i).symm, (hN5nc.kept hm.kept (hnT _ (by omega)) (hnT _ (by omega))), (hN5nb.kept hm.kept (hnT _ (by omega)) (hnT _ (by omega))), by rw [← cast_succ i]⟩ hf (MemOk.back2 hm5 hm)

end Go.Proofs.Ythndmmondlpghaa
