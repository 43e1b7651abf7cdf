/- NetSent's inner function: it counts one of five texts. -/
import Derived.Test.YthndmmondlpghaaAwake13
import Derived.Test.YthndmmondlpghaaPick13
namespace Go.Proofs.Ythndmmondlpghaa
open Go.RowKit

/-- the five texts -/
def tx5 : Nat → ByteArray
  | 0 => ⟨#[]⟩
  | 1 => ⟨#[97]⟩
  | 2 => ⟨#[97, 98]⟩
  | 3 => ⟨#[98]⟩
  | _ => ⟨#[98, 97]⟩
theorem tx5_at {k : Nat} (h : k < 5) : ([.string ⟨#[]⟩, .string ⟨#[97]⟩, .string ⟨#[97, 98]⟩, .string ⟨#[98]⟩, .string ⟨#[98, 97]⟩] : List Value)[0 + k * 1]? = some (.string (tx5 k)) := by
  match k, h with
  | 0, _ => rfl
  | 1, _ => rfl
  | 2, _ => rfl
  | 3, _ => rfl
  | 4, _ => rfl
theorem tx5_lt {j k : Nat} (hj : j < k) (hk : k < 5) : leB (kb (tx5 k)) (kb (tx5 j)) = false := by
  match k, hk, j, hj with
  | 1, _, 0, _ => decide
  | 2, _, 0, _ => decide
  | 2, _, 1, _ => decide
  | 3, _, 0, _ => decide
  | 3, _, 1, _ => decide
  | 3, _, 2, _ => decide
  | 4, _, 0, _ => decide
  | 4, _, 1, _ => decide
  | 4, _, 2, _ => decide
  | 4, _, 3, _ => decide
theorem tx5_inj {j k : Nat} (hj : j < 5) (hk : k < 5) (h : kb (tx5 j) = kb (tx5 k)) : j = k := by
  rcases Nat.lt_trichotomy j k with h1 | h1 | h1
  · have := tx5_lt h1 hk
    rw [h, le_rf] at this
    cases this
  · exact h1
  · have := tx5_lt h1 hj
    rw [h, le_rf] at this
    cases this
theorem tx5_ne {j k : Nat} (hj : j < 5) (hk : k < 5) (h : ¬ j = k) : (ByteArray.toList (tx5 j) == ByteArray.toList (tx5 k)) = false := by
  refine beq_eq_false_iff_ne.2 fun e => h (tx5_inj hj hk ?_)
  rw [ByteArray.toList_eq, ByteArray.toList_eq] at e
  exact e
theorem tx5_size (k : Nat) : (tx5 k).size ≤ 1000 := by
  unfold tx5
  split <;> decide
def intsU (u : Nat → Int) : List Value := (List.range 5).map fun k => .int .i64 (u k)
def addU (u : Nat → Int) (q : Nat) (e : Int) (k : Nat) : Int := if k = q then u k + e else u k
theorem addU_at (u : Nat → Int) (q : Nat) (e : Int) : addU u q e q = u q + e := if_pos rfl
theorem intsU_at {u : Nat → Int} {k : Nat} (h : k < 5) : (intsU u)[0 + k * 1]? = some (.int .i64 (u k)) := by
  rw [Nat.zero_add, Nat.mul_one]
  simp [intsU, h]
theorem store_u {P : Program} {w0 wx : World} {S : Nat → Prop} {bk : List Bk} {wn : List Wn} {sz i g k : Nat} {t tt : TypeId} {u : Nat → Int} {e v : Int} (hm : MemOk w0 S bk wn sz wx) (hi : bk[i]? = some ⟨g, tt, true, intsU u⟩) (hk : k < 5) (hv : v = addU u k e k) (hs : (P.info? t).map (·.size) = some 1) :
    ∃ w', (Instr.storeAt t (.pointer (some ⟨g, 0 + k * 1, none⟩)) (.int .i64 v)).run P wx = .ok () w' ∧ sz ≤ w'.heap.size ∧ MemOk w0 S (bk.set i ⟨g, tt, true, intsU (addU u k e)⟩) wn w'.heap.size w' := by
  have hB : Blk wx g tt (intsU u) := hm.at_ i hi
  have h1 := run_storeG (P := P) wx t g (0 + k * 1) tt (intsU u) (.int .i64 v) (by rw [hs]; rfl) hB (by simp [intsU, Value.cells]; omega) (fun x hx => by
    simp only [Value.cells, List.mem_singleton] at hx
    subst hx
    rfl)
  have e2 : ((intsU u).take (0 + k * 1) ++ (Value.int .i64 v).cells.toList ++ (intsU u).drop (0 + k * 1 + (Value.int .i64 v).cells.size)) = intsU (addU u k e) := by
    subst hv
    match k, hk with
    | 0, _ => rfl
    | 1, _ => rfl
    | 2, _ => rfl
    | 3, _ => rfl
    | 4, _ => rfl
  rw [e2] at h1
  exact ⟨_, h1, hm.set1 i hi rfl (setRow_kept wx g _) (setRow_blk hB (intsU (addU u k e)))⟩
def cnt_v1 : List Value := [.string ⟨#[]⟩, .string ⟨#[97]⟩, .string ⟨#[97, 98]⟩, .string ⟨#[98]⟩, .string ⟨#[98, 97]⟩]
theorem cnt_s1 (q : Nat) (e : Int) (a : Int) (u : Nat → Int) (gT : Nat) (g5 : Nat) (g6 : Nat) (g7 : Nat) (w : World) : Res.prune [0, 1, 2, 3, 4, 7, 8] [] (exec Try.prog (bodyOf Try.f24) 33 13 [⟨false, 0, []⟩, ⟨false, 0, []⟩] [.code []] ⟨[(0, .string (tx5 q)), (1, .int .i64 e), (2, .pointer (some ⟨g5, 0, none⟩)), (3, .pointer (some ⟨g6, 0, none⟩)), (4, .pointer (some ⟨g7, 0, none⟩))], [⟨gT, 9, false, (cnt_v1)⟩, ⟨g5, 22, false, [.slice (some ⟨gT, 0, none⟩) 5 5]⟩, ⟨g6, 39, true, (intsU u)⟩, ⟨g7, 3, true, [.int .i64 a]⟩], [], w.heap.size⟩) = some ⟨[], dupR [], [.code [1, 0, 1, 0], .blk 0, .code [1, 1]], ⟨[(0, .string (tx5 q)), (1, .int .i64 e), (2, .pointer (some ⟨g5, 0, none⟩)), (3, .pointer (some ⟨g6, 0, none⟩)), (4, .pointer (some ⟨g7, 0, none⟩)), (7, .bool false), (8, .int .i64 0)], [⟨gT, 9, false, (cnt_v1)⟩, ⟨g5, 22, false, [.slice (some ⟨gT, 0, none⟩) 5 5]⟩, ⟨g6, 39, true, (intsU u)⟩, ⟨g7, 3, true, [.int .i64 a]⟩], [], w.heap.size⟩⟩ := by kernel_rfl
def CountI (q : Nat) (e : Int) (a : Int) (u : Nat → Int) (gT : Nat) (g5 : Nat) (g6 : Nat) (g7 : Nat) (w : World)  (m : Nat) (st : St) : Prop := ∃ (k z : Nat), m + k = 5 ∧ k ≤ q ∧ w.heap.size ≤ z ∧ st = ⟨[(0, .string (tx5 q)), (1, .int .i64 e), (2, .pointer (some ⟨g5, 0, none⟩)), (3, .pointer (some ⟨g6, 0, none⟩)), (4, .pointer (some ⟨g7, 0, none⟩)), (7, .bool false), (8, .int .i64 (k : Int))], [⟨gT, 9, false, (cnt_v1)⟩, ⟨g5, 22, false, [.slice (some ⟨gT, 0, none⟩) 5 5]⟩, ⟨g6, 39, true, (intsU u)⟩, ⟨g7, 3, true, [.int .i64 a]⟩], [], z⟩
theorem cnt_s2 (q : Nat) (k : Nat) (e : Int) (a : Int) (u : Nat → Int) (gT : Nat) (g5 : Nat) (g6 : Nat) (g7 : Nat) (z : Nat) (J : Act → World → Prop) : Res.prune [0, 1, 2, 3, 4, 7, 8, 15] [] (exec Try.prog (bodyOf Try.f24) 33 18 [⟨false, 0, []⟩, ⟨false, 0, []⟩, ⟨true, 0, []⟩, ⟨false, 0, [⟨false, 1, 0, 1⟩]⟩, ⟨false, 0, []⟩, ⟨false, 1, []⟩] [.code [1, 0, 1, 0, 0], .inv J, .blk 0, .code [1, 1]] ⟨[(0, .string (tx5 q)), (1, .int .i64 e), (2, .pointer (some ⟨g5, 0, none⟩)), (3, .pointer (some ⟨g6, 0, none⟩)), (4, .pointer (some ⟨g7, 0, none⟩)), (7, .bool false), (8, .int .i64 (k : Int))], [⟨gT, 9, false, (cnt_v1)⟩, ⟨g5, 22, false, [.slice (some ⟨gT, 0, none⟩) 5 5]⟩, ⟨g6, 39, true, (intsU u)⟩, ⟨g7, 3, true, [.int .i64 a]⟩], [], z⟩) = some ⟨[(decide (((k : Int) : Int) < 5)) = true, (0 : Int) ≤ (k : Int) ∧ (k : Int) < ((5 : Nat) : Int)], dupR [(g5, 0, 1)], [.ops [1, 0, 1, 0, 0, 1, 0, 0, 0] [3, 4, 5], .code [1, 0, 1, 0, 0, 1, 0, 0, 1], .blk 1, .code [1, 0, 1, 0, 0, 1, 1], .inv J, .blk 0, .code [1, 1]], ⟨[(0, .string (tx5 q)), (1, .int .i64 e), (2, .pointer (some ⟨g5, 0, none⟩)), (3, .pointer (some ⟨g6, 0, none⟩)), (4, .pointer (some ⟨g7, 0, none⟩)), (7, .bool false), (8, .int .i64 (k : Int)), (15, .pointer (some ⟨gT, 0 + k * 1, none⟩))], [⟨gT, 9, false, (cnt_v1)⟩, ⟨g5, 22, false, [.slice (some ⟨gT, 0, none⟩) 5 5]⟩, ⟨g6, 39, true, (intsU u)⟩, ⟨g7, 3, true, [.int .i64 a]⟩], [], z⟩⟩ := by kernel_rfl
theorem cnt_s4 (q : Nat) (k : Nat) (e : Int) (a : Int) (u : Nat → Int) (gT : Nat) (g5 : Nat) (g6 : Nat) (g7 : Nat) (z : Nat) (J : Act → World → Prop) : Res.prune [0, 1, 2, 3, 4, 7, 8, 18] [] (exec Try.prog (bodyOf Try.f24) 33 6 [⟨false, 0, []⟩, ⟨false, 0, []⟩] [.ops [1, 0, 1, 0, 0, 1, 0, 0, 0] [4, 5], .code [1, 0, 1, 0, 0, 1, 0, 0, 1], .blk 1, .code [1, 0, 1, 0, 0, 1, 1], .inv J, .blk 0, .code [1, 1]] ⟨[(16, .string (tx5 k)), (0, .string (tx5 q)), (1, .int .i64 e), (2, .pointer (some ⟨g5, 0, none⟩)), (3, .pointer (some ⟨g6, 0, none⟩)), (4, .pointer (some ⟨g7, 0, none⟩)), (7, .bool false), (8, .int .i64 (k : Int)), (15, .pointer (some ⟨gT, 0 + k * 1, none⟩))], [⟨gT, 9, false, (cnt_v1)⟩, ⟨g5, 22, false, [.slice (some ⟨gT, 0, none⟩) 5 5]⟩, ⟨g6, 39, true, (intsU u)⟩, ⟨g7, 3, true, [.int .i64 a]⟩], [], z⟩) = some ⟨[], dupR [], [.code [1, 0, 1, 0, 0, 1, 0, 0, 1], .blk 1, .code [1, 0, 1, 0, 0, 1, 1], .inv J, .blk 0, .code [1, 1]], ⟨[(0, .string (tx5 q)), (1, .int .i64 e), (2, .pointer (some ⟨g5, 0, none⟩)), (3, .pointer (some ⟨g6, 0, none⟩)), (4, .pointer (some ⟨g7, 0, none⟩)), (7, .bool false), (8, .int .i64 (k : Int)), (18, .bool (ByteArray.toList (tx5 k) == ByteArray.toList (tx5 q)))], [⟨gT, 9, false, (cnt_v1)⟩, ⟨g5, 22, false, [.slice (some ⟨gT, 0, none⟩) 5 5]⟩, ⟨g6, 39, true, (intsU u)⟩, ⟨g7, 3, true, [.int .i64 a]⟩], [], z⟩⟩ := by kernel_rfl
theorem cnt_s5 (q : Nat) (k : Nat) (e : Int) (a : Int) (u : Nat → Int) (gT : Nat) (g5 : Nat) (g6 : Nat) (g7 : Nat) (z : Nat) (J : Act → World → Prop) : Res.prune [0, 1, 2, 3, 4, 7, 8] [] (exec Try.prog (bodyOf Try.f24) 33 11 [⟨false, 0, []⟩, ⟨false, 0, []⟩, ⟨false, 1, []⟩, ⟨false, 0, []⟩] [.code [1, 0, 1, 0, 0, 1, 0, 0, 1], .blk 1, .code [1, 0, 1, 0, 0, 1, 1], .inv J, .blk 0, .code [1, 1]] ⟨[(0, .string (tx5 q)), (1, .int .i64 e), (2, .pointer (some ⟨g5, 0, none⟩)), (3, .pointer (some ⟨g6, 0, none⟩)), (4, .pointer (some ⟨g7, 0, none⟩)), (7, .bool false), (8, .int .i64 (k : Int)), (18, .bool (ByteArray.toList (tx5 k) == ByteArray.toList (tx5 q)))], [⟨gT, 9, false, (cnt_v1)⟩, ⟨g5, 22, false, [.slice (some ⟨gT, 0, none⟩) 5 5]⟩, ⟨g6, 39, true, (intsU u)⟩, ⟨g7, 3, true, [.int .i64 a]⟩], [], z⟩) = some ⟨[(ByteArray.toList (tx5 k) == ByteArray.toList (tx5 q)) = false, inR .i64 (((k : Int) + 1))], dupR [], [.inv J, .blk 0, .code [1, 1]], ⟨[(0, .string (tx5 q)), (1, .int .i64 e), (2, .pointer (some ⟨g5, 0, none⟩)), (3, .pointer (some ⟨g6, 0, none⟩)), (4, .pointer (some ⟨g7, 0, none⟩)), (7, .bool false), (8, .int .i64 ((k : Int) + 1))], [⟨gT, 9, false, (cnt_v1)⟩, ⟨g5, 22, false, [.slice (some ⟨gT, 0, none⟩) 5 5]⟩, ⟨g6, 39, true, (intsU u)⟩, ⟨g7, 3, true, [.int .i64 a]⟩], [], z⟩⟩ := by kernel_rfl
theorem cnt_s6 (q : Nat) (e : Int) (a : Int) (u : Nat → Int) (gT : Nat) (g5 : Nat) (g6 : Nat) (g7 : Nat) (z : Nat) (J : Act → World → Prop) : Res.prune [0, 1, 2, 3, 4, 7, 8, 19, 21] [] (exec Try.prog (bodyOf Try.f24) 33 9 [⟨true, 0, []⟩, ⟨false, 0, []⟩, ⟨false, 0, []⟩, ⟨false, 1, []⟩] [.code [1, 0, 1, 0, 0, 1, 0, 0, 1], .blk 1, .code [1, 0, 1, 0, 0, 1, 1], .inv J, .blk 0, .code [1, 1]] ⟨[(0, .string (tx5 q)), (1, .int .i64 e), (2, .pointer (some ⟨g5, 0, none⟩)), (3, .pointer (some ⟨g6, 0, none⟩)), (4, .pointer (some ⟨g7, 0, none⟩)), (7, .bool false), (8, .int .i64 (q : Int)), (18, .bool (ByteArray.toList (tx5 q) == ByteArray.toList (tx5 q)))], [⟨gT, 9, false, (cnt_v1)⟩, ⟨g5, 22, false, [.slice (some ⟨gT, 0, none⟩) 5 5]⟩, ⟨g6, 39, true, (intsU u)⟩, ⟨g7, 3, true, [.int .i64 a]⟩], [], z⟩) = some ⟨[(ByteArray.toList (tx5 q) == ByteArray.toList (tx5 q)) = true, (0 : Int) ≤ (q : Int) ∧ (q : Int) < ((5 : Nat) : Int)], dupR [], [.ops [1, 0, 1, 0, 0, 1, 0, 0, 1, 0, 0] [3, 4, 5, 6, 7], .code [1, 0, 1, 0, 0, 1, 0, 0, 1, 0, 1], .blk 1, .code [1, 0, 1, 0, 0, 1, 1], .inv J, .blk 0, .code [1, 1]], ⟨[(0, .string (tx5 q)), (1, .int .i64 e), (2, .pointer (some ⟨g5, 0, none⟩)), (3, .pointer (some ⟨g6, 0, none⟩)), (4, .pointer (some ⟨g7, 0, none⟩)), (7, .bool false), (8, .int .i64 (q : Int)), (19, .int .i64 (q : Int)), (21, .pointer (some ⟨g6, 0 + (Int.toNat (q : Int)) * 1, none⟩))], [⟨gT, 9, false, (cnt_v1)⟩, ⟨g5, 22, false, [.slice (some ⟨gT, 0, none⟩) 5 5]⟩, ⟨g6, 39, true, (intsU u)⟩, ⟨g7, 3, true, [.int .i64 a]⟩], [], z⟩⟩ := by kernel_rfl
theorem cnt_s8 (q : Nat) (e : Int) (a : Int) (u : Nat → Int) (gT : Nat) (g5 : Nat) (g6 : Nat) (g7 : Nat) (z : Nat) (J : Act → World → Prop) : Res.prune [0, 1, 2, 3, 4, 7, 8, 24, 25] [] (exec Try.prog (bodyOf Try.f24) 33 6 [⟨false, 0, []⟩, ⟨false, 1, []⟩, ⟨false, 1, []⟩] [.ops [1, 0, 1, 0, 0, 1, 0, 0, 1, 0, 0] [4, 5, 6, 7], .code [1, 0, 1, 0, 0, 1, 0, 0, 1, 0, 1], .blk 1, .code [1, 0, 1, 0, 0, 1, 1], .inv J, .blk 0, .code [1, 1]] ⟨[(22, .int .i64 (u q)), (0, .string (tx5 q)), (1, .int .i64 e), (2, .pointer (some ⟨g5, 0, none⟩)), (3, .pointer (some ⟨g6, 0, none⟩)), (4, .pointer (some ⟨g7, 0, none⟩)), (7, .bool false), (8, .int .i64 (q : Int)), (19, .int .i64 (q : Int)), (21, .pointer (some ⟨g6, 0 + (Int.toNat (q : Int)) * 1, none⟩))], [⟨gT, 9, false, (cnt_v1)⟩, ⟨g5, 22, false, [.slice (some ⟨gT, 0, none⟩) 5 5]⟩, ⟨g6, 39, true, (intsU u)⟩, ⟨g7, 3, true, [.int .i64 a]⟩], [], z⟩) = some ⟨[inR .i64 (((u q) + e)), (0 : Int) ≤ (q : Int) ∧ (q : Int) < ((5 : Nat) : Int)], dupR [], [.ops [1, 0, 1, 0, 0, 1, 0, 0, 1, 0, 0] [7], .code [1, 0, 1, 0, 0, 1, 0, 0, 1, 0, 1], .blk 1, .code [1, 0, 1, 0, 0, 1, 1], .inv J, .blk 0, .code [1, 1]], ⟨[(0, .string (tx5 q)), (1, .int .i64 e), (2, .pointer (some ⟨g5, 0, none⟩)), (3, .pointer (some ⟨g6, 0, none⟩)), (4, .pointer (some ⟨g7, 0, none⟩)), (7, .bool false), (8, .int .i64 (q : Int)), (24, .int .i64 ((u q) + e)), (25, .pointer (some ⟨g6, 0 + (Int.toNat (q : Int)) * 1, none⟩))], [⟨gT, 9, false, (cnt_v1)⟩, ⟨g5, 22, false, [.slice (some ⟨gT, 0, none⟩) 5 5]⟩, ⟨g6, 39, true, (intsU u)⟩, ⟨g7, 3, true, [.int .i64 a]⟩], [], z⟩⟩ := by kernel_rfl
theorem cnt_s10 (q : Nat) (e : Int) (a : Int) (u : Nat → Int) (gT : Nat) (g5 : Nat) (g6 : Nat) (g7 : Nat) (J : Act → World → Prop) (z9 : Nat) : Res.prune [0, 1, 2, 3, 4, 7, 8, 30] [] (exec Try.prog (bodyOf Try.f24) 33 15 [⟨false, 0, [⟨false, 3, 0, 1⟩]⟩, ⟨false, 0, []⟩, ⟨false, 1, []⟩, ⟨false, 0, [⟨false, 3, 0, 1⟩]⟩, ⟨false, 0, []⟩, ⟨false, 1, []⟩] [.ops [1, 0, 1, 0, 0, 1, 0, 0, 1, 0, 0] [], .code [1, 0, 1, 0, 0, 1, 0, 0, 1, 0, 1], .blk 1, .code [1, 0, 1, 0, 0, 1, 1], .inv J, .blk 0, .code [1, 1]] ⟨[(0, .string (tx5 q)), (1, .int .i64 e), (2, .pointer (some ⟨g5, 0, none⟩)), (3, .pointer (some ⟨g6, 0, none⟩)), (4, .pointer (some ⟨g7, 0, none⟩)), (7, .bool false), (8, .int .i64 (q : Int)), (24, .int .i64 ((u q) + e)), (25, .pointer (some ⟨g6, 0 + (Int.toNat (q : Int)) * 1, none⟩))], [⟨gT, 9, false, (cnt_v1)⟩, ⟨g5, 22, false, [.slice (some ⟨gT, 0, none⟩) 5 5]⟩, ⟨g6, 39, true, (intsU (addU u q e))⟩, ⟨g7, 3, true, [.int .i64 a]⟩], [], z9⟩) = some ⟨[inR .i64 ((a + e)), (0 : Int) ≤ (q : Int) ∧ (q : Int) < ((5 : Nat) : Int)], dupR [(g7, 0, 1), (g7, 0, 1)], [.ops [1, 0, 1, 0, 0, 1, 0, 0, 1, 0, 1, 1, 0] [2, 3, 4], .code [1, 0, 1, 0, 0, 1, 0, 0, 1, 0, 1, 1, 1], .blk 1, .code [1, 0, 1, 0, 0, 1, 1], .inv J, .blk 0, .code [1, 1]], ⟨[(0, .string (tx5 q)), (1, .int .i64 e), (2, .pointer (some ⟨g5, 0, none⟩)), (3, .pointer (some ⟨g6, 0, none⟩)), (4, .pointer (some ⟨g7, 0, none⟩)), (7, .bool false), (8, .int .i64 (q : Int)), (30, .pointer (some ⟨g6, 0 + (Int.toNat (q : Int)) * 1, none⟩))], [⟨gT, 9, false, (cnt_v1)⟩, ⟨g5, 22, false, [.slice (some ⟨gT, 0, none⟩) 5 5]⟩, ⟨g6, 39, true, (intsU (addU u q e))⟩, ⟨g7, 3, true, [.int .i64 (a + e)]⟩], [], z9⟩⟩ := by kernel_rfl
theorem cnt_s12 (q : Nat) (e : Int) (a : Int) (u : Nat → Int) (gT : Nat) (g5 : Nat) (g6 : Nat) (g7 : Nat) (J : Act → World → Prop) (z9 : Nat) : Res.prune [0, 1, 2, 3, 4, 7, 8] [] (exec Try.prog (bodyOf Try.f24) 33 6 [⟨false, 0, []⟩, ⟨false, 0, []⟩] [.ops [1, 0, 1, 0, 0, 1, 0, 0, 1, 0, 1, 1, 0] [3, 4], .code [1, 0, 1, 0, 0, 1, 0, 0, 1, 0, 1, 1, 1], .blk 1, .code [1, 0, 1, 0, 0, 1, 1], .inv J, .blk 0, .code [1, 1]] ⟨[(31, .int .i64 (u q + e)), (0, .string (tx5 q)), (1, .int .i64 e), (2, .pointer (some ⟨g5, 0, none⟩)), (3, .pointer (some ⟨g6, 0, none⟩)), (4, .pointer (some ⟨g7, 0, none⟩)), (7, .bool false), (8, .int .i64 (q : Int)), (30, .pointer (some ⟨g6, 0 + (Int.toNat (q : Int)) * 1, none⟩))], [⟨gT, 9, false, (cnt_v1)⟩, ⟨g5, 22, false, [.slice (some ⟨gT, 0, none⟩) 5 5]⟩, ⟨g6, 39, true, (intsU (addU u q e))⟩, ⟨g7, 3, true, [.int .i64 (a + e)]⟩], [], z9⟩) = some ⟨[], dupR [], [.code [1, 0, 1, 0, 0, 1, 0, 0, 1, 0, 1, 1, 1], .blk 1, .code [1, 0, 1, 0, 0, 1, 1], .inv J, .blk 0, .code [1, 1]], ⟨[(0, .string (tx5 q)), (1, .int .i64 e), (2, .pointer (some ⟨g5, 0, none⟩)), (3, .pointer (some ⟨g6, 0, none⟩)), (4, .pointer (some ⟨g7, 0, none⟩)), (7, .bool (decide (((u q + e) : Int) ≥ 0))), (8, .int .i64 (q : Int))], [⟨gT, 9, false, (cnt_v1)⟩, ⟨g5, 22, false, [.slice (some ⟨gT, 0, none⟩) 5 5]⟩, ⟨g6, 39, true, (intsU (addU u q e))⟩, ⟨g7, 3, true, [.int .i64 (a + e)]⟩], [], z9⟩⟩ := by kernel_rfl
theorem cnt_r13 (q : Nat) (e : Int) (a : Int) (u : Nat → Int) (gT : Nat) (g5 : Nat) (g6 : Nat) (g7 : Nat) : resL Try.prog [] [⟨gT, 9, false, (cnt_v1)⟩, ⟨g5, 22, false, [.slice (some ⟨gT, 0, none⟩) 5 5]⟩, ⟨g6, 39, true, (intsU (addU u q e))⟩, ⟨g7, 3, true, [.int .i64 (a + e)]⟩] [(0, .string (tx5 q)), (1, .int .i64 e), (2, .pointer (some ⟨g5, 0, none⟩)), (3, .pointer (some ⟨g6, 0, none⟩)), (4, .pointer (some ⟨g7, 0, none⟩)), (7, .bool (decide (((u q + e) : Int) ≥ 0))), (8, .int .i64 (q : Int))] Try.f24.results.toList [] = some ([.bool (decide (((u q + e) : Int) ≥ 0))], dupR []) := by kernel_rfl
set_option maxRecDepth 100000 in
set_option maxHeartbeats 4000000 in
theorem count_any (q : Nat) (hq : q < 5) (e : Int) (he : -1 ≤ e ∧ e ≤ 1) (a : Int) (ha : 0 ≤ a ∧ a ≤ 64) (u : Nat → Int) (hu : ∀ k, 0 ≤ u k ∧ u k ≤ 64) (hpos : 0 ≤ addU u q e q) (gT g5 g6 g7 : Nat) (hnd : [gT, g5, g6, g7].Nodup) (w : World) (hT : Blk w gT 9 [.string ⟨#[]⟩, .string ⟨#[97]⟩, .string ⟨#[97, 98]⟩, .string ⟨#[98]⟩, .string ⟨#[98, 97]⟩]) (h5 : Blk w g5 22 [.slice (some ⟨gT, 0, none⟩) 5 5]) (h6 : Blk w g6 39 (intsU u)) (h7 : Blk w g7 3 [.int .i64 a]) :
    Calls Try.prog 24 #[.string (tx5 q), .int .i64 e, .pointer (some ⟨g5, 0, none⟩), .pointer (some ⟨g6, 0, none⟩), .pointer (some ⟨g7, 0, none⟩)] w (fun en w' => en = .returned (.bool true) ∧ Blk w' g6 39 (intsU (addU u q e)) ∧ Blk w' g7 3 [.int .i64 (a + e)] ∧ Kept (fun x => x = g6 ∨ x = g7) w w') := by
  have huq := hu q
  refine calls_of_holds (S := (fun x => x = g6 ∨ x = g7)) (l := [.string (tx5 q), .int .i64 e, .pointer (some ⟨g5, 0, none⟩), .pointer (some ⟨g6, 0, none⟩), .pointer (some ⟨g7, 0, none⟩)]) (n := 33) Try.func24 (body_of (by kernel_rfl)) rfl (by simp) (MemOk.start (bk := [⟨gT, 9, false, (cnt_v1)⟩, ⟨g5, 22, false, [.slice (some ⟨gT, 0, none⟩) 5 5]⟩, ⟨g6, 39, true, (intsU u)⟩, ⟨g7, 3, true, [.int .i64 a]⟩]) (wn := []) (by simpa using ⟨hT, h5, h6, h7⟩) (by simp) (by simpa using hnd) (by simp)) ?_
  refine holds_go _ _ (cnt_s1 q e a u gT g5 g6 g7 w) trivial ?_
  refine holds_loop (CountI q e a u gT g5 g6 g7 w) 5 (by kernel_rfl) ⟨0, _, rfl, Nat.zero_le _, Nat.le_refl _, rfl⟩ ?_
  rintro m' _ ⟨k, z, hmk, hkq, hz, rfl⟩ J hJ
  refine holds_go _ _ (cnt_s2 q k e a u gT g5 g6 g7 z J) ⟨decide_eq_true (by omega), ⟨by omega, by omega⟩, trivial⟩ ?_
  refine holds_opR (dst := (some 16)) (x := Instr.loadAt 9 (.pointer (some ⟨gT, 0 + k * 1, none⟩))) (.string (tx5 k)) (by kernel_rfl) (by kernel_rfl) rfl (fun wx hm => ?_) ?_
  · exact run_loadV (P := Try.prog) wx 9 gT (0 + k * 1) 9 _ _ (by kernel_rfl) (hm.at_ 0 rfl) (tx5_at (by omega))
  refine holds_go _ _ (cnt_s4 q k e a u gT g5 g6 g7 z J) trivial ?_
  by_cases hk : q = k
  rotate_left
  · skip
    refine holds_go _ _ (cnt_s5 q k e a u gT g5 g6 g7 z J) ⟨tx5_ne (by omega) hq (fun e_ => hk e_.symm), in64 (by omega), trivial⟩ ?_
    exact hJ (m' - 1) _ (by omega) ⟨k + 1, z, by omega, by omega, by omega, by rw [cast_succ]⟩
  subst hk
  refine holds_go _ _ (cnt_s6 q e a u gT g5 g6 g7 z J) ⟨beq_self_eq_true _, ⟨by omega, by omega⟩, trivial⟩ ?_
  refine holds_opR (dst := (some 22)) (x := Instr.loadAt 3 (.pointer (some ⟨g6, 0 + (Int.toNat (q : Int)) * 1, none⟩))) (.int .i64 (u q)) (by kernel_rfl) (by kernel_rfl) rfl (fun wx hm => ?_) ?_
  · exact run_loadV (P := Try.prog) wx 3 g6 (0 + q * 1) 39 _ _ (by kernel_rfl) (hm.at_ 2 rfl) (by rw [intsU_at (by omega)])
  refine holds_go _ _ (cnt_s8 q e a u gT g5 g6 g7 z J) ⟨in64 (by omega), ⟨by omega, by omega⟩, trivial⟩ ?_
  refine holds_opS (x := Instr.storeAt 3 (.pointer (some ⟨g6, 0 + (Int.toNat (q : Int)) * 1, none⟩)) (.int .i64 ((u q) + e))) [⟨gT, 9, false, (cnt_v1)⟩, ⟨g5, 22, false, [.slice (some ⟨gT, 0, none⟩) 5 5]⟩, ⟨g6, 39, true, (intsU (addU u q e))⟩, ⟨g7, 3, true, [.int .i64 a]⟩] (by kernel_rfl) (by kernel_rfl) rfl (fun wx hm => ?_) (fun z9 hz9 => ?_)
  · exact store_u (P := Try.prog) (t := 3) (k := q) hm (i := 2) rfl hq (addU_at u q e).symm (by kernel_rfl)
  replace hz9 : z ≤ z9 := hz9
  refine holds_go _ _ (cnt_s10 q e a u gT g5 g6 g7 J z9) ⟨in64 (by omega), ⟨by omega, by omega⟩, trivial⟩ ?_
  refine holds_opR (dst := (some 31)) (x := Instr.loadAt 3 (.pointer (some ⟨g6, 0 + (Int.toNat (q : Int)) * 1, none⟩))) (.int .i64 (u q + e)) (by kernel_rfl) (by kernel_rfl) rfl (fun wx hm => ?_) ?_
  · exact run_loadV (P := Try.prog) wx 3 g6 (0 + q * 1) 39 _ _ (by kernel_rfl) (hm.at_ 2 rfl) (by rw [intsU_at (by omega)]; rw [addU_at])
  refine holds_go _ _ (cnt_s12 q e a u gT g5 g6 g7 J z9) trivial ?_
  refine holds_ret [] (by kernel_rfl) (cnt_r13 q e a u gT g5 g6 g7) ?_
  intro wx hm
  exact ⟨ret_bool (decide_eq_true (by rw [addU_at] at hpos; omega)), hm.at_ 2 rfl, hm.at_ 3 rfl, hm.kept⟩

end Go.Proofs.Ythndmmondlpghaa
