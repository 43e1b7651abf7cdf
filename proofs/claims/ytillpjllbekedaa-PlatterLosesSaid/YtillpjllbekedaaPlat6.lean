/- Layer 7's law: a sector of a number, Texts, the first calls. -/
import Derived.Test.YtillpjllbekedaaPlat5
import Derived.Test.YtillpjllbekedaaPick7
import Derived.Test.YtillpjllbekedaaRaw9
namespace Go.Proofs.Ytillpjllbekedaa
open Go.RowKit

/-- a number's sector -/
def secN (D : Int) : List Int := [D % 256, D / 256 % 256] ++ List.replicate 61 0 ++ [D / 3 % 256]
def sec7 (x : Int) : ByteArray := bytesI (secN (pickZ x 65536))
theorem secN_len (D : Int) : (secN D).length = 64 := by simp [secN]
theorem secN_byts (D : Int) : Byts (secN D) := by
  intro n hn
  simp only [secN, List.mem_append, List.mem_cons, List.not_mem_nil, or_false, List.mem_replicate] at hn
  rcases hn with ((rfl | rfl) | ⟨_, rfl⟩) | rfl <;> omega
theorem size_sec7 (x : Int) : (sec7 x).size = 64 := by rw [sec7, size_bytesI, secN_len]
theorem intsOf_sec7 (x : Int) : intsOf (sec7 x) = secN (pickZ x 65536) := intsOf_bytesI (secN_byts _)
def sct_v1 : List Value := [.int .u8 0, .int .u8 0, .int .u8 0, .int .u8 0, .int .u8 0, .int .u8 0, .int .u8 0, .int .u8 0, .int .u8 0, .int .u8 0, .int .u8 0, .int .u8 0, .int .u8 0, .int .u8 0, .int .u8 0, .int .u8 0, .int .u8 0, .int .u8 0, .int .u8 0, .int .u8 0, .int .u8 0, .int .u8 0, .int .u8 0, .int .u8 0, .int .u8 0, .int .u8 0, .int .u8 0, .int .u8 0, .int .u8 0, .int .u8 0, .int .u8 0, .int .u8 0, .int .u8 0, .int .u8 0, .int .u8 0, .int .u8 0, .int .u8 0, .int .u8 0, .int .u8 0, .int .u8 0, .int .u8 0, .int .u8 0, .int .u8 0, .int .u8 0, .int .u8 0, .int .u8 0, .int .u8 0, .int .u8 0, .int .u8 0, .int .u8 0, .int .u8 0, .int .u8 0, .int .u8 0, .int .u8 0, .int .u8 0, .int .u8 0, .int .u8 0, .int .u8 0, .int .u8 0, .int .u8 0, .int .u8 0, .int .u8 0, .int .u8 0, .int .u8 0]
def sct_v2 (D : Int) : List Value := [.int .u8 (D % 256), .int .u8 ((D / 256) % 256), .int .u8 0, .int .u8 0, .int .u8 0, .int .u8 0, .int .u8 0, .int .u8 0, .int .u8 0, .int .u8 0, .int .u8 0, .int .u8 0, .int .u8 0, .int .u8 0, .int .u8 0, .int .u8 0, .int .u8 0, .int .u8 0, .int .u8 0, .int .u8 0, .int .u8 0, .int .u8 0, .int .u8 0, .int .u8 0, .int .u8 0, .int .u8 0, .int .u8 0, .int .u8 0, .int .u8 0, .int .u8 0, .int .u8 0, .int .u8 0, .int .u8 0, .int .u8 0, .int .u8 0, .int .u8 0, .int .u8 0, .int .u8 0, .int .u8 0, .int .u8 0, .int .u8 0, .int .u8 0, .int .u8 0, .int .u8 0, .int .u8 0, .int .u8 0, .int .u8 0, .int .u8 0, .int .u8 0, .int .u8 0, .int .u8 0, .int .u8 0, .int .u8 0, .int .u8 0, .int .u8 0, .int .u8 0, .int .u8 0, .int .u8 0, .int .u8 0, .int .u8 0, .int .u8 0, .int .u8 0, .int .u8 0, .int .u8 ((D / 3) % 256)]
theorem sct_s1 (x : Int) (w : World) : Res.prune [0, 2, 3, 5] [] (exec Try.prog (bodyOf Try.f13) 23 15 [⟨false, 0, []⟩, ⟨false, 0, []⟩, ⟨false, 0, []⟩, ⟨false, 0, []⟩] [.code []] ⟨[(0, .int .i64 x)], [], [], w.heap.size⟩) = some ⟨[], dupR [], [.ops [1, 1, 0] [1, 2], .code [1, 1, 1]], ⟨[(0, .int .i64 x), (2, .string ⟨#[]⟩), (3, .slice (some ⟨w.heap.size, 0, none⟩) 64 64), (5, .int .i64 x)], [⟨w.heap.size, 5, true, (sct_v1)⟩], [], w.heap.size + 1⟩⟩ := by kernel_rfl
theorem sct_c2 (x : Int) (w : World) : callAt Try.prog (opsOf (getCode (bodyOf Try.f13) [1, 1, 0])) [(0, .int .i64 x), (2, .string ⟨#[]⟩), (3, .slice (some ⟨w.heap.size, 0, none⟩) 64 64), (5, .int .i64 x)] 1 = some (10, [.int .i64 x, .int .i64 65536], some 6, []) := by kernel_rfl
theorem sct_s3 (x : Int) (D : Int) (w : World) (z2 : Nat) : Res.prune [2, 21] [] (exec Try.prog (bodyOf Try.f13) 23 34 [⟨false, 0, []⟩, ⟨false, 0, []⟩, ⟨false, 0, []⟩, ⟨false, 2, []⟩, ⟨false, 1, []⟩, ⟨false, 0, [⟨false, 0, 0, 1⟩]⟩, ⟨false, 0, []⟩, ⟨false, 0, []⟩, ⟨false, 1, []⟩, ⟨false, 2, []⟩, ⟨false, 1, []⟩, ⟨false, 0, [⟨false, 0, 1, 1⟩]⟩, ⟨false, 0, []⟩, ⟨false, 0, []⟩, ⟨false, 1, []⟩, ⟨false, 2, []⟩, ⟨false, 1, []⟩, ⟨false, 0, [⟨false, 0, 63, 1⟩]⟩, ⟨false, 0, []⟩] [.ops [1, 1, 0] [2], .code [1, 1, 1]] ⟨[(6, .int .i64 D), (0, .int .i64 x), (2, .string ⟨#[]⟩), (3, .slice (some ⟨w.heap.size, 0, none⟩) 64 64), (5, .int .i64 x)], [⟨w.heap.size, 5, true, (sct_v1)⟩], [], z2⟩) = some ⟨[True, (0 : Int) ≤ 0 ∧ 0 < ((64 : Nat) : Int), (0 : Int) ≤ D ∧ (0 : Int) < 256 ∧ D ≤ IntKind.max .i64, True, (0 : Int) ≤ 1 ∧ 1 < ((64 : Nat) : Int), (0 : Int) ≤ D ∧ (0 : Int) < 3 ∧ D ≤ IntKind.max .i64, True, (0 : Int) ≤ 63 ∧ 63 < ((64 : Nat) : Int)], dupR [(w.heap.size, 0, 1), (w.heap.size, 1, 1), (w.heap.size, 63, 1)], [.ops [1, 1, 1, 1, 1, 1, 0] [1, 2], .code [1, 1, 1, 1, 1, 1, 1]], ⟨[(2, .string ⟨#[]⟩), (21, .slice (some ⟨w.heap.size, 0, none⟩) 64 64)], [⟨w.heap.size, 5, true, (sct_v2 D)⟩], [], z2⟩⟩ := by kernel_rfl
theorem sct_s5 (D : Int) (w : World) (z2 : Nat) : Res.prune [2] [] (exec Try.prog (bodyOf Try.f13) 23 5 [⟨false, 0, []⟩] [.ops [1, 1, 1, 1, 1, 1, 0] [2], .code [1, 1, 1, 1, 1, 1, 1]] ⟨[(22, .string (bytesI (secN D))), (2, .string ⟨#[]⟩), (21, .slice (some ⟨w.heap.size, 0, none⟩) 64 64)], [⟨w.heap.size, 5, true, (sct_v2 D)⟩], [], z2⟩) = some ⟨[], dupR [], [.code [1, 1, 1, 1, 1, 1, 1]], ⟨[(2, .string (bytesI (secN D)))], [⟨w.heap.size, 5, true, (sct_v2 D)⟩], [], z2⟩⟩ := by kernel_rfl
theorem sct_r6 (D : Int) (w : World) : resL Try.prog [] [⟨w.heap.size, 5, true, (sct_v2 D)⟩] [(2, .string (bytesI (secN D)))] Try.f13.results.toList [] = some ([.string (bytesI (secN D))], dupR []) := by kernel_rfl
set_option maxRecDepth 100000 in
set_option maxHeartbeats 4000000 in
theorem sector_any0 (x D : Int) (hx : I64 x) (hD : pickZ x 65536 = D) (hDb : 0 ≤ D ∧ D < 65536) (w : World) :
    Calls Try.prog 13 #[.int .i64 x] w (RetK (.string (sec7 x)) w) := by
  refine calls_of_holds (S := (fun _ => False)) (l := [.int .i64 x]) (n := 23) Try.func13 (body_of (by kernel_rfl)) rfl (by simp) (MemOk.none w _) ?_
  refine holds_go _ _ (sct_s1 x w) trivial ?_
  refine holds_callP (.int .i64 D) (sct_c2 x w) trivial rfl (fun wx hm => pick7 _ _ _ hD wx (by omega) (by omega) hx) fun z2 hz2 => ?_
  replace hz2 : w.heap.size + 1 ≤ z2 := hz2
  refine holds_go _ _ (sct_s3 x D w z2) ⟨trivial, ⟨by omega, by omega⟩, ⟨by omega, by omega, le_max64 (by omega)⟩, trivial, ⟨by omega, by omega⟩, ⟨by omega, by omega, le_max64 (by omega)⟩, trivial, ⟨by omega, by omega⟩, trivial⟩ ?_
  refine holds_opR (dst := (some 22)) (x := convert 30 9 (.slice (some ⟨w.heap.size, 0, none⟩) 64 64)) (.string (bytesI (secN D))) (by kernel_rfl) (by kernel_rfl) rfl (fun wx hm => ?_) ?_
  · exact run_bytesAt (P := Try.prog) wx 30 9 5 _ _ _ _ _ (secN D) [] [] (by kernel_rfl) (by kernel_rfl) (by kernel_rfl) (hm.at_ 0 rfl) rfl rfl (secN_byts D)
  refine holds_go _ _ (sct_s5 D w z2) trivial ?_
  refine holds_ret [] (by kernel_rfl) (sct_r6 D w) ?_
  intro wx hm
  exact ⟨by unfold sec7; rw [hD]; rfl, hm.kept⟩

theorem sector_any (x : Int) (hx : I64 x) (w : World) : Calls Try.prog 13 #[.int .i64 x] w (RetK (.string (sec7 x)) w) := sector_any0 x _ hx rfl (by have := pickZ_bd x 65536 (by omega); omega) w
theorem block_lt {w : World} {g o : Nat} {v : Value} (h : w.cell? ⟨g, o, none⟩ = some v) : g < w.heap.size := World.block_lt_of_cell? w _ h
theorem tx6_s1 (n : Nat) (ga : Nat) (gb : Nat) (cp : Nat) (cq : Nat) (w : World) : Res.prune [0, 1, 4, 5] [] (exec Try.prog (bodyOf Try.f21) 26 24 [⟨false, 0, []⟩, ⟨false, 0, []⟩, ⟨false, 0, []⟩, ⟨false, 0, []⟩, ⟨false, 0, []⟩, ⟨false, 0, []⟩, ⟨false, 0, []⟩, ⟨false, 0, []⟩] [.code []] ⟨[(0, .slice (some ⟨ga, 0, none⟩) n cp), (1, .slice (some ⟨gb, 0, none⟩) n cq)], [], [], w.heap.size⟩) = some ⟨[((n : Int) != (n : Int)) = false], dupR [], [.code [1, 1, 0, 1, 0], .blk 0, .code [1, 1, 1]], ⟨[(0, .slice (some ⟨ga, 0, none⟩) n cp), (1, .slice (some ⟨gb, 0, none⟩) n cq), (4, .bool false), (5, .int .i64 0)], [], [], w.heap.size⟩⟩ := by kernel_rfl
def Texts6I (ga gb cp cq n : Nat) (w : World) (m : Nat) (st : St) : Prop := ∃ (i z : Nat), m + i = n ∧ w.heap.size ≤ z ∧ st = ⟨[(0, .slice (some ⟨ga, 0, none⟩) n cp), (1, .slice (some ⟨gb, 0, none⟩) n cq), (4, .bool false), (5, .int .i64 (i : Int))], [], [], z⟩
theorem tx6_s2 (n : Nat) (i : Nat) (z : Nat) (ga : Nat) (gb : Nat) (cp : Nat) (cq : Nat) (J : Act → World → Prop) : Res.prune [4] [] (exec Try.prog (bodyOf Try.f21) 26 17 [⟨false, 0, []⟩, ⟨false, 0, []⟩, ⟨false, 0, []⟩, ⟨false, 0, []⟩, ⟨false, 0, []⟩, ⟨false, 0, []⟩] [.code [1, 1, 0, 1, 0, 0], .inv J, .blk 0, .code [1, 1, 1]] ⟨[(0, .slice (some ⟨ga, 0, none⟩) n cp), (1, .slice (some ⟨gb, 0, none⟩) n cq), (4, .bool false), (5, .int .i64 (i : Int))], [], [], z⟩) = some ⟨[(decide (((i : Int) : Int) < (n : Int))) = false], dupR [], [.code [1, 1, 1, 1]], ⟨[(4, .bool true)], [], [], z⟩⟩ := by kernel_rfl
theorem tx6_r3 : resL Try.prog [] [] [(4, .bool true)] Try.f21.results.toList [] = some ([.bool true], dupR []) := by kernel_rfl
theorem tx6_s4 (n : Nat) (i : Nat) (z : Nat) (ga : Nat) (gb : Nat) (cp : Nat) (cq : Nat) (fa : Nat → ByteArray) (J : Act → World → Prop) : Res.prune [0, 1, 4, 5] [] (exec Try.prog (bodyOf Try.f21) 26 16 [⟨false, 0, []⟩, ⟨false, 0, []⟩, ⟨false, 0, []⟩, ⟨false, 0, []⟩, ⟨true, 0, []⟩] [.code [1, 1, 0, 1, 0, 0], .inv J, .blk 0, .code [1, 1, 1]] ⟨[(0, .slice (some ⟨ga, 0, none⟩) n cp), (1, .slice (some ⟨gb, 0, none⟩) n cq), (4, .bool false), (5, .int .i64 (i : Int))], [], [⟨ga, 0 + i * 1, [.string (fa i)]⟩, ⟨gb, 0 + i * 1, [.string (fa i)]⟩], z⟩) = some ⟨[(decide (((i : Int) : Int) < (n : Int))) = true], dupR [], [.code [1, 1, 0, 1, 0, 0, 1, 0, 0, 0], .code [1, 1, 0, 1, 0, 0, 1, 0, 0, 1], .blk 1, .code [1, 1, 0, 1, 0, 0, 1, 1], .inv J, .blk 0, .code [1, 1, 1]], ⟨[(0, .slice (some ⟨ga, 0, none⟩) n cp), (1, .slice (some ⟨gb, 0, none⟩) n cq), (4, .bool false), (5, .int .i64 (i : Int))], [], [⟨ga, 0 + i * 1, [.string (fa i)]⟩, ⟨gb, 0 + i * 1, [.string (fa i)]⟩], z⟩⟩ := by kernel_rfl
theorem tx6_q5 (n : Nat) (i : Nat) (z : Nat) (ga : Nat) (gb : Nat) (cp : Nat) (cq : Nat) (fa : Nat → ByteArray) (w : World) : Out.prune [0, 1, 4, 5, 25] (qListG Try.prog 26 w (fun _ => False) (opsOf (getCode (bodyOf Try.f21) [1, 1, 0, 1, 0, 0, 1, 0, 0, 0])) (opsOf (getCode (bodyOf Try.f21) [1, 1, 0, 1, 0, 0, 1, 0, 0, 0])).toList ⟨[(0, .slice (some ⟨ga, 0, none⟩) n cp), (1, .slice (some ⟨gb, 0, none⟩) n cq), (4, .bool false), (5, .int .i64 (i : Int))], [], [⟨ga, 0 + i * 1, [.string (fa i)]⟩, ⟨gb, 0 + i * 1, [.string (fa i)]⟩], z⟩ [(false, .op ⟨false, 0, []⟩), (false, .op ⟨false, 0, []⟩), (false, .op ⟨false, 1, []⟩), (false, .op ⟨false, 0, [⟨true, 0, 0, 1⟩]⟩), (false, .op ⟨false, 0, []⟩), (false, .op ⟨false, 0, []⟩), (false, .op ⟨false, 1, []⟩), (false, .op ⟨false, 0, [⟨true, 1, 0, 1⟩]⟩), (false, .op ⟨false, 0, []⟩)]) = some ⟨[(0 : Int) ≤ (i : Int) ∧ (i : Int) < ((n : Nat) : Int), (0 : Int) ≤ (i : Int) ∧ (i : Int) < ((n : Nat) : Int)], dupR [(ga, 0 + i * 1, 1), (gb, 0 + i * 1, 1)], ⟨[(0, .slice (some ⟨ga, 0, none⟩) n cp), (1, .slice (some ⟨gb, 0, none⟩) n cq), (4, .bool false), (5, .int .i64 (i : Int)), (25, .bool (!(ByteArray.toList (fa i) == ByteArray.toList (fa i))))], [], [⟨ga, 0 + i * 1, [.string (fa i)]⟩, ⟨gb, 0 + i * 1, [.string (fa i)]⟩], z⟩⟩ := by kernel_rfl
theorem tx6_s6 (n : Nat) (i : Nat) (ga : Nat) (gb : Nat) (cp : Nat) (cq : Nat) (fa : Nat → ByteArray) (J : Act → World → Prop) (z5 : Nat) : Res.prune [0, 1, 4, 5] [] (exec Try.prog (bodyOf Try.f21) 26 11 [⟨false, 0, []⟩, ⟨false, 0, []⟩, ⟨false, 1, []⟩, ⟨false, 0, []⟩] [.code [1, 1, 0, 1, 0, 0, 1, 0, 0, 1], .blk 1, .code [1, 1, 0, 1, 0, 0, 1, 1], .inv J, .blk 0, .code [1, 1, 1]] ⟨[(0, .slice (some ⟨ga, 0, none⟩) n cp), (1, .slice (some ⟨gb, 0, none⟩) n cq), (4, .bool false), (5, .int .i64 (i : Int)), (25, .bool (!(ByteArray.toList (fa i) == ByteArray.toList (fa i))))], [], [⟨ga, 0 + i * 1, [.string (fa i)]⟩, ⟨gb, 0 + i * 1, [.string (fa i)]⟩], z5⟩) = some ⟨[(!(ByteArray.toList (fa i) == ByteArray.toList (fa i))) = false, inR .i64 (((i : Int) + 1))], dupR [], [.inv J, .blk 0, .code [1, 1, 1]], ⟨[(0, .slice (some ⟨ga, 0, none⟩) n cp), (1, .slice (some ⟨gb, 0, none⟩) n cq), (4, .bool false), (5, .int .i64 ((i : Int) + 1))], [], [⟨ga, 0 + i * 1, [.string (fa i)]⟩, ⟨gb, 0 + i * 1, [.string (fa i)]⟩], z5⟩⟩ := by kernel_rfl
set_option maxRecDepth 100000 in
set_option maxHeartbeats 4000000 in
theorem texts6_same (ga gb cp cq n : Nat) (hn : n ≤ 1048576) (fa : Nat → ByteArray) (w : World) (ha : ∀ i, i < n → w.cell? ⟨ga, 0 + i * 1, none⟩ = some (.string (fa i))) (hb : ∀ i, i < n → w.cell? ⟨gb, 0 + i * 1, none⟩ = some (.string (fa i))) :
    Calls Try.prog 21 #[.slice (some ⟨ga, 0, none⟩) n cp, .slice (some ⟨gb, 0, none⟩) n cq] w (RetK (.bool true) w) := by
  refine calls_of_holds (S := (fun _ => False)) (l := [.slice (some ⟨ga, 0, none⟩) n cp, .slice (some ⟨gb, 0, none⟩) n cq]) (n := 26) Try.func21 (body_of (by kernel_rfl)) rfl (by simp) (MemOk.none w _) ?_
  refine holds_go _ _ (tx6_s1 n ga gb cp cq w) ⟨by simp, trivial⟩ ?_
  refine holds_loop (Texts6I ga gb cp cq n w) n (by kernel_rfl) ⟨0, _, rfl, Nat.le_refl _, rfl⟩ ?_
  rintro m' _ ⟨i, z, hmi, hz, rfl⟩ J hJ
  by_cases h1 : i < n
  rotate_left
  · skip
    refine holds_go _ _ (tx6_s2 n i z ga gb cp cq J) ⟨decide_eq_false (by omega), trivial⟩ ?_
    refine holds_ret [] (by kernel_rfl) (tx6_r3) ?_
    intro wx hm
    exact ⟨rfl, hm.kept⟩
  refine holds_wins [⟨ga, 0 + i * 1, [.string (fa i)]⟩, ⟨gb, 0 + i * 1, [.string (fa i)]⟩] (fun _ x hx => ?_) ?_
  · have h2 := ha i h1
    have h3 := hb i h1
    simp only [List.mem_cons, List.not_mem_nil, or_false] at hx
    rcases hx with rfl | rfl
    · refine ⟨id, block_lt h2, fun j v hj => ?_⟩
      match j, hj with
      | 0, hj =>
        simp only [List.getElem?_cons_zero, Option.some.injEq] at hj
        subst hj
        exact h2
      | j + 1, hj => simp at hj
    · refine ⟨id, block_lt h3, fun j v hj => ?_⟩
      match j, hj with
      | 0, hj =>
        simp only [List.getElem?_cons_zero, Option.some.injEq] at hj
        subst hj
        exact h3
      | j + 1, hj => simp at hj
  refine holds_go _ _ (tx6_s4 n i z ga gb cp cq fa J) ⟨decide_eq_true (by omega), trivial⟩ ?_
  refine holds_quietG _ _ (by kernel_rfl) (by kernel_rfl) (by kernel_rfl) (tx6_q5 n i z ga gb cp cq fa w) ⟨⟨by omega, by omega⟩, ⟨by omega, by omega⟩, trivial⟩ fun z5 hz5 => ?_
  replace hz5 : z ≤ z5 := hz5
  refine holds_go _ _ (tx6_s6 n i ga gb cp cq fa J z5) ⟨(by rw [beq_self_eq_true _]; rfl), in64 (by omega), trivial⟩ ?_
  refine holds_wins [] (fun _ _ h => by cases h) ?_
  refine holds_prune [0, 1, 4, 5] [] ?_
  exact hJ (m' - 1) _ (by omega) ⟨i + 1, z5, by omega, by omega, by rw [cast_succ]; rfl⟩

theorem pnb_s1 (w : World) : Res.prune [0, 2, 3] [] (exec Try.prog (bodyOf Try.f9) 15 24 [⟨false, 0, []⟩, ⟨false, 0, []⟩, ⟨false, 0, []⟩, ⟨false, 0, []⟩, ⟨false, 0, []⟩, ⟨false, 0, []⟩, ⟨false, 0, []⟩, ⟨false, 3, []⟩, ⟨true, 0, []⟩, ⟨false, 0, []⟩, ⟨false, 0, []⟩] [.code []] ⟨[(0, .int .i64 65)], [], [], w.heap.size⟩) = some ⟨[false = false, false = false, false = false, true = true], dupR [], [.code [1, 0, 1, 0, 1], .code [1, 1]], ⟨[(0, .int .i64 65), (2, .pointer none), (3, .int .i64 1)], [], [], w.heap.size⟩⟩ := by kernel_rfl
theorem pnb_r2 : resL Try.prog [] [] [(0, .int .i64 65), (2, .pointer none), (3, .int .i64 1)] Try.f9.results.toList [] = some ([.pointer none, .int .i64 1], dupR []) := by kernel_rfl
set_option maxRecDepth 100000 in
set_option maxHeartbeats 4000000 in
theorem new_bad  (w : World) :
    Calls Try.prog 9 #[.int .i64 65] w (RetK (.tuple #[.pointer none, .int .i64 1]) w) := by
  refine calls_of_holds (S := (fun _ => False)) (l := [.int .i64 65]) (n := 15) Try.func9 (body_of (by kernel_rfl)) rfl (by simp) (MemOk.none w _) ?_
  refine holds_go _ _ (pnb_s1 w) ⟨rfl, rfl, rfl, rfl, trivial⟩ ?_
  refine holds_ret [] (by kernel_rfl) (pnb_r2) ?_
  intro wx hm
  exact ⟨rfl, hm.kept⟩

theorem write_on {M : Pl} (ho : M.off = false) (ha : M.armed = 0) (k : Int) (L : List Int) : writePl M k L = { M with cs := (putC M.cs M.ck k L).1, ck := (putC M.cs M.ck k L).2, acts := M.acts + 1 } := by
  obtain ⟨lb, mb, n, last, cs, ck, off, a, c⟩ := M
  dsimp only at ho ha
  subst ho ha
  rfl
theorem flush_on {M : Pl} (ho : M.off = false) (ha : M.armed = 0) : flushPl M = { M with last := ovl M.last M.cs, cs := [], acts := M.acts + 1 } := by
  obtain ⟨lb, mb, n, last, cs, ck, off, a, c⟩ := M
  dsimp only at ho ha
  subst ho ha
  rfl
theorem goes_on {M : Pl} (ho : M.off = false) (ha : M.armed = 0) : M.goes = true := by simp [Pl.goes, ho, ha]
theorem read_ext {M M' : Pl} (h1 : M'.cs = M.cs) (h2 : M'.last = M.last) (j : Int) : readPl M' j = readPl M j := by
  unfold readPl
  rw [h1, h2]
theorem read_put {M : Pl} (hn : (M.cs.map (·.k)).Nodup) {M' : Pl} (k : Int) (L : List Int) (h1 : M'.cs = (putC M.cs M.ck k L).1) (h2 : M'.last = M.last) (j : Int) : readPl M' j = if j = k then L else readPl M j := by
  unfold readPl
  rw [h1, h2, putC_val hn]
  split <;> rfl
theorem read_ovl {M M' : Pl} (h1 : M'.cs = []) (h2 : M'.last = ovl M.last M.cs) {j : Int} (hj : 0 ≤ j ∧ j < (M.last.length : Int)) : readPl M' j = readPl M j := by
  unfold readPl
  have hlt : j.toNat < M.last.length := by omega
  rw [h1, h2, ovl_get, List.getElem?_eq_getElem hlt]
  have e : ((j.toNat : Nat) : Int) = j := by omega
  rw [Option.map_some, e]
  rfl
/-- the platter of the first calls, step by step -/
def aw0 (lb mb : Nat) : Pl := newPl lb mb 2
def aw1 (lb mb : Nat) : Pl := writePl (aw0 lb mb) 0 (intsOf (sec7 1))
def aw2 (lb mb : Nat) : Pl := flushPl (aw1 lb mb)
def aw3 (lb mb : Nat) : Pl := writePl (aw2 lb mb) 0 (intsOf (sec7 2))
def aw4 (lb mb : Nat) : Pl := writePl (aw3 lb mb) 1 (intsOf (sec7 3))
def aw5 (lb mb : Nat) : Pl := restartPl (aw4 lb mb) (keepB 2 (fun i => ⟨(i : Int)⟩))
def aw6 (lb mb : Nat) : Pl := armPl (aw5 lb mb) 1
def aw7 (lb mb : Nat) : Pl := writePl (aw6 lb mb) 0 (intsOf (sec7 4))
def c2 : CE := ⟨0, intsOf (sec7 2), 1⟩
def c3 : CE := ⟨1, intsOf (sec7 3), 2⟩
theorem awE4 (lb mb : Nat) : aw4 lb mb = ⟨lb, mb, 2, ovl (EMPTY 2) [⟨0, intsOf (sec7 1), 0⟩], [c2, c3], 3, false, 4, 0⟩ := rfl
theorem keptC_two : keptC [c2, c3] (keepB 2 (fun i => ⟨(i : Int)⟩)) 2 = [c3] := by
  have hs : sortI ([c2, c3].map (·.k)) = [0, 1] := by
    show List.mergeSort [(0 : Int), 1] _ = [0, 1]
    exact List.mergeSort_of_pairwise (by simp)
  have e0 : ([0, 1] : List Int).idxOf c2.k = 0 := by decide
  have e1 : ([0, 1] : List Int).idxOf c3.k = 1 := by decide
  have k0 : keepB 2 (fun i => ⟨(i : Int)⟩) 0 = false := by decide
  have k1 : keepB 2 (fun i => ⟨(i : Int)⟩) 1 = true := by decide
  unfold keptC
  rw [hs]
  simp only [List.filter_cons, List.filter_nil, e0, e1, k0, k1]
  rfl
theorem awE5 (lb mb : Nat) : aw5 lb mb = ⟨lb, mb, 2, ovl (ovl (EMPTY 2) [⟨0, intsOf (sec7 1), 0⟩]) [c3], [], 3, false, 4, 0⟩ := by
  show restartPl (aw4 lb mb) _ = _
  rw [awE4]
  unfold restartPl
  dsimp only [List.length_cons, List.length_nil]
  rw [keptC_two]
theorem aw_read0 (lb mb : Nat) : bytesI (readPl (aw5 lb mb) 0) = sec7 1 := by
  have h : readPl (aw5 lb mb) 0 = intsOf (sec7 1) := by
    rw [awE5]
    rfl
  rw [h, bytesI_intsOf]
theorem aw_read1 (lb mb : Nat) : bytesI (readPl (aw5 lb mb) 1) = sec7 3 := by
  have h : readPl (aw5 lb mb) 1 = intsOf (sec7 3) := by
    rw [awE5]
    rfl
  rw [h, bytesI_intsOf]
theorem awE6 (lb mb : Nat) : aw6 lb mb = ⟨lb, mb, 2, ovl (ovl (EMPTY 2) [⟨0, intsOf (sec7 1), 0⟩]) [c3], [], 3, false, 4, 1⟩ := by
  show armPl (aw5 lb mb) 1 = _
  rw [awE5]
  rfl
theorem awE7 (lb mb : Nat) : aw7 lb mb = ⟨lb, mb, 2, ovl (ovl (EMPTY 2) [⟨0, intsOf (sec7 1), 0⟩]) [c3], [], 3, true, 5, 0⟩ := by
  show writePl (aw6 lb mb) 0 _ = _
  rw [awE6]
  rfl
theorem awk_s1 (w : World) : Res.prune [0] [] (exec Try.prog (bodyOf Try.f8) 78 9 [⟨false, 0, []⟩] [.code []] ⟨[], [], [], w.heap.size⟩) = some ⟨[], dupR [], [.ops [1, 0] [0, 1, 2, 3, 4, 5], .code [1, 1]], ⟨[(0, .bool false)], [], [], w.heap.size⟩⟩ := by kernel_rfl
theorem awk_c2 : callAt Try.prog (opsOf (getCode (bodyOf Try.f8) [1, 0])) [(0, .bool false)] 0 = some (9, [.int .i64 2], some 11, []) := by kernel_rfl
theorem awk_s3 (pb : Nat) (W1 : World) : Res.prune [0, 1, 20] [] (exec Try.prog (bodyOf Try.f8) 78 24 [⟨false, 0, []⟩, ⟨false, 0, []⟩, ⟨false, 0, []⟩, ⟨false, 0, []⟩, ⟨false, 0, []⟩, ⟨false, 0, []⟩, ⟨false, 0, []⟩, ⟨false, 0, []⟩, ⟨false, 0, []⟩, ⟨false, 0, []⟩, ⟨false, 3, []⟩, ⟨false, 0, []⟩, ⟨false, 0, []⟩] [.ops [1, 0] [1, 2, 3, 4, 5], .code [1, 1]] ⟨[(11, .tuple #[.pointer (some ⟨pb, 0, none⟩), .int .i64 0]), (0, .bool false)], [], [], W1.heap.size⟩) = some ⟨[false = false, false = false, false = false, false = false], dupR [], [.ops [1, 1, 1, 0] [1, 2], .code [1, 1, 1, 1]], ⟨[(0, .bool false), (1, .pointer (some ⟨pb, 0, none⟩)), (20, .pointer (some ⟨pb, 0, none⟩))], [], [], W1.heap.size⟩⟩ := by kernel_rfl
theorem awk_c4 (pb : Nat) : callAt Try.prog (opsOf (getCode (bodyOf Try.f8) [1, 1, 1, 0])) [(0, .bool false), (1, .pointer (some ⟨pb, 0, none⟩)), (20, .pointer (some ⟨pb, 0, none⟩))] 1 = some (13, [.int .i64 1], some 21, []) := by kernel_rfl
theorem awk_s5 (pb : Nat) (z4 : Nat) : Res.prune [0, 1, 20, 21] [] (exec Try.prog (bodyOf Try.f8) 78 3 [] [.ops [1, 1, 1, 0] [2], .code [1, 1, 1, 1]] ⟨[(21, .string (sec7 1)), (0, .bool false), (1, .pointer (some ⟨pb, 0, none⟩)), (20, .pointer (some ⟨pb, 0, none⟩))], [], [], z4⟩) = some ⟨[], dupR [], [.ops [1, 1, 1, 0] [2], .code [1, 1, 1, 1]], ⟨[(0, .bool false), (1, .pointer (some ⟨pb, 0, none⟩)), (20, .pointer (some ⟨pb, 0, none⟩)), (21, .string (sec7 1))], [], [], z4⟩⟩ := by kernel_rfl
theorem awk_c6 (pb : Nat) : callAt Try.prog (opsOf (getCode (bodyOf Try.f8) [1, 1, 1, 0])) [(0, .bool false), (1, .pointer (some ⟨pb, 0, none⟩)), (20, .pointer (some ⟨pb, 0, none⟩)), (21, .string (sec7 1))] 2 = some (12, [.pointer (some ⟨pb, 0, none⟩), .int .i64 0, .string (sec7 1)], some 22, []) := by kernel_rfl
theorem awk_s7 (pb : Nat) (W2 : World) : Res.prune [0, 1, 23] [] (exec Try.prog (bodyOf Try.f8) 78 7 [⟨false, 0, []⟩] [.ops [1, 1, 1, 0] [], .code [1, 1, 1, 1]] ⟨[(22, .int .i64 0), (0, .bool false), (1, .pointer (some ⟨pb, 0, none⟩)), (20, .pointer (some ⟨pb, 0, none⟩)), (21, .string (sec7 1))], [], [], W2.heap.size⟩) = some ⟨[], dupR [], [.ops [1, 1, 1, 1, 0] [1], .code [1, 1, 1, 1, 1]], ⟨[(0, .bool false), (1, .pointer (some ⟨pb, 0, none⟩)), (23, .pointer (some ⟨pb, 0, none⟩))], [], [], W2.heap.size⟩⟩ := by kernel_rfl
theorem awk_c8 (pb : Nat) : callAt Try.prog (opsOf (getCode (bodyOf Try.f8) [1, 1, 1, 1, 0])) [(0, .bool false), (1, .pointer (some ⟨pb, 0, none⟩)), (23, .pointer (some ⟨pb, 0, none⟩))] 1 = some (14, [.pointer (some ⟨pb, 0, none⟩)], some 24, []) := by kernel_rfl
theorem awk_s9 (pb : Nat) (W3 : World) : Res.prune [0, 1, 25] [] (exec Try.prog (bodyOf Try.f8) 78 7 [⟨false, 0, []⟩] [.ops [1, 1, 1, 1, 0] [], .code [1, 1, 1, 1, 1]] ⟨[(24, .int .i64 0), (0, .bool false), (1, .pointer (some ⟨pb, 0, none⟩)), (23, .pointer (some ⟨pb, 0, none⟩))], [], [], W3.heap.size⟩) = some ⟨[], dupR [], [.ops [1, 1, 1, 1, 1, 0] [1, 2], .code [1, 1, 1, 1, 1, 1]], ⟨[(0, .bool false), (1, .pointer (some ⟨pb, 0, none⟩)), (25, .pointer (some ⟨pb, 0, none⟩))], [], [], W3.heap.size⟩⟩ := by kernel_rfl
theorem awk_c10 (pb : Nat) : callAt Try.prog (opsOf (getCode (bodyOf Try.f8) [1, 1, 1, 1, 1, 0])) [(0, .bool false), (1, .pointer (some ⟨pb, 0, none⟩)), (25, .pointer (some ⟨pb, 0, none⟩))] 1 = some (13, [.int .i64 2], some 26, []) := by kernel_rfl
theorem awk_s11 (pb : Nat) (z10 : Nat) : Res.prune [0, 1, 25, 26] [] (exec Try.prog (bodyOf Try.f8) 78 3 [] [.ops [1, 1, 1, 1, 1, 0] [2], .code [1, 1, 1, 1, 1, 1]] ⟨[(26, .string (sec7 2)), (0, .bool false), (1, .pointer (some ⟨pb, 0, none⟩)), (25, .pointer (some ⟨pb, 0, none⟩))], [], [], z10⟩) = some ⟨[], dupR [], [.ops [1, 1, 1, 1, 1, 0] [2], .code [1, 1, 1, 1, 1, 1]], ⟨[(0, .bool false), (1, .pointer (some ⟨pb, 0, none⟩)), (25, .pointer (some ⟨pb, 0, none⟩)), (26, .string (sec7 2))], [], [], z10⟩⟩ := by kernel_rfl
theorem awk_c12 (pb : Nat) : callAt Try.prog (opsOf (getCode (bodyOf Try.f8) [1, 1, 1, 1, 1, 0])) [(0, .bool false), (1, .pointer (some ⟨pb, 0, none⟩)), (25, .pointer (some ⟨pb, 0, none⟩)), (26, .string (sec7 2))] 2 = some (12, [.pointer (some ⟨pb, 0, none⟩), .int .i64 0, .string (sec7 2)], some 27, []) := by kernel_rfl
theorem awk_s13 (pb : Nat) (W4 : World) : Res.prune [0, 1, 28] [] (exec Try.prog (bodyOf Try.f8) 78 7 [⟨false, 0, []⟩] [.ops [1, 1, 1, 1, 1, 0] [], .code [1, 1, 1, 1, 1, 1]] ⟨[(27, .int .i64 0), (0, .bool false), (1, .pointer (some ⟨pb, 0, none⟩)), (25, .pointer (some ⟨pb, 0, none⟩)), (26, .string (sec7 2))], [], [], W4.heap.size⟩) = some ⟨[], dupR [], [.ops [1, 1, 1, 1, 1, 1, 0] [1, 2], .code [1, 1, 1, 1, 1, 1, 1]], ⟨[(0, .bool false), (1, .pointer (some ⟨pb, 0, none⟩)), (28, .pointer (some ⟨pb, 0, none⟩))], [], [], W4.heap.size⟩⟩ := by kernel_rfl
theorem awk_c14 (pb : Nat) : callAt Try.prog (opsOf (getCode (bodyOf Try.f8) [1, 1, 1, 1, 1, 1, 0])) [(0, .bool false), (1, .pointer (some ⟨pb, 0, none⟩)), (28, .pointer (some ⟨pb, 0, none⟩))] 1 = some (13, [.int .i64 3], some 29, []) := by kernel_rfl
theorem awk_s15 (pb : Nat) (z14 : Nat) : Res.prune [0, 1, 28, 29] [] (exec Try.prog (bodyOf Try.f8) 78 3 [] [.ops [1, 1, 1, 1, 1, 1, 0] [2], .code [1, 1, 1, 1, 1, 1, 1]] ⟨[(29, .string (sec7 3)), (0, .bool false), (1, .pointer (some ⟨pb, 0, none⟩)), (28, .pointer (some ⟨pb, 0, none⟩))], [], [], z14⟩) = some ⟨[], dupR [], [.ops [1, 1, 1, 1, 1, 1, 0] [2], .code [1, 1, 1, 1, 1, 1, 1]], ⟨[(0, .bool false), (1, .pointer (some ⟨pb, 0, none⟩)), (28, .pointer (some ⟨pb, 0, none⟩)), (29, .string (sec7 3))], [], [], z14⟩⟩ := by kernel_rfl
theorem awk_c16 (pb : Nat) : callAt Try.prog (opsOf (getCode (bodyOf Try.f8) [1, 1, 1, 1, 1, 1, 0])) [(0, .bool false), (1, .pointer (some ⟨pb, 0, none⟩)), (28, .pointer (some ⟨pb, 0, none⟩)), (29, .string (sec7 3))] 2 = some (12, [.pointer (some ⟨pb, 0, none⟩), .int .i64 1, .string (sec7 3)], some 30, []) := by kernel_rfl
theorem awk_s17 (pb : Nat) (W5 : World) : Res.prune [0, 1, 31, 32] [] (exec Try.prog (bodyOf Try.f8) 78 8 [⟨false, 0, []⟩, ⟨false, 0, []⟩] [.ops [1, 1, 1, 1, 1, 1, 0] [], .code [1, 1, 1, 1, 1, 1, 1]] ⟨[(30, .int .i64 0), (0, .bool false), (1, .pointer (some ⟨pb, 0, none⟩)), (28, .pointer (some ⟨pb, 0, none⟩)), (29, .string (sec7 3))], [], [], W5.heap.size⟩) = some ⟨[], dupR [], [.ops [1, 1, 1, 1, 1, 1, 1, 0] [2], .code [1, 1, 1, 1, 1, 1, 1, 1]], ⟨[(0, .bool false), (1, .pointer (some ⟨pb, 0, none⟩)), (31, .pointer (some ⟨pb, 0, none⟩)), (32, .slice (some ⟨W5.heap.size, 0, none⟩) 2 2)], [⟨W5.heap.size, 3, true, [.int .i64 0, .int .i64 1]⟩], [], W5.heap.size + 1⟩⟩ := by kernel_rfl
theorem awk_c18 (pb : Nat) (W5 : World) : callAt Try.prog (opsOf (getCode (bodyOf Try.f8) [1, 1, 1, 1, 1, 1, 1, 0])) [(0, .bool false), (1, .pointer (some ⟨pb, 0, none⟩)), (31, .pointer (some ⟨pb, 0, none⟩)), (32, .slice (some ⟨W5.heap.size, 0, none⟩) 2 2)] 2 = some (16, [.pointer (some ⟨pb, 0, none⟩), .slice (some ⟨W5.heap.size, 0, none⟩) 2 2], some 33, []) := by kernel_rfl
theorem awk_s19 (pb : Nat) (W5 : World) (W6 : World) : Res.prune [0, 1, 35] [] (exec Try.prog (bodyOf Try.f8) 78 7 [⟨false, 0, []⟩] [.ops [1, 1, 1, 1, 1, 1, 1, 0] [], .code [1, 1, 1, 1, 1, 1, 1, 1]] ⟨[(33, .tuple #[]), (0, .bool false), (1, .pointer (some ⟨pb, 0, none⟩)), (31, .pointer (some ⟨pb, 0, none⟩)), (32, .slice (some ⟨W5.heap.size, 0, none⟩) 2 2)], [⟨W5.heap.size, 3, true, [.int .i64 0, .int .i64 1]⟩], [], W6.heap.size⟩) = some ⟨[], dupR [], [.ops [1, 1, 1, 1, 1, 1, 1, 1, 0] [1, 2, 3, 4, 5, 6], .code [1, 1, 1, 1, 1, 1, 1, 1, 1]], ⟨[(0, .bool false), (1, .pointer (some ⟨pb, 0, none⟩)), (35, .pointer (some ⟨pb, 0, none⟩))], [⟨W5.heap.size, 3, true, [.int .i64 0, .int .i64 1]⟩], [], W6.heap.size⟩⟩ := by kernel_rfl
theorem awk_c20 (pb : Nat) : callAt Try.prog (opsOf (getCode (bodyOf Try.f8) [1, 1, 1, 1, 1, 1, 1, 1, 0])) [(0, .bool false), (1, .pointer (some ⟨pb, 0, none⟩)), (35, .pointer (some ⟨pb, 0, none⟩))] 1 = some (17, [.pointer (some ⟨pb, 0, none⟩), .int .i64 0], some 36, []) := by kernel_rfl
theorem awk_s21 (pb : Nat) (W5 : World) (z20 : Nat) : Res.prune [0, 1, 3, 40] [] (exec Try.prog (bodyOf Try.f8) 78 12 [⟨false, 0, []⟩, ⟨false, 0, []⟩, ⟨false, 0, []⟩, ⟨false, 0, []⟩, ⟨false, 0, []⟩, ⟨false, 0, []⟩] [.ops [1, 1, 1, 1, 1, 1, 1, 1, 0] [2, 3, 4, 5, 6], .code [1, 1, 1, 1, 1, 1, 1, 1, 1]] ⟨[(36, .tuple #[.string (sec7 1), .int .i64 0]), (0, .bool false), (1, .pointer (some ⟨pb, 0, none⟩)), (35, .pointer (some ⟨pb, 0, none⟩))], [⟨W5.heap.size, 3, true, [.int .i64 0, .int .i64 1]⟩], [], z20⟩) = some ⟨[], dupR [], [.ops [1, 1, 1, 1, 1, 1, 1, 1, 1, 0] [1, 2, 3, 4, 5, 6], .code [1, 1, 1, 1, 1, 1, 1, 1, 1, 1]], ⟨[(0, .bool false), (1, .pointer (some ⟨pb, 0, none⟩)), (3, .string (sec7 1)), (40, .pointer (some ⟨pb, 0, none⟩))], [⟨W5.heap.size, 3, true, [.int .i64 0, .int .i64 1]⟩], [], z20⟩⟩ := by kernel_rfl
theorem awk_c22 (pb : Nat) : callAt Try.prog (opsOf (getCode (bodyOf Try.f8) [1, 1, 1, 1, 1, 1, 1, 1, 1, 0])) [(0, .bool false), (1, .pointer (some ⟨pb, 0, none⟩)), (3, .string (sec7 1)), (40, .pointer (some ⟨pb, 0, none⟩))] 1 = some (17, [.pointer (some ⟨pb, 0, none⟩), .int .i64 1], some 41, []) := by kernel_rfl
theorem awk_s23 (pb : Nat) (W5 : World) (z22 : Nat) : Res.prune [0, 1, 3, 5, 44] [] (exec Try.prog (bodyOf Try.f8) 78 12 [⟨false, 0, []⟩, ⟨false, 0, []⟩, ⟨false, 0, []⟩, ⟨false, 0, []⟩, ⟨false, 0, []⟩, ⟨false, 0, []⟩] [.ops [1, 1, 1, 1, 1, 1, 1, 1, 1, 0] [2, 3, 4, 5, 6], .code [1, 1, 1, 1, 1, 1, 1, 1, 1, 1]] ⟨[(41, .tuple #[.string (sec7 3), .int .i64 0]), (0, .bool false), (1, .pointer (some ⟨pb, 0, none⟩)), (3, .string (sec7 1)), (40, .pointer (some ⟨pb, 0, none⟩))], [⟨W5.heap.size, 3, true, [.int .i64 0, .int .i64 1]⟩], [], z22⟩) = some ⟨[], dupR [], [.ops [1, 1, 1, 1, 1, 1, 1, 1, 1, 1, 0] [1], .code [1, 1, 1, 1, 1, 1, 1, 1, 1, 1, 1]], ⟨[(0, .bool false), (1, .pointer (some ⟨pb, 0, none⟩)), (3, .string (sec7 1)), (5, .string (sec7 3)), (44, .pointer (some ⟨pb, 0, none⟩))], [⟨W5.heap.size, 3, true, [.int .i64 0, .int .i64 1]⟩], [], z22⟩⟩ := by kernel_rfl
theorem awk_c24 (pb : Nat) : callAt Try.prog (opsOf (getCode (bodyOf Try.f8) [1, 1, 1, 1, 1, 1, 1, 1, 1, 1, 0])) [(0, .bool false), (1, .pointer (some ⟨pb, 0, none⟩)), (3, .string (sec7 1)), (5, .string (sec7 3)), (44, .pointer (some ⟨pb, 0, none⟩))] 1 = some (11, [.pointer (some ⟨pb, 0, none⟩), .int .i64 1], some 45, []) := by kernel_rfl
theorem awk_s25 (pb : Nat) (W5 : World) (W7 : World) : Res.prune [0, 1, 3, 5, 46] [] (exec Try.prog (bodyOf Try.f8) 78 7 [⟨false, 0, []⟩] [.ops [1, 1, 1, 1, 1, 1, 1, 1, 1, 1, 0] [], .code [1, 1, 1, 1, 1, 1, 1, 1, 1, 1, 1]] ⟨[(45, .int .i64 0), (0, .bool false), (1, .pointer (some ⟨pb, 0, none⟩)), (3, .string (sec7 1)), (5, .string (sec7 3)), (44, .pointer (some ⟨pb, 0, none⟩))], [⟨W5.heap.size, 3, true, [.int .i64 0, .int .i64 1]⟩], [], W7.heap.size⟩) = some ⟨[], dupR [], [.ops [1, 1, 1, 1, 1, 1, 1, 1, 1, 1, 1, 0] [1, 2, 3], .code [1, 1, 1, 1, 1, 1, 1, 1, 1, 1, 1, 1]], ⟨[(0, .bool false), (1, .pointer (some ⟨pb, 0, none⟩)), (3, .string (sec7 1)), (5, .string (sec7 3)), (46, .pointer (some ⟨pb, 0, none⟩))], [⟨W5.heap.size, 3, true, [.int .i64 0, .int .i64 1]⟩], [], W7.heap.size⟩⟩ := by kernel_rfl
theorem awk_c26 (pb : Nat) : callAt Try.prog (opsOf (getCode (bodyOf Try.f8) [1, 1, 1, 1, 1, 1, 1, 1, 1, 1, 1, 0])) [(0, .bool false), (1, .pointer (some ⟨pb, 0, none⟩)), (3, .string (sec7 1)), (5, .string (sec7 3)), (46, .pointer (some ⟨pb, 0, none⟩))] 1 = some (13, [.int .i64 4], some 47, []) := by kernel_rfl
theorem awk_s27 (pb : Nat) (W5 : World) (z26 : Nat) : Res.prune [0, 1, 3, 5, 46, 47] [] (exec Try.prog (bodyOf Try.f8) 78 3 [] [.ops [1, 1, 1, 1, 1, 1, 1, 1, 1, 1, 1, 0] [2, 3], .code [1, 1, 1, 1, 1, 1, 1, 1, 1, 1, 1, 1]] ⟨[(47, .string (sec7 4)), (0, .bool false), (1, .pointer (some ⟨pb, 0, none⟩)), (3, .string (sec7 1)), (5, .string (sec7 3)), (46, .pointer (some ⟨pb, 0, none⟩))], [⟨W5.heap.size, 3, true, [.int .i64 0, .int .i64 1]⟩], [], z26⟩) = some ⟨[], dupR [], [.ops [1, 1, 1, 1, 1, 1, 1, 1, 1, 1, 1, 0] [2, 3], .code [1, 1, 1, 1, 1, 1, 1, 1, 1, 1, 1, 1]], ⟨[(0, .bool false), (1, .pointer (some ⟨pb, 0, none⟩)), (3, .string (sec7 1)), (5, .string (sec7 3)), (46, .pointer (some ⟨pb, 0, none⟩)), (47, .string (sec7 4))], [⟨W5.heap.size, 3, true, [.int .i64 0, .int .i64 1]⟩], [], z26⟩⟩ := by kernel_rfl
theorem awk_c28 (pb : Nat) : callAt Try.prog (opsOf (getCode (bodyOf Try.f8) [1, 1, 1, 1, 1, 1, 1, 1, 1, 1, 1, 0])) [(0, .bool false), (1, .pointer (some ⟨pb, 0, none⟩)), (3, .string (sec7 1)), (5, .string (sec7 3)), (46, .pointer (some ⟨pb, 0, none⟩)), (47, .string (sec7 4))] 2 = some (12, [.pointer (some ⟨pb, 0, none⟩), .int .i64 0, .string (sec7 4)], some 48, []) := by kernel_rfl
theorem awk_s29 (pb : Nat) (W5 : World) (W8 : World) : Res.prune [0, 1, 3, 5, 7] [] (exec Try.prog (bodyOf Try.f8) 78 7 [⟨false, 0, []⟩] [.ops [1, 1, 1, 1, 1, 1, 1, 1, 1, 1, 1, 0] [3], .code [1, 1, 1, 1, 1, 1, 1, 1, 1, 1, 1, 1]] ⟨[(48, .int .i64 70), (0, .bool false), (1, .pointer (some ⟨pb, 0, none⟩)), (3, .string (sec7 1)), (5, .string (sec7 3)), (46, .pointer (some ⟨pb, 0, none⟩)), (47, .string (sec7 4))], [⟨W5.heap.size, 3, true, [.int .i64 0, .int .i64 1]⟩], [], W8.heap.size⟩) = some ⟨[], dupR [], [.ops [1, 1, 1, 1, 1, 1, 1, 1, 1, 1, 1, 1, 0] [0, 1, 2, 3, 4, 5], .code [1, 1, 1, 1, 1, 1, 1, 1, 1, 1, 1, 1, 1]], ⟨[(0, .bool false), (1, .pointer (some ⟨pb, 0, none⟩)), (3, .string (sec7 1)), (5, .string (sec7 3)), (7, .int .i64 70)], [⟨W5.heap.size, 3, true, [.int .i64 0, .int .i64 1]⟩], [], W8.heap.size⟩⟩ := by kernel_rfl
theorem awk_c30 (pb : Nat) : callAt Try.prog (opsOf (getCode (bodyOf Try.f8) [1, 1, 1, 1, 1, 1, 1, 1, 1, 1, 1, 1, 0])) [(0, .bool false), (1, .pointer (some ⟨pb, 0, none⟩)), (3, .string (sec7 1)), (5, .string (sec7 3)), (7, .int .i64 70)] 0 = some (9, [.int .i64 65], some 50, []) := by kernel_rfl
theorem awk_s31 (pb : Nat) (W5 : World) (z30 : Nat) : Res.prune [0, 1, 5, 7, 9, 53] [] (exec Try.prog (bodyOf Try.f8) 78 12 [⟨false, 0, []⟩, ⟨false, 0, []⟩, ⟨false, 0, []⟩, ⟨false, 0, []⟩, ⟨false, 0, []⟩, ⟨false, 0, []⟩] [.ops [1, 1, 1, 1, 1, 1, 1, 1, 1, 1, 1, 1, 0] [1, 2, 3, 4, 5], .code [1, 1, 1, 1, 1, 1, 1, 1, 1, 1, 1, 1, 1]] ⟨[(50, .tuple #[.pointer none, .int .i64 1]), (0, .bool false), (1, .pointer (some ⟨pb, 0, none⟩)), (3, .string (sec7 1)), (5, .string (sec7 3)), (7, .int .i64 70)], [⟨W5.heap.size, 3, true, [.int .i64 0, .int .i64 1]⟩], [], z30⟩) = some ⟨[], dupR [], [.ops [1, 1, 1, 1, 1, 1, 1, 1, 1, 1, 1, 1, 1, 0] [1, 2, 3, 4, 5, 6, 7, 8, 9, 10, 11, 12, 13, 14, 15, 16, 17, 18, 19, 20, 21, 22, 23, 24, 25], .code [1, 1, 1, 1, 1, 1, 1, 1, 1, 1, 1, 1, 1, 1]], ⟨[(0, .bool false), (1, .pointer (some ⟨pb, 0, none⟩)), (5, .string (sec7 3)), (7, .int .i64 70), (9, .int .i64 1), (53, .string (sec7 1))], [⟨W5.heap.size, 3, true, [.int .i64 0, .int .i64 1]⟩], [], z30⟩⟩ := by kernel_rfl
theorem awk_c32 (pb : Nat) : callAt Try.prog (opsOf (getCode (bodyOf Try.f8) [1, 1, 1, 1, 1, 1, 1, 1, 1, 1, 1, 1, 1, 0])) [(0, .bool false), (1, .pointer (some ⟨pb, 0, none⟩)), (5, .string (sec7 3)), (7, .int .i64 70), (9, .int .i64 1), (53, .string (sec7 1))] 1 = some (13, [.int .i64 1], some 54, []) := by kernel_rfl
theorem awk_s33 (pb : Nat) (W5 : World) (z32 : Nat) : Res.prune [0, 1, 7, 9, 56, 57] [] (exec Try.prog (bodyOf Try.f8) 78 6 [⟨false, 0, []⟩, ⟨false, 0, []⟩, ⟨true, 0, []⟩] [.ops [1, 1, 1, 1, 1, 1, 1, 1, 1, 1, 1, 1, 1, 0] [2, 3, 4, 5, 6, 7, 8, 9, 10, 11, 12, 13, 14, 15, 16, 17, 18, 19, 20, 21, 22, 23, 24, 25], .code [1, 1, 1, 1, 1, 1, 1, 1, 1, 1, 1, 1, 1, 1]] ⟨[(54, .string (sec7 1)), (0, .bool false), (1, .pointer (some ⟨pb, 0, none⟩)), (5, .string (sec7 3)), (7, .int .i64 70), (9, .int .i64 1), (53, .string (sec7 1))], [⟨W5.heap.size, 3, true, [.int .i64 0, .int .i64 1]⟩], [], z32⟩) = some ⟨[(ByteArray.toList (sec7 1) == ByteArray.toList (sec7 1)) = true], dupR [], [.ops [1, 1, 1, 1, 1, 1, 1, 1, 1, 1, 1, 1, 1, 0] [5, 6, 7, 8, 9, 10, 11, 12, 13, 14, 15, 16, 17, 18, 19, 20, 21, 22, 23, 24, 25], .code [1, 1, 1, 1, 1, 1, 1, 1, 1, 1, 1, 1, 1, 1]], ⟨[(0, .bool false), (1, .pointer (some ⟨pb, 0, none⟩)), (7, .int .i64 70), (9, .int .i64 1), (56, .bool (ByteArray.toList (sec7 1) == ByteArray.toList (sec7 1))), (57, .string (sec7 3))], [⟨W5.heap.size, 3, true, [.int .i64 0, .int .i64 1]⟩], [], z32⟩⟩ := by kernel_rfl
theorem awk_c34 (pb : Nat) : callAt Try.prog (opsOf (getCode (bodyOf Try.f8) [1, 1, 1, 1, 1, 1, 1, 1, 1, 1, 1, 1, 1, 0])) [(0, .bool false), (1, .pointer (some ⟨pb, 0, none⟩)), (7, .int .i64 70), (9, .int .i64 1), (56, .bool (ByteArray.toList (sec7 1) == ByteArray.toList (sec7 1))), (57, .string (sec7 3))] 5 = some (13, [.int .i64 3], some 58, [(ByteArray.toList (sec7 1) == ByteArray.toList (sec7 1)) = true]) := by kernel_rfl
theorem awk_s35 (pb : Nat) (W5 : World) (z34 : Nat) : Res.prune [0, 1, 9, 65, 66] [] (exec Try.prog (bodyOf Try.f8) 78 11 [⟨true, 0, []⟩, ⟨false, 2, []⟩, ⟨false, 0, []⟩, ⟨true, 0, []⟩, ⟨true, 0, []⟩, ⟨false, 2, []⟩, ⟨false, 0, []⟩, ⟨true, 0, []⟩] [.ops [1, 1, 1, 1, 1, 1, 1, 1, 1, 1, 1, 1, 1, 0] [6, 7, 8, 9, 10, 11, 12, 13, 14, 15, 16, 17, 18, 19, 20, 21, 22, 23, 24, 25], .code [1, 1, 1, 1, 1, 1, 1, 1, 1, 1, 1, 1, 1, 1]] ⟨[(58, .string (sec7 3)), (0, .bool false), (1, .pointer (some ⟨pb, 0, none⟩)), (7, .int .i64 70), (9, .int .i64 1), (56, .bool (ByteArray.toList (sec7 1) == ByteArray.toList (sec7 1))), (57, .string (sec7 3))], [⟨W5.heap.size, 3, true, [.int .i64 0, .int .i64 1]⟩], [], z34⟩) = some ⟨[(ByteArray.toList (sec7 1) == ByteArray.toList (sec7 1)) = true, (ByteArray.toList (sec7 1) == ByteArray.toList (sec7 1)) = true, (ByteArray.toList (sec7 3) == ByteArray.toList (sec7 3)) = true, (ByteArray.toList (sec7 3) == ByteArray.toList (sec7 3)) = true, (ByteArray.toList (sec7 3) == ByteArray.toList (sec7 3)) = true, true = true], dupR [], [.ops [1, 1, 1, 1, 1, 1, 1, 1, 1, 1, 1, 1, 1, 0] [14, 15, 16, 17, 18, 19, 20, 21, 22, 23, 24, 25], .code [1, 1, 1, 1, 1, 1, 1, 1, 1, 1, 1, 1, 1, 1]], ⟨[(0, .bool false), (1, .pointer (some ⟨pb, 0, none⟩)), (9, .int .i64 1), (65, .bool true), (66, .pointer (some ⟨pb, 0, none⟩))], [⟨W5.heap.size, 3, true, [.int .i64 0, .int .i64 1]⟩], [], z34⟩⟩ := by kernel_rfl
theorem awk_c36 (pb : Nat) : callAt Try.prog (opsOf (getCode (bodyOf Try.f8) [1, 1, 1, 1, 1, 1, 1, 1, 1, 1, 1, 1, 1, 0])) [(0, .bool false), (1, .pointer (some ⟨pb, 0, none⟩)), (9, .int .i64 1), (65, .bool true), (66, .pointer (some ⟨pb, 0, none⟩))] 14 = some (15, [.pointer (some ⟨pb, 0, none⟩)], some 67, [true = true]) := by kernel_rfl
theorem awk_s37 (pb : Nat) (W5 : World) (z36 : Nat) : Res.prune [0, 73, 74] [] (exec Try.prog (bodyOf Try.f8) 78 10 [⟨false, 2, []⟩, ⟨false, 0, []⟩, ⟨true, 0, []⟩, ⟨true, 0, []⟩, ⟨false, 2, []⟩, ⟨false, 0, []⟩, ⟨true, 0, []⟩] [.ops [1, 1, 1, 1, 1, 1, 1, 1, 1, 1, 1, 1, 1, 0] [15, 16, 17, 18, 19, 20, 21, 22, 23, 24, 25], .code [1, 1, 1, 1, 1, 1, 1, 1, 1, 1, 1, 1, 1, 1]] ⟨[(67, .bool true), (0, .bool false), (1, .pointer (some ⟨pb, 0, none⟩)), (9, .int .i64 1), (65, .bool true), (66, .pointer (some ⟨pb, 0, none⟩))], [⟨W5.heap.size, 3, true, [.int .i64 0, .int .i64 1]⟩], [], z36⟩) = some ⟨[true = true, true = true, true = true, true = true, true = true], dupR [], [.ops [1, 1, 1, 1, 1, 1, 1, 1, 1, 1, 1, 1, 1, 0] [22, 23, 24, 25], .code [1, 1, 1, 1, 1, 1, 1, 1, 1, 1, 1, 1, 1, 1]], ⟨[(0, .bool false), (73, .bool true), (74, .pointer (some ⟨pb, 0, none⟩))], [⟨W5.heap.size, 3, true, [.int .i64 0, .int .i64 1]⟩], [], z36⟩⟩ := by kernel_rfl
theorem awk_c38 (pb : Nat) : callAt Try.prog (opsOf (getCode (bodyOf Try.f8) [1, 1, 1, 1, 1, 1, 1, 1, 1, 1, 1, 1, 1, 0])) [(0, .bool false), (73, .bool true), (74, .pointer (some ⟨pb, 0, none⟩))] 22 = some (18, [.pointer (some ⟨pb, 0, none⟩)], some 75, [true = true]) := by kernel_rfl
theorem awk_s39 (pb : Nat) (W5 : World) (z38 : Nat) : Res.prune [0] [] (exec Try.prog (bodyOf Try.f8) 78 7 [⟨true, 0, []⟩, ⟨false, 2, []⟩, ⟨false, 0, []⟩] [.ops [1, 1, 1, 1, 1, 1, 1, 1, 1, 1, 1, 1, 1, 0] [23, 24, 25], .code [1, 1, 1, 1, 1, 1, 1, 1, 1, 1, 1, 1, 1, 1]] ⟨[(75, .int .i64 5), (0, .bool false), (73, .bool true), (74, .pointer (some ⟨pb, 0, none⟩))], [⟨W5.heap.size, 3, true, [.int .i64 0, .int .i64 1]⟩], [], z38⟩) = some ⟨[true = true, true = true], dupR [], [.code [1, 1, 1, 1, 1, 1, 1, 1, 1, 1, 1, 1, 1, 1]], ⟨[(0, .bool true)], [⟨W5.heap.size, 3, true, [.int .i64 0, .int .i64 1]⟩], [], z38⟩⟩ := by kernel_rfl
theorem awk_r40 (W5 : World) : resL Try.prog [] [⟨W5.heap.size, 3, true, [.int .i64 0, .int .i64 1]⟩] [(0, .bool true)] Try.f8.results.toList [] = some ([.bool true], dupR []) := by kernel_rfl
set_option maxRecDepth 100000 in
set_option maxHeartbeats 4000000 in
theorem awake7P  (w : World) :
    Calls Try.prog 8 #[] w (RetK (.bool true) w) := by
  refine calls_of_holds (S := (fun _ => False)) (l := []) (n := 78) Try.func8 (body_of (by kernel_rfl)) rfl (by simp) (MemOk.none w _) ?_
  refine holds_go _ _ (awk_s1 w) trivial ?_
  refine holds_callW (w := w) (S' := (fun _ => False)) (Y := Nat × Nat × Nat) (fun (⟨lb, mb, pb⟩ : Nat × Nat × Nat) => .tuple #[.pointer (some ⟨pb, 0, none⟩), .int .i64 0]) (fun (⟨lb, mb, pb⟩ : Nat × Nat × Nat) => []) (fun (⟨lb, mb, pb⟩ : Nat × Nat × Nat) W_ => w.heap.size ≤ lb ∧ lb < mb ∧ mb < pb ∧ PlatAt 53 56 W_ pb (aw0 lb mb)) (fun (⟨lb, mb, pb⟩ : Nat × Nat × Nat) => [(11, .tuple #[.pointer (some ⟨pb, 0, none⟩), .int .i64 0]), (0, .bool false)]) (awk_c2) trivial (fun _ => rfl) (fun wx hm => ?_) (fun y W1 hX1 hm0 => ?_)
  · refine (new_pl 2 (by omega) wx).mono fun e w' ⟨lb, mb, pb, he, h1, h2, h3, h4, h5⟩ => ?_
    exact ⟨(lb, mb, pb), he, ⟨by rw [hm.size] at h1; exact h1, h2, h3, h4⟩, (hm.same h5).2⟩
  obtain ⟨lb, mb, pb⟩ := y
  obtain ⟨hlb, hlm, hmp, hP0⟩ := hX1
  have hltW : pb < W1.heap.size ∧ _ := hP0.lt
  have hlt1 := hltW.1
  refine holds_go _ _ (awk_s3 pb W1) ⟨rfl, rfl, rfl, rfl, trivial⟩ ?_
  refine holds_callP (.string (sec7 1)) (awk_c4 pb) trivial rfl (fun wx hm => sector_any 1 (by constructor <;> omega) wx) fun z4 hz4 => ?_
  replace hz4 : W1.heap.size ≤ z4 := hz4
  refine holds_go _ _ (awk_s5 pb z4) trivial ?_
  have hmi : ∀ x, minePl pb (aw0 lb mb) x → x = pb ∨ x = lb ∨ x = mb := fun _ h => h
  have hl0 := hP0.lt.1
  have hnT : ∀ xx, minePl pb (aw0 lb mb) xx → ¬ Turned [] xx := by
    rintro xx hx ⟨b, hb, hr, he⟩
    have hx2 := hmi xx hx
    simp at hb
  refine holds_callW (w := w) (S' := (fun _ => False)) (Y := Nat) (fun _ => .int .i64 0) (fun _ => []) (fun _ W_ => PlatAt 53 56 W_ pb (aw1 lb mb)) (fun _ => [(22, .int .i64 0), (0, .bool false), (1, .pointer (some ⟨pb, 0, none⟩)), (20, .pointer (some ⟨pb, 0, none⟩)), (21, .string (sec7 1))]) (awk_c6 pb) trivial (fun _ => rfl) (fun wx hm => ?_) (fun _ W2 hP1 hm1 => ?_)
  · refine (write_pl (aw0 lb mb) pb 0 (sec7 1) (by show (0 : Int) < _; omega) (by show (0 : Int) ≤ 0 ∧ (0 : Int) < 2; omega) (size_sec7 _) wx (hP0.kept hm.kept hnT)).mono fun e w' ⟨h1, h2, h3⟩ => ?_
    exact ⟨0, h1, h2, MemOk.off (MemOk.back2 hm0 hm) (fun _ h => h) h3 (fun x h => .inr (by have := hmi x h; omega)) (by
      intro b hb hx
      have hx2 := hmi _ hx
      simp at hb)⟩
  clear hmi hnT
  refine holds_go _ _ (awk_s7 pb W2) trivial ?_
  have hmi : ∀ x, minePl pb (aw1 lb mb) x → x = pb ∨ x = lb ∨ x = mb := fun _ h => h
  have hl1 := hP1.lt.1
  have hnT : ∀ xx, minePl pb (aw1 lb mb) xx → ¬ Turned [] xx := by
    rintro xx hx ⟨b, hb, hr, he⟩
    have hx2 := hmi xx hx
    simp at hb
  refine holds_callW (w := w) (S' := (fun _ => False)) (Y := Nat) (fun _ => .int .i64 0) (fun _ => []) (fun _ W_ => PlatAt 53 56 W_ pb (aw2 lb mb)) (fun _ => [(24, .int .i64 0), (0, .bool false), (1, .pointer (some ⟨pb, 0, none⟩)), (23, .pointer (some ⟨pb, 0, none⟩))]) (awk_c8 pb) trivial (fun _ => rfl) (fun wx hm => ?_) (fun _ W3 hP2 hm2 => ?_)
  · refine (flush_pl (aw1 lb mb) pb (by show (1 : Int) < _; omega) wx (hP1.kept hm.kept hnT)).mono fun e w' ⟨h1, h2, h3⟩ => ?_
    exact ⟨0, h1, h2, MemOk.off (MemOk.back2 hm1 hm) (fun _ h => h) h3 (fun x h => .inr (by have := hmi x h; omega)) (by
      intro b hb hx
      have hx2 := hmi _ hx
      simp at hb)⟩
  clear hmi hnT
  refine holds_go _ _ (awk_s9 pb W3) trivial ?_
  refine holds_callP (.string (sec7 2)) (awk_c10 pb) trivial rfl (fun wx hm => sector_any 2 (by constructor <;> omega) wx) fun z10 hz10 => ?_
  replace hz10 : W3.heap.size ≤ z10 := hz10
  refine holds_go _ _ (awk_s11 pb z10) trivial ?_
  have hmi : ∀ x, minePl pb (aw2 lb mb) x → x = pb ∨ x = lb ∨ x = mb := fun _ h => h
  have hl2 := hP2.lt.1
  have hnT : ∀ xx, minePl pb (aw2 lb mb) xx → ¬ Turned [] xx := by
    rintro xx hx ⟨b, hb, hr, he⟩
    have hx2 := hmi xx hx
    simp at hb
  refine holds_callW (w := w) (S' := (fun _ => False)) (Y := Nat) (fun _ => .int .i64 0) (fun _ => []) (fun _ W_ => PlatAt 53 56 W_ pb (aw3 lb mb)) (fun _ => [(27, .int .i64 0), (0, .bool false), (1, .pointer (some ⟨pb, 0, none⟩)), (25, .pointer (some ⟨pb, 0, none⟩)), (26, .string (sec7 2))]) (awk_c12 pb) trivial (fun _ => rfl) (fun wx hm => ?_) (fun _ W4 hP3 hm3 => ?_)
  · refine (write_pl (aw2 lb mb) pb 0 (sec7 2) (by show (2 : Int) < _; omega) (by show (0 : Int) ≤ 0 ∧ (0 : Int) < 2; omega) (size_sec7 _) wx (hP2.kept hm.kept hnT)).mono fun e w' ⟨h1, h2, h3⟩ => ?_
    exact ⟨0, h1, h2, MemOk.off (MemOk.back2 hm2 hm) (fun _ h => h) h3 (fun x h => .inr (by have := hmi x h; omega)) (by
      intro b hb hx
      have hx2 := hmi _ hx
      simp at hb)⟩
  clear hmi hnT
  refine holds_go _ _ (awk_s13 pb W4) trivial ?_
  refine holds_callP (.string (sec7 3)) (awk_c14 pb) trivial rfl (fun wx hm => sector_any 3 (by constructor <;> omega) wx) fun z14 hz14 => ?_
  replace hz14 : W4.heap.size ≤ z14 := hz14
  refine holds_go _ _ (awk_s15 pb z14) trivial ?_
  have hmi : ∀ x, minePl pb (aw3 lb mb) x → x = pb ∨ x = lb ∨ x = mb := fun _ h => h
  have hl3 := hP3.lt.1
  have hnT : ∀ xx, minePl pb (aw3 lb mb) xx → ¬ Turned [] xx := by
    rintro xx hx ⟨b, hb, hr, he⟩
    have hx2 := hmi xx hx
    simp at hb
  refine holds_callW (w := w) (S' := (fun _ => False)) (Y := Nat) (fun _ => .int .i64 0) (fun _ => []) (fun _ W_ => PlatAt 53 56 W_ pb (aw4 lb mb)) (fun _ => [(30, .int .i64 0), (0, .bool false), (1, .pointer (some ⟨pb, 0, none⟩)), (28, .pointer (some ⟨pb, 0, none⟩)), (29, .string (sec7 3))]) (awk_c16 pb) trivial (fun _ => rfl) (fun wx hm => ?_) (fun _ W5 hP4 hm4 => ?_)
  · refine (write_pl (aw3 lb mb) pb 1 (sec7 3) (by show (3 : Int) < _; omega) (by show (0 : Int) ≤ 1 ∧ (1 : Int) < 2; omega) (size_sec7 _) wx (hP3.kept hm.kept hnT)).mono fun e w' ⟨h1, h2, h3⟩ => ?_
    exact ⟨0, h1, h2, MemOk.off (MemOk.back2 hm3 hm) (fun _ h => h) h3 (fun x h => .inr (by have := hmi x h; omega)) (by
      intro b hb hx
      have hx2 := hmi _ hx
      simp at hb)⟩
  clear hmi hnT
  refine holds_go _ _ (awk_s17 pb W5) trivial ?_
  have hmi : ∀ x, minePl pb (aw4 lb mb) x → x = pb ∨ x = lb ∨ x = mb := fun _ h => h
  have hl4 := hP4.lt.1
  have hnT : ∀ xx, minePl pb (aw4 lb mb) xx → ¬ Turned [] xx := by
    rintro xx hx ⟨b, hb, hr, he⟩
    have hx2 := hmi xx hx
    simp at hb
  refine holds_callW (w := w) (S' := (fun _ => False)) (Y := Nat) (fun _ => .tuple #[]) (fun _ => [⟨W5.heap.size, 3, true, [.int .i64 0, .int .i64 1]⟩]) (fun _ W_ => PlatAt 53 56 W_ pb (aw5 lb mb)) (fun _ => [(33, .tuple #[]), (0, .bool false), (1, .pointer (some ⟨pb, 0, none⟩)), (31, .pointer (some ⟨pb, 0, none⟩)), (32, .slice (some ⟨W5.heap.size, 0, none⟩) 2 2)]) (awk_c18 pb W5) trivial (fun _ => rfl) (fun wx hm => ?_) (fun _ W6 hP5 hm5 => ?_)
  · refine (restart_pl (aw4 lb mb) pb (some ⟨W5.heap.size, 0, none⟩) 2 2 (fun i => ⟨(i : Int)⟩) wx (hP4.kept hm.kept hnT) (fun k hk => ?_)).mono fun e w' ⟨h1, h2, h3⟩ => ?_
    · refine ⟨W5.heap.size, 0, rfl, (hm.at_ 0 rfl).lt, fun h => by have := hmi _ h; omega, ?_⟩
      have hB := hm.at_ 0 rfl
      match k, hk with
      | 0, _ => exact hB.cell 0
      | 1, _ => exact hB.cell 1
    exact ⟨0, h1, h2, MemOk.off (MemOk.back2 hm4 hm) (fun _ h => h) h3 (fun x h => .inr (by have := hmi x h; omega)) (by
      intro b hb hx
      have hx2 := hmi _ hx
      simp at hb
      subst hb
      simp at hx2
      omega)⟩
  clear hmi hnT
  refine holds_go _ _ (awk_s19 pb W5 W6) trivial ?_
  refine holds_callP (.tuple #[.string (sec7 1), .int .i64 0]) (awk_c20 pb) trivial rfl (fun wx hm => by have h := read_pl (aw5 lb mb) pb 0 (by rw [awE5]; show (0 : Int) ≤ 0 ∧ (0 : Int) < 2; omega) (by rw [awE5]) wx (hP5.kept hm.kept (by rintro xx hx ⟨b, hb, hr, he⟩; have hx2 : xx = pb ∨ xx = lb ∨ xx = mb := (by rw [awE5] at hx; exact hx); simp at hb; subst hb; simp at he; omega)); rw [aw_read0] at h; exact h) fun z20 hz20 => ?_
  replace hz20 : W6.heap.size ≤ z20 := hz20
  refine holds_go _ _ (awk_s21 pb W5 z20) trivial ?_
  refine holds_callP (.tuple #[.string (sec7 3), .int .i64 0]) (awk_c22 pb) trivial rfl (fun wx hm => by have h := read_pl (aw5 lb mb) pb 1 (by rw [awE5]; show (0 : Int) ≤ 1 ∧ (1 : Int) < 2; omega) (by rw [awE5]) wx (hP5.kept hm.kept (by rintro xx hx ⟨b, hb, hr, he⟩; have hx2 : xx = pb ∨ xx = lb ∨ xx = mb := (by rw [awE5] at hx; exact hx); simp at hb; subst hb; simp at he; omega)); rw [aw_read1] at h; exact h) fun z22 hz22 => ?_
  replace hz22 : z20 ≤ z22 := hz22
  refine holds_go _ _ (awk_s23 pb W5 z22) trivial ?_
  have hmi : ∀ x, minePl pb (aw5 lb mb) x → x = pb ∨ x = lb ∨ x = mb := fun _ h => by rw [awE5] at h; exact h
  have hl5 := hP5.lt.1
  have hnT : ∀ xx, minePl pb (aw5 lb mb) xx → ¬ Turned [⟨W5.heap.size, 3, true, [.int .i64 0, .int .i64 1]⟩] xx := by
    rintro xx hx ⟨b, hb, hr, he⟩
    have hx2 := hmi xx hx
    simp at hb
    subst hb
    simp at he
    omega
  refine holds_callW (w := w) (S' := (fun _ => False)) (Y := Nat) (fun _ => .int .i64 0) (fun _ => [⟨W5.heap.size, 3, true, [.int .i64 0, .int .i64 1]⟩]) (fun _ W_ => PlatAt 53 56 W_ pb (aw6 lb mb)) (fun _ => [(45, .int .i64 0), (0, .bool false), (1, .pointer (some ⟨pb, 0, none⟩)), (3, .string (sec7 1)), (5, .string (sec7 3)), (44, .pointer (some ⟨pb, 0, none⟩))]) (awk_c24 pb) trivial (fun _ => rfl) (fun wx hm => ?_) (fun _ W7 hP6 hm6 => ?_)
  · refine (arm_pl (aw5 lb mb) pb 1 wx (hP5.kept hm.kept hnT)).mono fun e w' ⟨h1, h2, h3⟩ => ?_
    exact ⟨0, h1, h2, MemOk.off (MemOk.back2 hm5 hm) (fun _ h => h) h3 (fun x h => .inr (by have := hmi x h; omega)) (by
      intro b hb hx
      have hx2 := hmi _ hx
      simp at hb
      subst hb
      simp at hx2
      omega)⟩
  clear hmi hnT
  refine holds_go _ _ (awk_s25 pb W5 W7) trivial ?_
  refine holds_callP (.string (sec7 4)) (awk_c26 pb) trivial rfl (fun wx hm => sector_any 4 (by constructor <;> omega) wx) fun z26 hz26 => ?_
  replace hz26 : W7.heap.size ≤ z26 := hz26
  refine holds_go _ _ (awk_s27 pb W5 z26) trivial ?_
  have hmi : ∀ x, minePl pb (aw6 lb mb) x → x = pb ∨ x = lb ∨ x = mb := fun _ h => by rw [awE6] at h; exact h
  have hl6 := hP6.lt.1
  have hnT : ∀ xx, minePl pb (aw6 lb mb) xx → ¬ Turned [⟨W5.heap.size, 3, true, [.int .i64 0, .int .i64 1]⟩] xx := by
    rintro xx hx ⟨b, hb, hr, he⟩
    have hx2 := hmi xx hx
    simp at hb
    subst hb
    simp at he
    omega
  refine holds_callW (w := w) (S' := (fun _ => False)) (Y := Nat) (fun _ => .int .i64 70) (fun _ => [⟨W5.heap.size, 3, true, [.int .i64 0, .int .i64 1]⟩]) (fun _ W_ => PlatAt 53 56 W_ pb (aw7 lb mb)) (fun _ => [(48, .int .i64 70), (0, .bool false), (1, .pointer (some ⟨pb, 0, none⟩)), (3, .string (sec7 1)), (5, .string (sec7 3)), (46, .pointer (some ⟨pb, 0, none⟩)), (47, .string (sec7 4))]) (awk_c28 pb) trivial (fun _ => rfl) (fun wx hm => ?_) (fun _ W8 hP7 hm7 => ?_)
  · refine (write_pl (aw6 lb mb) pb 0 (sec7 4) (by rw [awE6]; show (4 : Int) < _; omega) (by rw [awE6]; show (0 : Int) ≤ 0 ∧ (0 : Int) < 2; omega) (size_sec7 _) wx (hP6.kept hm.kept hnT)).mono fun e w' ⟨h1, h2, h3⟩ => ?_
    rw [show goesE (aw6 lb mb) = 70 by rw [awE6]; rfl] at h1
    exact ⟨0, h1, h2, MemOk.off (MemOk.back2 hm6 hm) (fun _ h => h) h3 (fun x h => .inr (by have := hmi x h; omega)) (by
      intro b hb hx
      have hx2 := hmi _ hx
      simp at hb
      subst hb
      simp at hx2
      omega)⟩
  clear hmi hnT
  refine holds_go _ _ (awk_s29 pb W5 W8) trivial ?_
  refine holds_callP (.tuple #[.pointer none, .int .i64 1]) (awk_c30 pb) trivial rfl (fun wx hm => new_bad wx) fun z30 hz30 => ?_
  replace hz30 : W8.heap.size ≤ z30 := hz30
  refine holds_go _ _ (awk_s31 pb W5 z30) trivial ?_
  refine holds_callP (.string (sec7 1)) (awk_c32 pb) trivial rfl (fun wx hm => sector_any 1 (by constructor <;> omega) wx) fun z32 hz32 => ?_
  replace hz32 : z30 ≤ z32 := hz32
  refine holds_go _ _ (awk_s33 pb W5 z32) ⟨beq_self_eq_true _, trivial⟩ ?_
  refine holds_callP (.string (sec7 3)) (awk_c34 pb) ⟨beq_self_eq_true _, trivial⟩ rfl (fun wx hm => sector_any 3 (by constructor <;> omega) wx) fun z34 hz34 => ?_
  replace hz34 : z32 ≤ z34 := hz34
  refine holds_go _ _ (awk_s35 pb W5 z34) ⟨beq_self_eq_true _, beq_self_eq_true _, beq_self_eq_true _, beq_self_eq_true _, beq_self_eq_true _, rfl, trivial⟩ ?_
  refine holds_callP (.bool true) (awk_c36 pb) ⟨rfl, trivial⟩ rfl (fun wx hm => by have h := off_pl (aw7 lb mb) pb wx (hP7.kept hm.kept (by rintro xx hx ⟨b, hb, hr, he⟩; have hx2 : xx = pb ∨ xx = lb ∨ xx = mb := (by rw [awE7] at hx; exact hx); simp at hb; subst hb; simp at he; omega)); rw [awE7] at h; exact h) fun z36 hz36 => ?_
  replace hz36 : z34 ≤ z36 := hz36
  refine holds_go _ _ (awk_s37 pb W5 z36) ⟨rfl, rfl, rfl, rfl, rfl, trivial⟩ ?_
  refine holds_callP (.int .i64 5) (awk_c38 pb) ⟨rfl, trivial⟩ rfl (fun wx hm => by have h := acts_pl (aw7 lb mb) pb wx (hP7.kept hm.kept (by rintro xx hx ⟨b, hb, hr, he⟩; have hx2 : xx = pb ∨ xx = lb ∨ xx = mb := (by rw [awE7] at hx; exact hx); simp at hb; subst hb; simp at he; omega)); rw [awE7] at h; exact h) fun z38 hz38 => ?_
  replace hz38 : z36 ≤ z38 := hz38
  refine holds_go _ _ (awk_s39 pb W5 z38) ⟨rfl, rfl, trivial⟩ ?_
  refine holds_ret [] (by kernel_rfl) (awk_r40 W5) ?_
  intro wx hm
  exact ⟨rfl, (MemOk.back2 hm7 hm).kept⟩

end Go.Proofs.Ytillpjllbekedaa
