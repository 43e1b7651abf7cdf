/- The document's net: New, Len, Look, Send. -/
import Derived.Test.YthndmmondlpghaaNetR
namespace Go.Proofs.Ythndmmondlpghaa
open Go.RowKit

def RefNew (w : World) (e : Ending) (w' : World) : Prop := ∃ rb, e = .returned (.pointer (some ⟨rb, 0, none⟩)) ∧ (∀ gx, gx < w.heap.size → RefAt 49 9 w' w.heap.size gx rb []) ∧ Kept (fun _ => False) w w'
theorem rnw_s1 (w : World) : Res.prune [0] [] (exec Try.prog (bodyOf Try.f15) 3 13 [⟨false, 0, []⟩, ⟨false, 0, []⟩, ⟨false, 0, []⟩, ⟨false, 0, []⟩] [.code []] ⟨[], [], [], w.heap.size⟩) = some ⟨[], dupR [], [.code [1, 1]], ⟨[(0, .pointer (some ⟨w.heap.size, 0, none⟩))], [⟨w.heap.size, 49, true, [.slice none 0 0]⟩], [], w.heap.size + 1⟩⟩ := by kernel_rfl
theorem rnw_r2 (w : World) : resL Try.prog [] [⟨w.heap.size, 49, true, [.slice none 0 0]⟩] [(0, .pointer (some ⟨w.heap.size, 0, none⟩))] Try.f15.results.toList [] = some ([.pointer (some ⟨w.heap.size, 0, none⟩)], dupR []) := by kernel_rfl
set_option maxRecDepth 100000 in
set_option maxHeartbeats 4000000 in
theorem rnew_any  (w : World) :
    Calls Try.prog 15 #[] w (RefNew w) := by
  refine calls_of_holds (S := (fun _ => False)) (l := []) (n := 3) Try.func15 (body_of (by kernel_rfl)) rfl (by simp) (MemOk.none w _) ?_
  refine holds_go _ _ (rnw_s1 w) trivial ?_
  refine holds_ret [] (by kernel_rfl) (rnw_r2 w) ?_
  intro wx hm
  exact ⟨w.heap.size, rfl, fun gx hgx => ⟨none, 0, hm.at_ 0 rfl, OwnL.nil _ _ _, Nat.le_refl _, (by rintro ⟨a, ha, _⟩; cases ha), (by rintro ⟨a, ha, _⟩; cases ha), by omega⟩, hm.kept⟩

theorem rln_s1 (rb : Nat) (L : List (List UInt8)) (A : Option Addr) (cp : Nat) (w : World) : Res.prune [2] [] (exec Try.prog (bodyOf Try.f16) 8 16 [⟨false, 0, []⟩, ⟨false, 0, []⟩, ⟨false, 0, []⟩, ⟨false, 0, []⟩, ⟨false, 0, [⟨false, 0, 0, 1⟩]⟩, ⟨false, 0, []⟩, ⟨false, 0, []⟩] [.code []] ⟨[(0, .pointer (some ⟨rb, 0, none⟩))], [⟨rb, 49, false, [.slice A L.length cp]⟩], [], w.heap.size⟩) = some ⟨[], dupR [(rb, 0, 1)], [.code [1, 1]], ⟨[(2, .int .i64 ((L.length : Nat) : Int))], [⟨rb, 49, false, [.slice A L.length cp]⟩], [], w.heap.size⟩⟩ := by kernel_rfl
theorem rln_r2 (rb : Nat) (L : List (List UInt8)) (A : Option Addr) (cp : Nat) : resL Try.prog [] [⟨rb, 49, false, [.slice A L.length cp]⟩] [(2, .int .i64 ((L.length : Nat) : Int))] Try.f16.results.toList [] = some ([.int .i64 ((L.length : Nat) : Int)], dupR []) := by kernel_rfl
set_option maxRecDepth 100000 in
set_option maxHeartbeats 4000000 in
theorem rlen_any (rb : Nat) (A : Option Addr) (cp : Nat) (L : List (List UInt8)) (w : World) (hp : Blk w rb 49 [.slice A L.length cp]) :
    Calls Try.prog 16 #[.pointer (some ⟨rb, 0, none⟩)] w (RetK (.int .i64 (L.length : Int)) w) := by
  refine calls_of_holds (S := (fun _ => False)) (l := [.pointer (some ⟨rb, 0, none⟩)]) (n := 8) Try.func16 (body_of (by kernel_rfl)) rfl (by simp) (MemOk.start (bk := [⟨rb, 49, false, [.slice A L.length cp]⟩]) (wn := []) (by simpa using hp) (by simp) (by simp) (by simp)) ?_
  refine holds_go _ _ (rln_s1 rb L A cp w) trivial ?_
  refine holds_ret [] (by kernel_rfl) (rln_r2 rb L A cp) ?_
  intro wx hm
  exact ⟨rfl, hm.kept⟩

theorem rlen_ref (base gx rb : Nat) (L : List (List UInt8)) (w : World) (h : RefAt 49 9 w base gx rb L) : Calls Try.prog 16 #[.pointer (some ⟨rb, 0, none⟩)] w (RetK (.int .i64 (L.length : Int)) w) := by
  obtain ⟨A, cp, hB, _⟩ := h
  exact rlen_any rb A cp L w hB
theorem rlk_s1 (i : Int) (rb : Nat) (L : List (List UInt8)) (A : Option Addr) (cp : Nat) (w : World) : Res.prune [0, 1, 4, 5] [] (exec Try.prog (bodyOf Try.f23) 24 29 [⟨false, 0, []⟩, ⟨false, 0, []⟩, ⟨false, 0, []⟩, ⟨false, 0, []⟩, ⟨false, 0, []⟩, ⟨true, 0, []⟩, ⟨true, 0, []⟩, ⟨true, 0, []⟩, ⟨true, 0, []⟩, ⟨true, 0, []⟩, ⟨true, 0, []⟩, ⟨true, 0, []⟩, ⟨false, 2, []⟩, ⟨true, 0, []⟩, ⟨false, 0, []⟩, ⟨false, 0, []⟩] [.code []] ⟨[(0, .pointer (some ⟨rb, 0, none⟩)), (1, .int .i64 i)], [⟨rb, 49, false, [.slice A L.length cp]⟩], [], w.heap.size⟩) = some ⟨[(decide ((i : Int) < 0)) = true, (decide ((i : Int) < 0)) = true, (decide ((i : Int) < 0)) = true, (decide ((i : Int) < 0)) = true, (decide ((i : Int) < 0)) = true, (decide ((i : Int) < 0)) = true, (decide ((i : Int) < 0)) = true, (decide ((i : Int) < 0)) = true, true = true], dupR [], [.code [1, 0, 1, 0, 1], .code [1, 1]], ⟨[(0, .pointer (some ⟨rb, 0, none⟩)), (1, .int .i64 i), (4, .string ⟨#[]⟩), (5, .bool false)], [⟨rb, 49, false, [.slice A L.length cp]⟩], [], w.heap.size⟩⟩ := by kernel_rfl
theorem rlk_r2 (i : Int) (rb : Nat) (L : List (List UInt8)) (A : Option Addr) (cp : Nat) : resL Try.prog [] [⟨rb, 49, false, [.slice A L.length cp]⟩] [(0, .pointer (some ⟨rb, 0, none⟩)), (1, .int .i64 i), (4, .string ⟨#[]⟩), (5, .bool false)] Try.f23.results.toList [] = some ([.string ⟨#[]⟩, .bool false], dupR []) := by kernel_rfl
theorem rlk_s3 (i : Int) (rb : Nat) (L : List (List UInt8)) (A : Option Addr) (cp : Nat) (w : World) : Res.prune [0, 1, 4, 5] [] (exec Try.prog (bodyOf Try.f23) 24 29 [⟨false, 0, []⟩, ⟨false, 0, []⟩, ⟨false, 0, []⟩, ⟨false, 0, []⟩, ⟨false, 0, []⟩, ⟨false, 0, []⟩, ⟨false, 0, []⟩, ⟨false, 0, []⟩, ⟨false, 0, []⟩, ⟨false, 0, [⟨false, 0, 0, 1⟩]⟩, ⟨false, 0, []⟩, ⟨false, 0, []⟩, ⟨false, 3, []⟩, ⟨true, 0, []⟩, ⟨false, 0, []⟩, ⟨false, 0, []⟩] [.code []] ⟨[(0, .pointer (some ⟨rb, 0, none⟩)), (1, .int .i64 i)], [⟨rb, 49, false, [.slice A L.length cp]⟩], [], w.heap.size⟩) = some ⟨[(decide ((i : Int) < 0)) = false, (decide ((i : Int) < 0)) = false, (decide ((i : Int) < 0)) = false, (decide ((i : Int) < 0)) = false, (decide ((i : Int) < 0)) = false, (decide ((i : Int) < 0)) = false, (decide ((i : Int) < 0)) = false, (decide ((i : Int) < 0)) = false, (decide ((i : Int) ≥ ((L.length : Nat) : Int))) = true], dupR [(rb, 0, 1)], [.code [1, 0, 1, 0, 1], .code [1, 1]], ⟨[(0, .pointer (some ⟨rb, 0, none⟩)), (1, .int .i64 i), (4, .string ⟨#[]⟩), (5, .bool false)], [⟨rb, 49, false, [.slice A L.length cp]⟩], [], w.heap.size⟩⟩ := by kernel_rfl
theorem rlk_r4 (i : Int) (rb : Nat) (L : List (List UInt8)) (A : Option Addr) (cp : Nat) : resL Try.prog [] [⟨rb, 49, false, [.slice A L.length cp]⟩] [(0, .pointer (some ⟨rb, 0, none⟩)), (1, .int .i64 i), (4, .string ⟨#[]⟩), (5, .bool false)] Try.f23.results.toList [] = some ([.string ⟨#[]⟩, .bool false], dupR []) := by kernel_rfl
theorem rlk_s5 (i : Int) (rb : Nat) (x : List UInt8) (L : List (List UInt8)) (cp : Nat) (g : Nat) (w : World) : Res.prune [4, 5] [] (exec Try.prog (bodyOf Try.f23) 24 37 [⟨false, 0, []⟩, ⟨false, 0, []⟩, ⟨false, 0, []⟩, ⟨false, 0, []⟩, ⟨false, 0, []⟩, ⟨false, 0, []⟩, ⟨false, 0, []⟩, ⟨false, 0, []⟩, ⟨false, 0, []⟩, ⟨false, 0, [⟨false, 0, 0, 1⟩]⟩, ⟨false, 0, []⟩, ⟨false, 0, []⟩, ⟨false, 3, []⟩, ⟨false, 0, []⟩, ⟨false, 0, []⟩, ⟨false, 0, []⟩, ⟨false, 0, []⟩, ⟨false, 0, [⟨false, 0, 0, 1⟩]⟩, ⟨false, 0, []⟩, ⟨false, 1, []⟩, ⟨false, 0, [⟨true, 0, 0, 1⟩]⟩, ⟨false, 0, []⟩, ⟨false, 0, []⟩] [.code []] ⟨[(0, .pointer (some ⟨rb, 0, none⟩)), (1, .int .i64 i)], [⟨rb, 49, false, [.slice (some ⟨g, 0, none⟩) L.length cp]⟩], [⟨g, 0 + (Int.toNat i) * 1, [.string (bs x)]⟩], w.heap.size⟩) = some ⟨[(decide ((i : Int) < 0)) = false, (decide ((i : Int) < 0)) = false, (decide ((i : Int) < 0)) = false, (decide ((i : Int) < 0)) = false, (decide ((i : Int) < 0)) = false, (decide ((i : Int) < 0)) = false, (decide ((i : Int) < 0)) = false, (decide ((i : Int) < 0)) = false, (decide ((i : Int) ≥ ((L.length : Nat) : Int))) = false, (0 : Int) ≤ i ∧ i < ((L.length : Nat) : Int)], dupR [(rb, 0, 1), (rb, 0, 1), (g, 0 + (Int.toNat i) * 1, 1)], [.code [1, 1, 1]], ⟨[(4, .string (bs x)), (5, .bool true)], [⟨rb, 49, false, [.slice (some ⟨g, 0, none⟩) L.length cp]⟩], [⟨g, 0 + (Int.toNat i) * 1, [.string (bs x)]⟩], w.heap.size⟩⟩ := by kernel_rfl
theorem rlk_r6 (i : Int) (rb : Nat) (x : List UInt8) (L : List (List UInt8)) (cp : Nat) (g : Nat) : resL Try.prog [⟨g, 0 + (Int.toNat i) * 1, [.string (bs x)]⟩] [⟨rb, 49, false, [.slice (some ⟨g, 0, none⟩) L.length cp]⟩] [(4, .string (bs x)), (5, .bool true)] Try.f23.results.toList [] = some ([.string (bs x), .bool true], dupR []) := by kernel_rfl
set_option maxRecDepth 100000 in
set_option maxHeartbeats 4000000 in
theorem rlook_any (base rb : Nat) (A : Option Addr) (cp : Nat) (L : List (List UInt8)) (i : Int) (hlen : L.length ≤ 64) (w : World) (hp : Blk w rb 49 [.slice A L.length cp]) (hO : OwnL w (base) 9 A L.length cp L) :
    Calls Try.prog 23 #[.pointer (some ⟨rb, 0, none⟩), .int .i64 i] w (RetK (lookV (lookR L i)) w) := by
  refine calls_of_holds (S := (fun _ => False)) (l := [.pointer (some ⟨rb, 0, none⟩), .int .i64 i]) (n := 24) Try.func23 (body_of (by kernel_rfl)) rfl (by simp) (MemOk.start (bk := [⟨rb, 49, false, [.slice A L.length cp]⟩]) (wn := []) (by simpa using hp) (by simp) (by simp) (by simp)) ?_
  by_cases h0 : i < 0
  · skip
    refine holds_go _ _ (rlk_s1 i rb L A cp w) ⟨decide_eq_true (by omega), decide_eq_true (by omega), decide_eq_true (by omega), decide_eq_true (by omega), decide_eq_true (by omega), decide_eq_true (by omega), decide_eq_true (by omega), decide_eq_true (by omega), rfl, trivial⟩ ?_
    refine holds_ret [] (by kernel_rfl) (rlk_r2 i rb L A cp) ?_
    intro wx hm
    have e : lookR L i = none := if_pos h0
    exact ⟨by rw [e]; rfl, hm.kept⟩
  by_cases h1 : (L.length : Int) ≤ i
  · skip
    refine holds_go _ _ (rlk_s3 i rb L A cp w) ⟨decide_eq_false (by omega), decide_eq_false (by omega), decide_eq_false (by omega), decide_eq_false (by omega), decide_eq_false (by omega), decide_eq_false (by omega), decide_eq_false (by omega), decide_eq_false (by omega), decide_eq_true (by omega), trivial⟩ ?_
    refine holds_ret [] (by kernel_rfl) (rlk_r4 i rb L A cp) ?_
    intro wx hm
    exact ⟨by rw [lookR_none h1]; rfl, hm.kept⟩
  obtain ⟨x, hx, hx2⟩ := lookR_some (L := L) (i := i) (by omega) (by omega)
  obtain ⟨g, rfl, hg1, hg2, hcp, hc⟩ := hO.get (j := 0) (by omega)
  refine holds_wins [⟨g, 0 + (Int.toNat i) * 1, [.string (bs x)]⟩] (fun _ x' hx' => ?_) ?_
  · simp only [List.mem_singleton] at hx'
    subst hx'
    refine ⟨id, hg2, fun q v hv => ?_⟩
    match q, hv with
    | 0, hv =>
      simp only [List.getElem?_cons_zero, Option.some.injEq] at hv
      subst hv
      exact hc _ x hx2
    | q + 1, hv => simp at hv
  refine holds_go _ _ (rlk_s5 i rb x L cp g w) ⟨decide_eq_false (by omega), decide_eq_false (by omega), decide_eq_false (by omega), decide_eq_false (by omega), decide_eq_false (by omega), decide_eq_false (by omega), decide_eq_false (by omega), decide_eq_false (by omega), decide_eq_false (by omega), ⟨by omega, by omega⟩, trivial⟩ ?_
  refine holds_ret [] (by kernel_rfl) (rlk_r6 i rb x L cp g) ?_
  intro wx hm
  exact ⟨by rw [hx]; rfl, hm.kept⟩

theorem rlook_ref (base gx rb : Nat) (L : List (List UInt8)) (i : Int) (hl : L.length ≤ 64) (w : World) (h : RefAt 49 9 w base gx rb L) : Calls Try.prog 23 #[.pointer (some ⟨rb, 0, none⟩), .int .i64 i] w (RetK (lookV (lookR L i)) w) := by
  obtain ⟨A, cp, hB, hO, _⟩ := h
  exact rlook_any base rb A cp L i hl w hB hO
theorem rsnf_s1 (rb : Nat) (s : ByteArray) (L : List (List UInt8)) (A : Option Addr) (cp : Nat) (w : World) : Res.prune [0, 1, 4] [] (exec Try.prog (bodyOf Try.f17) 65 27 [⟨false, 0, []⟩, ⟨false, 0, []⟩, ⟨false, 0, []⟩, ⟨false, 0, []⟩, ⟨false, 0, [⟨false, 0, 0, 1⟩]⟩, ⟨false, 0, []⟩, ⟨false, 0, []⟩, ⟨false, 0, []⟩, ⟨true, 0, []⟩, ⟨true, 0, []⟩, ⟨true, 0, []⟩, ⟨false, 2, []⟩, ⟨true, 0, []⟩, ⟨false, 0, []⟩] [.code []] ⟨[(0, .pointer (some ⟨rb, 0, none⟩)), (1, .string s)], [⟨rb, 49, false, [.slice A L.length cp]⟩], [], w.heap.size⟩) = some ⟨[(decide ((((L.length : Nat) : Int) : Int) ≥ 64)) = true, (decide ((((L.length : Nat) : Int) : Int) ≥ 64)) = true, (decide ((((L.length : Nat) : Int) : Int) ≥ 64)) = true, (decide ((((L.length : Nat) : Int) : Int) ≥ 64)) = true, true = true], dupR [(rb, 0, 1)], [.code [1, 0, 1, 0, 1], .code [1, 1]], ⟨[(0, .pointer (some ⟨rb, 0, none⟩)), (1, .string s), (4, .bool false)], [⟨rb, 49, false, [.slice A L.length cp]⟩], [], w.heap.size⟩⟩ := by kernel_rfl
theorem rsnf_r2 (rb : Nat) (s : ByteArray) (L : List (List UInt8)) (A : Option Addr) (cp : Nat) : resL Try.prog [] [⟨rb, 49, false, [.slice A L.length cp]⟩] [(0, .pointer (some ⟨rb, 0, none⟩)), (1, .string s), (4, .bool false)] Try.f17.results.toList [] = some ([.bool false], dupR []) := by kernel_rfl
set_option maxRecDepth 100000 in
set_option maxHeartbeats 4000000 in
theorem rsend_full (rb : Nat) (A : Option Addr) (cp : Nat) (L : List (List UInt8)) (s : ByteArray) (ha : 64 ≤ L.length) (w : World) (hp : Blk w rb 49 [.slice A L.length cp]) :
    Calls Try.prog 17 #[.pointer (some ⟨rb, 0, none⟩), .string s] w (RetK (.bool false) w) := by
  refine calls_of_holds (S := (fun _ => False)) (l := [.pointer (some ⟨rb, 0, none⟩), .string s]) (n := 65) Try.func17 (body_of (by kernel_rfl)) rfl (by simp) (MemOk.start (bk := [⟨rb, 49, false, [.slice A L.length cp]⟩]) (wn := []) (by simpa using hp) (by simp) (by simp) (by simp)) ?_
  refine holds_go _ _ (rsnf_s1 rb s L A cp w) ⟨decide_eq_true (by omega), decide_eq_true (by omega), decide_eq_true (by omega), decide_eq_true (by omega), rfl, trivial⟩ ?_
  refine holds_ret [] (by kernel_rfl) (rsnf_r2 rb s L A cp) ?_
  intro wx hm
  exact ⟨rfl, hm.kept⟩

theorem rsnl_s1 (rb : Nat) (s : ByteArray) (L : List (List UInt8)) (A : Option Addr) (cp : Nat) (w : World) : Res.prune [0, 1, 4] [] (exec Try.prog (bodyOf Try.f17) 65 27 [⟨false, 0, []⟩, ⟨false, 0, []⟩, ⟨false, 0, []⟩, ⟨false, 0, []⟩, ⟨false, 0, [⟨false, 0, 0, 1⟩]⟩, ⟨false, 0, []⟩, ⟨false, 0, []⟩, ⟨false, 0, []⟩, ⟨false, 0, []⟩, ⟨false, 0, []⟩, ⟨false, 0, []⟩, ⟨false, 3, []⟩, ⟨true, 0, []⟩, ⟨false, 0, []⟩] [.code []] ⟨[(0, .pointer (some ⟨rb, 0, none⟩)), (1, .string s)], [⟨rb, 49, false, [.slice A L.length cp]⟩], [], w.heap.size⟩) = some ⟨[(decide ((((L.length : Nat) : Int) : Int) ≥ 64)) = false, (decide ((((L.length : Nat) : Int) : Int) ≥ 64)) = false, (decide ((((L.length : Nat) : Int) : Int) ≥ 64)) = false, (decide ((((L.length : Nat) : Int) : Int) ≥ 64)) = false, (decide (((s.size : Int) : Int) > 1000)) = true], dupR [(rb, 0, 1)], [.code [1, 0, 1, 0, 1], .code [1, 1]], ⟨[(0, .pointer (some ⟨rb, 0, none⟩)), (1, .string s), (4, .bool false)], [⟨rb, 49, false, [.slice A L.length cp]⟩], [], w.heap.size⟩⟩ := by kernel_rfl
theorem rsnl_r2 (rb : Nat) (s : ByteArray) (L : List (List UInt8)) (A : Option Addr) (cp : Nat) : resL Try.prog [] [⟨rb, 49, false, [.slice A L.length cp]⟩] [(0, .pointer (some ⟨rb, 0, none⟩)), (1, .string s), (4, .bool false)] Try.f17.results.toList [] = some ([.bool false], dupR []) := by kernel_rfl
set_option maxRecDepth 100000 in
set_option maxHeartbeats 4000000 in
theorem rsend_long (rb : Nat) (A : Option Addr) (cp : Nat) (L : List (List UInt8)) (s : ByteArray) (ha : L.length < 64) (hs : 1000 < s.size) (w : World) (hp : Blk w rb 49 [.slice A L.length cp]) :
    Calls Try.prog 17 #[.pointer (some ⟨rb, 0, none⟩), .string s] w (RetK (.bool false) w) := by
  refine calls_of_holds (S := (fun _ => False)) (l := [.pointer (some ⟨rb, 0, none⟩), .string s]) (n := 65) Try.func17 (body_of (by kernel_rfl)) rfl (by simp) (MemOk.start (bk := [⟨rb, 49, false, [.slice A L.length cp]⟩]) (wn := []) (by simpa using hp) (by simp) (by simp) (by simp)) ?_
  refine holds_go _ _ (rsnl_s1 rb s L A cp w) ⟨decide_eq_false (by omega), decide_eq_false (by omega), decide_eq_false (by omega), decide_eq_false (by omega), decide_eq_true (by omega), trivial⟩ ?_
  refine holds_ret [] (by kernel_rfl) (rsnl_r2 rb s L A cp) ?_
  intro wx hm
  exact ⟨rfl, hm.kept⟩

theorem rsn_s1 (rb : Nat) (s : ByteArray) (L : List (List UInt8)) (A : Option Addr) (cp : Nat) (w : World) : Res.prune [0, 1, 4, 5, 6, 7] [] (exec Try.prog (bodyOf Try.f17) 65 38 [⟨false, 0, []⟩, ⟨false, 0, []⟩, ⟨false, 0, []⟩, ⟨false, 0, []⟩, ⟨false, 0, [⟨false, 0, 0, 1⟩]⟩, ⟨false, 0, []⟩, ⟨false, 0, []⟩, ⟨false, 0, []⟩, ⟨false, 0, []⟩, ⟨false, 0, []⟩, ⟨false, 0, []⟩, ⟨false, 3, []⟩, ⟨false, 0, []⟩, ⟨false, 0, []⟩, ⟨false, 0, []⟩, ⟨false, 0, []⟩] [.code []] ⟨[(0, .pointer (some ⟨rb, 0, none⟩)), (1, .string s)], [⟨rb, 49, true, [.slice A L.length cp]⟩], [], w.heap.size⟩) = some ⟨[(decide ((((L.length : Nat) : Int) : Int) ≥ 64)) = false, (decide ((((L.length : Nat) : Int) : Int) ≥ 64)) = false, (decide ((((L.length : Nat) : Int) : Int) ≥ 64)) = false, (decide ((((L.length : Nat) : Int) : Int) ≥ 64)) = false, (decide (((s.size : Int) : Int) > 1000)) = false], dupR [(rb, 0, 1)], [.code [1, 1, 1, 1, 0, 1, 0], .blk 0, .code [1, 1, 1, 1, 1]], ⟨[(0, .pointer (some ⟨rb, 0, none⟩)), (1, .string s), (4, .bool false), (5, .slice none 0 0), (6, .bool false), (7, .int .i64 0)], [⟨rb, 49, true, [.slice A L.length cp]⟩], [], w.heap.size⟩⟩ := by kernel_rfl
def RSendI (base : Nat) (rb : Nat) (s : ByteArray) (L : List (List UInt8)) (A : Option Addr) (cp : Nat) (w : World)  (m : Nat) (st : St) (W0 : World) : Prop := ∃ (j : Nat) (pt : Bool) (A1 : Option Addr) (n1 cp1 : Nat) (L1 : List (List UInt8)) (z : Nat), m + j = L.length ∧ n1 = L1.length ∧ n1 ≤ j + 1 ∧ (if pt = true then L1 ++ L.drop j = insR (kb s) L else L1 = L.take j ∧ insR (kb s) L = L.take j ++ insR (kb s) (L.drop j)) ∧ OwnL W0 (w.heap.size) 9 A1 n1 cp1 L1 ∧ OwnL W0 (base) 9 A L.length cp L ∧ st = ⟨[(0, .pointer (some ⟨rb, 0, none⟩)), (1, .string s), (4, .bool false), (5, .slice A1 n1 cp1), (6, .bool pt), (7, .int .i64 (j : Int))], [⟨rb, 49, true, [.slice A L.length cp]⟩], [], z⟩
theorem rsn_s2 (rb : Nat) (s : ByteArray) (L : List (List UInt8)) (A : Option Addr) (cp : Nat) (A1 : Option Addr) (n1 : Nat) (cp1 : Nat) (j : Nat) (W1 : World) (J : Act → World → Prop) : Res.prune [0, 4, 5, 57, 59] [] (exec Try.prog (bodyOf Try.f17) 65 27 [⟨false, 0, []⟩, ⟨false, 0, []⟩, ⟨false, 0, []⟩, ⟨false, 0, []⟩, ⟨false, 0, [⟨false, 0, 0, 1⟩]⟩, ⟨false, 0, []⟩, ⟨false, 0, []⟩, ⟨false, 0, []⟩, ⟨false, 0, []⟩, ⟨false, 0, []⟩, ⟨true, 0, []⟩, ⟨false, 0, []⟩, ⟨false, 0, []⟩, ⟨false, 0, []⟩] [.code [1, 1, 1, 1, 0, 1, 0, 0], .inv J, .blk 0, .code [1, 1, 1, 1, 1]] ⟨[(0, .pointer (some ⟨rb, 0, none⟩)), (1, .string s), (4, .bool false), (5, .slice A1 n1 cp1), (6, .bool false), (7, .int .i64 (j : Int))], [⟨rb, 49, true, [.slice A L.length cp]⟩], [], W1.heap.size⟩) = some ⟨[(decide (((j : Int) : Int) < ((L.length : Nat) : Int))) = false, true = true], dupR [(rb, 0, 1)], [.ops [1, 1, 1, 1, 1, 0, 1, 0] [3, 4], .code [1, 1, 1, 1, 1, 1]], ⟨[(0, .pointer (some ⟨rb, 0, none⟩)), (4, .bool false), (5, .slice A1 n1 cp1), (57, .slice A1 n1 cp1), (59, .slice (some ⟨W1.heap.size, 0, none⟩) 1 1)], [⟨rb, 49, true, [.slice A L.length cp]⟩, ⟨W1.heap.size, 9, true, [.string s]⟩], [], W1.heap.size + 1⟩⟩ := by kernel_rfl
theorem rsn_s4 (rb : Nat) (L : List (List UInt8)) (A : Option Addr) (cp : Nat) (A1 : Option Addr) (n1 : Nat) (cp1 : Nat) (A2 : Option Addr) (cp2 : Nat) (W1 : World) (W2 : World) : Res.prune [4] [] (exec Try.prog (bodyOf Try.f17) 65 17 [⟨false, 0, []⟩, ⟨false, 0, []⟩, ⟨false, 0, []⟩, ⟨false, 0, []⟩, ⟨false, 0, []⟩, ⟨false, 0, [⟨false, 0, 0, 1⟩]⟩, ⟨false, 0, []⟩] [.ops [1, 1, 1, 1, 1, 0, 1, 0] [4], .code [1, 1, 1, 1, 1, 1]] ⟨[(60, .slice A2 (n1 + 1) cp2), (0, .pointer (some ⟨rb, 0, none⟩)), (4, .bool false), (5, .slice A1 n1 cp1), (57, .slice A1 n1 cp1), (59, .slice (some ⟨W1.heap.size, 0, none⟩) 1 1)], [⟨rb, 49, true, [.slice A L.length cp]⟩], [], W2.heap.size⟩) = some ⟨[], dupR [(rb, 0, 1)], [.code [1, 1, 1, 1, 1, 1, 1, 1]], ⟨[(4, .bool true)], [⟨rb, 49, true, [.slice A2 (n1 + 1) cp2]⟩], [], W2.heap.size⟩⟩ := by kernel_rfl
theorem rsn_r5 (rb : Nat) (n1 : Nat) (A2 : Option Addr) (cp2 : Nat) : resL Try.prog [] [⟨rb, 49, true, [.slice A2 (n1 + 1) cp2]⟩] [(4, .bool true)] Try.f17.results.toList [] = some ([.bool true], dupR []) := by kernel_rfl
theorem rsn_s6 (rb : Nat) (s : ByteArray) (y : List UInt8) (L : List (List UInt8)) (cp : Nat) (g : Nat) (A1 : Option Addr) (n1 : Nat) (cp1 : Nat) (j : Nat) (W1 : World) (J : Act → World → Prop) : Res.prune [0, 1, 4, 5, 6, 7, 40] [] (exec Try.prog (bodyOf Try.f17) 65 35 [⟨false, 0, []⟩, ⟨false, 0, []⟩, ⟨false, 0, []⟩, ⟨false, 0, []⟩, ⟨false, 0, [⟨false, 0, 0, 1⟩]⟩, ⟨false, 0, []⟩, ⟨false, 0, []⟩, ⟨true, 0, []⟩, ⟨false, 0, []⟩, ⟨false, 0, []⟩, ⟨false, 0, []⟩, ⟨true, 0, []⟩, ⟨true, 0, []⟩, ⟨true, 0, []⟩, ⟨true, 0, [⟨false, 0, 0, 1⟩]⟩, ⟨true, 0, []⟩, ⟨true, 1, []⟩, ⟨true, 0, [⟨true, 0, 0, 1⟩]⟩, ⟨true, 0, []⟩, ⟨true, 0, []⟩, ⟨false, 2, []⟩] [.code [1, 1, 1, 1, 0, 1, 0, 0], .inv J, .blk 0, .code [1, 1, 1, 1, 1]] ⟨[(0, .pointer (some ⟨rb, 0, none⟩)), (1, .string s), (4, .bool false), (5, .slice A1 n1 cp1), (6, .bool false), (7, .int .i64 (j : Int))], [⟨rb, 49, true, [.slice (some ⟨g, 0, none⟩) L.length cp]⟩], [⟨g, 0 + j * 1, [.string (bs y)]⟩], W1.heap.size⟩) = some ⟨[(decide (((j : Int) : Int) < ((L.length : Nat) : Int))) = true, true = true, true = true, true = true, true = true, true = true, true = true, (0 : Int) ≤ (j : Int) ∧ (j : Int) < ((L.length : Nat) : Int), true = true, true = true, true = true, true = true], dupR [(rb, 0, 1), (rb, 0, 1), (g, 0 + j * 1, 1)], [.code [1, 1, 1, 1, 0, 1, 0, 0, 1, 0, 0, 0, 1], .code [1, 1, 1, 1, 0, 1, 0, 0, 1, 0, 0, 1], .blk 1, .code [1, 1, 1, 1, 0, 1, 0, 0, 1, 1], .inv J, .blk 0, .code [1, 1, 1, 1, 1]], ⟨[(0, .pointer (some ⟨rb, 0, none⟩)), (1, .string s), (4, .bool false), (5, .slice A1 n1 cp1), (6, .bool false), (7, .int .i64 (j : Int)), (40, .bool (!(Op.bytesLess (ByteArray.toList (bs y)) (ByteArray.toList s) || (ByteArray.toList (bs y) == ByteArray.toList s))))], [⟨rb, 49, true, [.slice (some ⟨g, 0, none⟩) L.length cp]⟩], [⟨g, 0 + j * 1, [.string (bs y)]⟩], W1.heap.size⟩⟩ := by kernel_rfl
theorem rsn_s7 (rb : Nat) (s : ByteArray) (y : List UInt8) (L : List (List UInt8)) (cp : Nat) (g : Nat) (A1 : Option Addr) (n1 : Nat) (cp1 : Nat) (j : Nat) (W1 : World) (J : Act → World → Prop) : Res.prune [0, 1, 4, 5, 6, 7, 41, 43] [] (exec Try.prog (bodyOf Try.f17) 65 9 [⟨true, 0, []⟩, ⟨false, 0, []⟩, ⟨false, 0, []⟩, ⟨false, 0, []⟩] [.code [1, 1, 1, 1, 0, 1, 0, 0, 1, 0, 0, 0, 1], .code [1, 1, 1, 1, 0, 1, 0, 0, 1, 0, 0, 1], .blk 1, .code [1, 1, 1, 1, 0, 1, 0, 0, 1, 1], .inv J, .blk 0, .code [1, 1, 1, 1, 1]] ⟨[(0, .pointer (some ⟨rb, 0, none⟩)), (1, .string s), (4, .bool false), (5, .slice A1 n1 cp1), (6, .bool false), (7, .int .i64 (j : Int)), (40, .bool (!(Op.bytesLess (ByteArray.toList (bs y)) (ByteArray.toList s) || (ByteArray.toList (bs y) == ByteArray.toList s))))], [⟨rb, 49, true, [.slice (some ⟨g, 0, none⟩) L.length cp]⟩], [⟨g, 0 + j * 1, [.string (bs y)]⟩], W1.heap.size⟩) = some ⟨[(!(Op.bytesLess (ByteArray.toList (bs y)) (ByteArray.toList s) || (ByteArray.toList (bs y) == ByteArray.toList s))) = true], dupR [], [.ops [1, 1, 1, 1, 0, 1, 0, 0, 1, 0, 0, 0, 1, 0, 0] [3, 4], .code [1, 1, 1, 1, 0, 1, 0, 0, 1, 0, 0, 0, 1, 0, 1], .code [1, 1, 1, 1, 0, 1, 0, 0, 1, 0, 0, 1], .blk 1, .code [1, 1, 1, 1, 0, 1, 0, 0, 1, 1], .inv J, .blk 0, .code [1, 1, 1, 1, 1]], ⟨[(0, .pointer (some ⟨rb, 0, none⟩)), (1, .string s), (4, .bool false), (5, .slice A1 n1 cp1), (6, .bool false), (7, .int .i64 (j : Int)), (41, .slice A1 n1 cp1), (43, .slice (some ⟨W1.heap.size, 0, none⟩) 1 1)], [⟨rb, 49, true, [.slice (some ⟨g, 0, none⟩) L.length cp]⟩, ⟨W1.heap.size, 9, true, [.string s]⟩], [⟨g, 0 + j * 1, [.string (bs y)]⟩], W1.heap.size + 1⟩⟩ := by kernel_rfl
theorem rsn_s9 (rb : Nat) (s : ByteArray) (y : List UInt8) (L : List (List UInt8)) (cp : Nat) (g : Nat) (A1 : Option Addr) (n1 : Nat) (cp1 : Nat) (A2 : Option Addr) (cp2 : Nat) (j : Nat) (W1 : World) (W2 : World) (J : Act → World → Prop) : Res.prune [0, 1, 4, 5, 6, 7, 45, 53] [] (exec Try.prog (bodyOf Try.f17) 65 18 [⟨false, 0, []⟩, ⟨false, 0, []⟩, ⟨false, 0, []⟩, ⟨false, 0, []⟩, ⟨false, 0, []⟩, ⟨false, 0, []⟩, ⟨false, 0, [⟨false, 0, 0, 1⟩]⟩, ⟨false, 0, []⟩, ⟨false, 1, []⟩, ⟨false, 0, [⟨true, 0, 0, 1⟩]⟩, ⟨false, 0, []⟩] [.ops [1, 1, 1, 1, 0, 1, 0, 0, 1, 0, 0, 0, 1, 0, 0] [4], .code [1, 1, 1, 1, 0, 1, 0, 0, 1, 0, 0, 0, 1, 0, 1], .code [1, 1, 1, 1, 0, 1, 0, 0, 1, 0, 0, 1], .blk 1, .code [1, 1, 1, 1, 0, 1, 0, 0, 1, 1], .inv J, .blk 0, .code [1, 1, 1, 1, 1]] ⟨[(44, .slice A2 (n1 + 1) cp2), (0, .pointer (some ⟨rb, 0, none⟩)), (1, .string s), (4, .bool false), (5, .slice A1 n1 cp1), (6, .bool false), (7, .int .i64 (j : Int)), (41, .slice A1 n1 cp1), (43, .slice (some ⟨W1.heap.size, 0, none⟩) 1 1)], [⟨rb, 49, true, [.slice (some ⟨g, 0, none⟩) L.length cp]⟩], [⟨g, 0 + j * 1, [.string (bs y)]⟩], W2.heap.size⟩) = some ⟨[(0 : Int) ≤ (j : Int) ∧ (j : Int) < ((L.length : Nat) : Int)], dupR [(rb, 0, 1), (g, 0 + j * 1, 1)], [.ops [1, 1, 1, 1, 0, 1, 0, 0, 1, 0, 0, 1] [9, 10], .blk 1, .code [1, 1, 1, 1, 0, 1, 0, 0, 1, 1], .inv J, .blk 0, .code [1, 1, 1, 1, 1]], ⟨[(0, .pointer (some ⟨rb, 0, none⟩)), (1, .string s), (4, .bool false), (5, .slice A2 (n1 + 1) cp2), (6, .bool true), (7, .int .i64 (j : Int)), (45, .slice A2 (n1 + 1) cp2), (53, .slice (some ⟨W2.heap.size, 0, none⟩) 1 1)], [⟨rb, 49, true, [.slice (some ⟨g, 0, none⟩) L.length cp]⟩, ⟨W2.heap.size, 9, true, [.string (bs y)]⟩], [⟨g, 0 + j * 1, [.string (bs y)]⟩], W2.heap.size + 1⟩⟩ := by kernel_rfl
theorem rsn_s11 (rb : Nat) (s : ByteArray) (L : List (List UInt8)) (cp : Nat) (g : Nat) (n1 : Nat) (A2 : Option Addr) (cp2 : Nat) (A3 : Option Addr) (cp3 : Nat) (j : Nat) (W2 : World) (W3 : World) (J : Act → World → Prop) : Res.prune [0, 1, 4, 5, 6, 7] [] (exec Try.prog (bodyOf Try.f17) 65 11 [⟨false, 0, []⟩, ⟨false, 0, []⟩, ⟨false, 1, []⟩, ⟨false, 0, []⟩] [.ops [1, 1, 1, 1, 0, 1, 0, 0, 1, 0, 0, 1] [10], .blk 1, .code [1, 1, 1, 1, 0, 1, 0, 0, 1, 1], .inv J, .blk 0, .code [1, 1, 1, 1, 1]] ⟨[(54, .slice A3 (n1 + 1 + 1) cp3), (0, .pointer (some ⟨rb, 0, none⟩)), (1, .string s), (4, .bool false), (5, .slice A2 (n1 + 1) cp2), (6, .bool true), (7, .int .i64 (j : Int)), (45, .slice A2 (n1 + 1) cp2), (53, .slice (some ⟨W2.heap.size, 0, none⟩) 1 1)], [⟨rb, 49, true, [.slice (some ⟨g, 0, none⟩) L.length cp]⟩], [], W3.heap.size⟩) = some ⟨[inR .i64 (((j : Int) + 1))], dupR [], [.inv J, .blk 0, .code [1, 1, 1, 1, 1]], ⟨[(0, .pointer (some ⟨rb, 0, none⟩)), (1, .string s), (4, .bool false), (5, .slice A3 (n1 + 1 + 1) cp3), (6, .bool true), (7, .int .i64 ((j : Int) + 1))], [⟨rb, 49, true, [.slice (some ⟨g, 0, none⟩) L.length cp]⟩], [], W3.heap.size⟩⟩ := by kernel_rfl
theorem rsn_s12 (rb : Nat) (s : ByteArray) (y : List UInt8) (L : List (List UInt8)) (cp : Nat) (g : Nat) (A1 : Option Addr) (n1 : Nat) (cp1 : Nat) (j : Nat) (W1 : World) (J : Act → World → Prop) : Res.prune [0, 1, 4, 5, 6, 7, 45, 53] [] (exec Try.prog (bodyOf Try.f17) 65 15 [⟨false, 0, []⟩, ⟨false, 0, []⟩, ⟨false, 0, []⟩, ⟨false, 0, []⟩, ⟨false, 0, []⟩, ⟨false, 0, [⟨false, 0, 0, 1⟩]⟩, ⟨false, 0, []⟩, ⟨false, 1, []⟩, ⟨false, 0, [⟨true, 0, 0, 1⟩]⟩, ⟨false, 0, []⟩] [.code [1, 1, 1, 1, 0, 1, 0, 0, 1, 0, 0, 0, 1], .code [1, 1, 1, 1, 0, 1, 0, 0, 1, 0, 0, 1], .blk 1, .code [1, 1, 1, 1, 0, 1, 0, 0, 1, 1], .inv J, .blk 0, .code [1, 1, 1, 1, 1]] ⟨[(0, .pointer (some ⟨rb, 0, none⟩)), (1, .string s), (4, .bool false), (5, .slice A1 n1 cp1), (6, .bool false), (7, .int .i64 (j : Int)), (40, .bool (!(Op.bytesLess (ByteArray.toList (bs y)) (ByteArray.toList s) || (ByteArray.toList (bs y) == ByteArray.toList s))))], [⟨rb, 49, true, [.slice (some ⟨g, 0, none⟩) L.length cp]⟩], [⟨g, 0 + j * 1, [.string (bs y)]⟩], W1.heap.size⟩) = some ⟨[(!(Op.bytesLess (ByteArray.toList (bs y)) (ByteArray.toList s) || (ByteArray.toList (bs y) == ByteArray.toList s))) = false, (0 : Int) ≤ (j : Int) ∧ (j : Int) < ((L.length : Nat) : Int)], dupR [(rb, 0, 1), (g, 0 + j * 1, 1)], [.ops [1, 1, 1, 1, 0, 1, 0, 0, 1, 0, 0, 1] [9, 10], .blk 1, .code [1, 1, 1, 1, 0, 1, 0, 0, 1, 1], .inv J, .blk 0, .code [1, 1, 1, 1, 1]], ⟨[(0, .pointer (some ⟨rb, 0, none⟩)), (1, .string s), (4, .bool false), (5, .slice A1 n1 cp1), (6, .bool false), (7, .int .i64 (j : Int)), (45, .slice A1 n1 cp1), (53, .slice (some ⟨W1.heap.size, 0, none⟩) 1 1)], [⟨rb, 49, true, [.slice (some ⟨g, 0, none⟩) L.length cp]⟩, ⟨W1.heap.size, 9, true, [.string (bs y)]⟩], [⟨g, 0 + j * 1, [.string (bs y)]⟩], W1.heap.size + 1⟩⟩ := by kernel_rfl
theorem rsn_s14 (rb : Nat) (s : ByteArray) (L : List (List UInt8)) (cp : Nat) (g : Nat) (A1 : Option Addr) (n1 : Nat) (cp1 : Nat) (A2 : Option Addr) (cp2 : Nat) (j : Nat) (W1 : World) (W2 : World) (J : Act → World → Prop) : Res.prune [0, 1, 4, 5, 6, 7] [] (exec Try.prog (bodyOf Try.f17) 65 11 [⟨false, 0, []⟩, ⟨false, 0, []⟩, ⟨false, 1, []⟩, ⟨false, 0, []⟩] [.ops [1, 1, 1, 1, 0, 1, 0, 0, 1, 0, 0, 1] [10], .blk 1, .code [1, 1, 1, 1, 0, 1, 0, 0, 1, 1], .inv J, .blk 0, .code [1, 1, 1, 1, 1]] ⟨[(54, .slice A2 (n1 + 1) cp2), (0, .pointer (some ⟨rb, 0, none⟩)), (1, .string s), (4, .bool false), (5, .slice A1 n1 cp1), (6, .bool false), (7, .int .i64 (j : Int)), (45, .slice A1 n1 cp1), (53, .slice (some ⟨W1.heap.size, 0, none⟩) 1 1)], [⟨rb, 49, true, [.slice (some ⟨g, 0, none⟩) L.length cp]⟩], [], W2.heap.size⟩) = some ⟨[inR .i64 (((j : Int) + 1))], dupR [], [.inv J, .blk 0, .code [1, 1, 1, 1, 1]], ⟨[(0, .pointer (some ⟨rb, 0, none⟩)), (1, .string s), (4, .bool false), (5, .slice A2 (n1 + 1) cp2), (6, .bool false), (7, .int .i64 ((j : Int) + 1))], [⟨rb, 49, true, [.slice (some ⟨g, 0, none⟩) L.length cp]⟩], [], W2.heap.size⟩⟩ := by kernel_rfl
theorem rsn_s15 (rb : Nat) (s : ByteArray) (L : List (List UInt8)) (A : Option Addr) (cp : Nat) (A1 : Option Addr) (n1 : Nat) (cp1 : Nat) (j : Nat) (W1 : World) (J : Act → World → Prop) : Res.prune [4] [] (exec Try.prog (bodyOf Try.f17) 65 36 [⟨false, 0, []⟩, ⟨false, 0, []⟩, ⟨false, 0, []⟩, ⟨false, 0, []⟩, ⟨false, 0, [⟨false, 0, 0, 1⟩]⟩, ⟨false, 0, []⟩, ⟨false, 0, []⟩, ⟨false, 0, []⟩, ⟨false, 0, []⟩, ⟨false, 0, []⟩, ⟨false, 0, []⟩, ⟨false, 0, []⟩, ⟨false, 0, []⟩, ⟨false, 0, []⟩, ⟨false, 0, []⟩, ⟨false, 0, [⟨false, 0, 0, 1⟩]⟩, ⟨false, 0, []⟩] [.code [1, 1, 1, 1, 0, 1, 0, 0], .inv J, .blk 0, .code [1, 1, 1, 1, 1]] ⟨[(0, .pointer (some ⟨rb, 0, none⟩)), (1, .string s), (4, .bool false), (5, .slice A1 n1 cp1), (6, .bool true), (7, .int .i64 (j : Int))], [⟨rb, 49, true, [.slice A L.length cp]⟩], [], W1.heap.size⟩) = some ⟨[(decide (((j : Int) : Int) < ((L.length : Nat) : Int))) = false, false = false], dupR [(rb, 0, 1), (rb, 0, 1)], [.code [1, 1, 1, 1, 1, 1, 1, 1]], ⟨[(4, .bool true)], [⟨rb, 49, true, [.slice A1 n1 cp1]⟩], [], W1.heap.size⟩⟩ := by kernel_rfl
theorem rsn_r16 (rb : Nat) (A1 : Option Addr) (n1 : Nat) (cp1 : Nat) : resL Try.prog [] [⟨rb, 49, true, [.slice A1 n1 cp1]⟩] [(4, .bool true)] Try.f17.results.toList [] = some ([.bool true], dupR []) := by kernel_rfl
theorem rsn_s17 (rb : Nat) (s : ByteArray) (y : List UInt8) (L : List (List UInt8)) (cp : Nat) (g : Nat) (A1 : Option Addr) (n1 : Nat) (cp1 : Nat) (j : Nat) (W1 : World) (J : Act → World → Prop) : Res.prune [0, 1, 4, 5, 6, 7, 45, 53] [] (exec Try.prog (bodyOf Try.f17) 65 47 [⟨false, 0, []⟩, ⟨false, 0, []⟩, ⟨false, 0, []⟩, ⟨false, 0, []⟩, ⟨false, 0, [⟨false, 0, 0, 1⟩]⟩, ⟨false, 0, []⟩, ⟨false, 0, []⟩, ⟨true, 0, []⟩, ⟨false, 0, []⟩, ⟨false, 0, []⟩, ⟨false, 0, []⟩, ⟨false, 0, []⟩, ⟨false, 0, []⟩, ⟨false, 0, []⟩, ⟨false, 0, []⟩, ⟨false, 0, []⟩, ⟨false, 0, []⟩, ⟨false, 0, []⟩, ⟨false, 0, []⟩, ⟨false, 0, []⟩, ⟨false, 3, []⟩, ⟨false, 0, []⟩, ⟨false, 0, []⟩, ⟨false, 0, []⟩, ⟨false, 0, []⟩, ⟨false, 0, []⟩, ⟨false, 0, [⟨false, 0, 0, 1⟩]⟩, ⟨false, 0, []⟩, ⟨false, 1, []⟩, ⟨false, 0, [⟨true, 0, 0, 1⟩]⟩, ⟨false, 0, []⟩] [.code [1, 1, 1, 1, 0, 1, 0, 0], .inv J, .blk 0, .code [1, 1, 1, 1, 1]] ⟨[(0, .pointer (some ⟨rb, 0, none⟩)), (1, .string s), (4, .bool false), (5, .slice A1 n1 cp1), (6, .bool true), (7, .int .i64 (j : Int))], [⟨rb, 49, true, [.slice (some ⟨g, 0, none⟩) L.length cp]⟩], [⟨g, 0 + j * 1, [.string (bs y)]⟩], W1.heap.size⟩) = some ⟨[(decide (((j : Int) : Int) < ((L.length : Nat) : Int))) = true, false = false, false = false, false = false, false = false, false = false, false = false, false = false, false = false, false = false, false = false, false = false, (0 : Int) ≤ (j : Int) ∧ (j : Int) < ((L.length : Nat) : Int)], dupR [(rb, 0, 1), (rb, 0, 1), (g, 0 + j * 1, 1)], [.ops [1, 1, 1, 1, 0, 1, 0, 0, 1, 0, 0, 1] [9, 10], .blk 1, .code [1, 1, 1, 1, 0, 1, 0, 0, 1, 1], .inv J, .blk 0, .code [1, 1, 1, 1, 1]], ⟨[(0, .pointer (some ⟨rb, 0, none⟩)), (1, .string s), (4, .bool false), (5, .slice A1 n1 cp1), (6, .bool true), (7, .int .i64 (j : Int)), (45, .slice A1 n1 cp1), (53, .slice (some ⟨W1.heap.size, 0, none⟩) 1 1)], [⟨rb, 49, true, [.slice (some ⟨g, 0, none⟩) L.length cp]⟩, ⟨W1.heap.size, 9, true, [.string (bs y)]⟩], [⟨g, 0 + j * 1, [.string (bs y)]⟩], W1.heap.size + 1⟩⟩ := by kernel_rfl
theorem rsn_s19 (rb : Nat) (s : ByteArray) (L : List (List UInt8)) (cp : Nat) (g : Nat) (A1 : Option Addr) (n1 : Nat) (cp1 : Nat) (A2 : Option Addr) (cp2 : Nat) (j : Nat) (W1 : World) (W2 : World) (J : Act → World → Prop) : Res.prune [0, 1, 4, 5, 6, 7] [] (exec Try.prog (bodyOf Try.f17) 65 11 [⟨false, 0, []⟩, ⟨false, 0, []⟩, ⟨false, 1, []⟩, ⟨false, 0, []⟩] [.ops [1, 1, 1, 1, 0, 1, 0, 0, 1, 0, 0, 1] [10], .blk 1, .code [1, 1, 1, 1, 0, 1, 0, 0, 1, 1], .inv J, .blk 0, .code [1, 1, 1, 1, 1]] ⟨[(54, .slice A2 (n1 + 1) cp2), (0, .pointer (some ⟨rb, 0, none⟩)), (1, .string s), (4, .bool false), (5, .slice A1 n1 cp1), (6, .bool true), (7, .int .i64 (j : Int)), (45, .slice A1 n1 cp1), (53, .slice (some ⟨W1.heap.size, 0, none⟩) 1 1)], [⟨rb, 49, true, [.slice (some ⟨g, 0, none⟩) L.length cp]⟩], [], W2.heap.size⟩) = some ⟨[inR .i64 (((j : Int) + 1))], dupR [], [.inv J, .blk 0, .code [1, 1, 1, 1, 1]], ⟨[(0, .pointer (some ⟨rb, 0, none⟩)), (1, .string s), (4, .bool false), (5, .slice A2 (n1 + 1) cp2), (6, .bool true), (7, .int .i64 ((j : Int) + 1))], [⟨rb, 49, true, [.slice (some ⟨g, 0, none⟩) L.length cp]⟩], [], W2.heap.size⟩⟩ := by kernel_rfl
set_option maxRecDepth 100000 in
set_option maxHeartbeats 4000000 in
theorem rsend_ok (base rb : Nat) (A : Option Addr) (cp : Nat) (L : List (List UInt8)) (s : ByteArray) (ha : L.length < 64) (hs : s.size ≤ 1000) (hno : ¬ ownA A rb) (w : World) (hp : Blk w rb 49 [.slice A L.length cp]) (hO : OwnL w (base) 9 A L.length cp L) :
    Calls Try.prog 17 #[.pointer (some ⟨rb, 0, none⟩), .string s] w (fun e w' => e = .returned (.bool true) ∧ (∃ A' cp', Blk w' rb 49 [.slice A' (insR (kb s) L).length cp'] ∧ OwnL w' (w.heap.size) 9 A' ((insR (kb s) L).length) cp' (insR (kb s) L)) ∧ Kept (fun x => x = rb) w w') := by
  refine calls_of_holds (S := (fun x => x = rb)) (l := [.pointer (some ⟨rb, 0, none⟩), .string s]) (n := 65) Try.func17 (body_of (by kernel_rfl)) rfl (by simp) (MemOk.start (bk := [⟨rb, 49, true, [.slice A L.length cp]⟩]) (wn := []) (by simpa using hp) (by simp) (by simp) (by simp)) ?_
  have hrb := hp.lt
  have hAo := hO.own
  refine holds_go _ _ (rsn_s1 rb s L A cp w) ⟨decide_eq_false (by omega), decide_eq_false (by omega), decide_eq_false (by omega), decide_eq_false (by omega), decide_eq_false (by omega), trivial⟩ ?_
  have hT0 : ∀ x, x ≠ rb → ¬ (fun x => x = rb) x := fun x hx => hx
  refine holds_loopW (w := w) (S' := fun x => x = rb) (RSendI base rb s L A cp w) L.length (by kernel_rfl) (fun W1 hm => ⟨⟨0, false, none, 0, 0, [], _, rfl, rfl, Nat.zero_le _, by simp, OwnL.nil _ _ _, hO.kept hm.kept (fun x hx e => hno (e ▸ hx)), rfl⟩, hm⟩) ?_
  rintro m' _ W1 ⟨j, pt, A1, n1, cp1, L1, z, hmj, hn1, hnj, hinv, hO1, hOL, rfl⟩ hm1 J hJ
  have ho1 := hO1.own
  have hoL := hOL.own
  have hsz1 := hm1.kept.size
  have hl1 := hO1.len
  cases pt
  · skip
    simp only [Bool.false_eq_true, if_false] at hinv
    by_cases h2 : j < L.length
    rotate_left
    · skip
      refine holds_go _ _ (rsn_s2 rb s L A cp A1 n1 cp1 j W1 J) ⟨decide_eq_false (by omega), rfl, trivial⟩ ?_
      have hj : j = L.length := by omega
      rw [hj, List.take_length] at hinv
      obtain ⟨hi1, hi2⟩ := hinv
      rw [List.drop_length] at hi2
      have hi3 : L1 ++ [kb s] = insR (kb s) L := by rw [hi1, hi2]; rfl
      have hT_ : ∀ x, x ≠ rb → ¬ Turned [⟨rb, 49, true, [.slice A L.length cp]⟩] x := by
        rintro x hx ⟨b, hb, hr, he⟩
        simp at hb
        subst hb
        simp at he hr <;> omega
      have hOo := hO1.own
      refine holds_opV (w := w) (S' := fun x => x = rb) (dst := (some 60)) (x := Builtin.append_ #[22, 22] 22 #[.slice A1 n1 cp1, .slice (some ⟨W1.heap.size, 0, none⟩) 1 1]) (fun yq : Option Addr × Nat => .slice yq.1 (n1 + 1) yq.2) [⟨rb, 49, true, [.slice A L.length cp]⟩] (fun yq W_ => OwnL W_ (w.heap.size) 9 yq.1 (n1 + 1) yq.2 (L1 ++ [kb s])) (fun yq => (60, .slice yq.1 (n1 + 1) yq.2) :: [(0, .pointer (some ⟨rb, 0, none⟩)), (4, .bool false), (5, .slice A1 n1 cp1), (57, .slice A1 n1 cp1), (59, .slice (some ⟨W1.heap.size, 0, none⟩) 1 1)]) (by kernel_rfl) (by kernel_rfl) (fun _ => rfl) (fun wx hm => ?_) (fun yq W2 hX hmW2 => ?_)
      · have hsz := hm.size
        have hszk := hm.kept.size
        have hO_ := hO1.kept hm.kept (fun x hx => hT_ x (by have := hOo x hx; omega))
        obtain ⟨A', cp', w', h1, h2, h3⟩ := run_appendL (P := Try.prog) wx w.heap.size 22 22 9 A1 n1 cp1 L1 ⟨W1.heap.size, 0, none⟩ 1 1 ([kb s]) (by kernel_rfl) (by kernel_rfl) hO_ rfl (fun j x hx => by
          match j, hx with
          | 0, hx =>
            simp only [List.getElem?_cons_zero, Option.some.injEq] at hx
            subst hx
            rw [add_norm]
            exact (hm.at_ 1 rfl).cell 0
          | j + 1, hx => simp at hx) (by omega) (by omega)
        exact ⟨(A', cp'), w', h1, h2, ((MemOk.back2 hm1 hm).froze [true]).offN (fun _ h => h) h3 (fun x hx => .inr (by have := hOo x hx; omega)) (by intro b hb hx; have := hOo _ hx; simp [froze] at hb; subst hb; simp at this; omega)⟩
      clear hT_ hOo
      obtain ⟨A2, cp2⟩ := yq
      have hO2 := hX
      have hl2 := hO2.len
      have ho2 := hO2.own
      refine holds_go _ _ (rsn_s4 rb L A cp A1 n1 cp1 A2 cp2 W1 W2) trivial ?_
      rw [hi3] at hO2 hl2
      refine holds_ret [] (by kernel_rfl) (rsn_r5 rb n1 A2 cp2) ?_
      intro wx hm
      have hB : Blk wx rb 49 [.slice A2 (n1 + 1) cp2] := hm.at_ 0 rfl
      have hQ := hO2.kept hm.kept (fun x hx => by
        rintro ⟨b, hb, hr, he⟩
        simp at hb
        subst hb
        have := ho2 x hx
        simp at he
        omega)
      rw [← hl2] at hB hQ
      exact ⟨rfl, ⟨A2, cp2, hB, hQ⟩, (MemOk.back2 hmW2 hm).kept⟩
    obtain ⟨y, hy⟩ : ∃ y, L[j]? = some y := ⟨_, List.getElem?_eq_getElem h2⟩
    have hdr : L.drop j = y :: L.drop (j + 1) := by
      rw [List.drop_eq_getElem_cons h2]
      congr 1
      exact (List.getElem?_eq_some_iff.1 hy).2
    obtain ⟨g, rfl, hg1, hg2, hcp, hc⟩ := hOL.get h2
    have hgrb : g ≠ rb := fun e => hno ⟨_, rfl, e.symm⟩
    refine holds_wins [⟨g, 0 + j * 1, [.string (bs y)]⟩] (fun _ x' hx' => ?_) ?_
    · simp only [List.mem_singleton] at hx'
      subst hx'
      refine ⟨(by rintro ⟨b, hb, hr, he⟩; simp at hb; subst hb; exact hgrb he.symm), hg2, fun q v hv => ?_⟩
      match q, hv with
      | 0, hv =>
        simp only [List.getElem?_cons_zero, Option.some.injEq] at hv
        subst hv
        exact hc j y hy
      | q + 1, hv => simp at hv
    refine holds_go _ _ (rsn_s6 rb s y L cp g A1 n1 cp1 j W1 J) ⟨decide_eq_true (by omega), rfl, rfl, rfl, rfl, rfl, rfl, ⟨by omega, by omega⟩, rfl, rfl, rfl, rfl, trivial⟩ ?_
    have hgt := gtr_less (bs y) s
    obtain ⟨hi1, hi2⟩ := hinv
    rw [hdr] at hi2
    have hlj : L1.length ≤ j := by rw [hi1, List.length_take]; omega
    by_cases h3 : Op.bytesLess (kb s) y = true
    · skip
      have hi3 : insR (kb s) L = L.take j ++ (kb s :: y :: L.drop (j + 1)) := by
        rw [hi2]
        show _ ++ (if Op.bytesLess (kb s) y = true then _ else _) = _
        rw [if_pos h3]
      refine holds_go _ _ (rsn_s7 rb s y L cp g A1 n1 cp1 j W1 J) ⟨hgt.trans h3, trivial⟩ ?_
      have hT_ : ∀ x, x ≠ rb → ¬ Turned [⟨rb, 49, true, [.slice (some ⟨g, 0, none⟩) L.length cp]⟩] x := by
        rintro x hx ⟨b, hb, hr, he⟩
        simp at hb
        subst hb
        simp at he hr <;> omega
      have hOo := hO1.own
      refine holds_opV (w := w) (S' := fun x => x = rb) (dst := (some 44)) (x := Builtin.append_ #[22, 22] 22 #[.slice A1 n1 cp1, .slice (some ⟨W1.heap.size, 0, none⟩) 1 1]) (fun yq : Option Addr × Nat => .slice yq.1 (n1 + 1) yq.2) [⟨rb, 49, true, [.slice (some ⟨g, 0, none⟩) L.length cp]⟩] (fun yq W_ => OwnL W_ (w.heap.size) 9 yq.1 (n1 + 1) yq.2 (L1 ++ [kb s]) ∧ OwnL W_ (base) 9 (some ⟨g, 0, none⟩) L.length cp L) (fun yq => (44, .slice yq.1 (n1 + 1) yq.2) :: [(0, .pointer (some ⟨rb, 0, none⟩)), (1, .string s), (4, .bool false), (5, .slice A1 n1 cp1), (6, .bool false), (7, .int .i64 (j : Int)), (41, .slice A1 n1 cp1), (43, .slice (some ⟨W1.heap.size, 0, none⟩) 1 1)]) (by kernel_rfl) (by kernel_rfl) (fun _ => rfl) (fun wx hm => ?_) (fun yq W2 hX hmW2 => ?_)
      · have hsz := hm.size
        have hszk := hm.kept.size
        have hO_ := hO1.kept hm.kept (fun x hx => hT_ x (by have := hOo x hx; omega))
        obtain ⟨A', cp', w', h1, h2, h3⟩ := run_appendL (P := Try.prog) wx w.heap.size 22 22 9 A1 n1 cp1 L1 ⟨W1.heap.size, 0, none⟩ 1 1 ([kb s]) (by kernel_rfl) (by kernel_rfl) hO_ rfl (fun j x hx => by
          match j, hx with
          | 0, hx =>
            simp only [List.getElem?_cons_zero, Option.some.injEq] at hx
            subst hx
            rw [add_norm]
            exact (hm.at_ 1 rfl).cell 0
          | j + 1, hx => simp at hx) (by omega) (by omega)
        exact ⟨(A', cp'), w', h1, ⟨h2, (hOL.kept hm.kept (fun x hx => hT_ x (fun e => hno (e ▸ hx)))).kept h3 (fun x hx e => by have := hAo x hx; have := hOo x e; omega)⟩, ((MemOk.back2 hm1 hm).froze [true]).offN (fun _ h => h) h3 (fun x hx => .inr (by have := hOo x hx; omega)) (by intro b hb hx; have := hOo _ hx; simp [froze] at hb; subst hb; simp at this; omega)⟩
      clear hT_ hOo
      obtain ⟨A2, cp2⟩ := yq
      obtain ⟨hO2, hOLW2⟩ := hX
      have hsz2 := hmW2.kept.size
      have hoLW2 := hOLW2.own
      obtain ⟨g', hg', hg3, hg4, _, hc4⟩ := hOLW2.get h2
      simp only [Option.some.injEq, Addr.mk.injEq, and_true] at hg'
      subst hg'
      refine holds_wins [⟨g, 0 + j * 1, [.string (bs y)]⟩] (fun _ x' hx' => ?_) ?_
      · simp only [List.mem_singleton] at hx'
        subst hx'
        refine ⟨(by rintro ⟨b, hb, hr, he⟩; simp at hb; subst hb; exact hgrb he.symm), hg4, fun q v hv => ?_⟩
        match q, hv with
        | 0, hv =>
          simp only [List.getElem?_cons_zero, Option.some.injEq] at hv
          subst hv
          exact hc4 j y hy
        | q + 1, hv => simp at hv
      refine holds_go _ _ (rsn_s9 rb s y L cp g A1 n1 cp1 A2 cp2 j W1 W2 J) ⟨⟨by omega, by omega⟩, trivial⟩ ?_
      have hT_ : ∀ x, x ≠ rb → ¬ Turned [⟨rb, 49, true, [.slice (some ⟨g, 0, none⟩) L.length cp]⟩] x := by
        rintro x hx ⟨b, hb, hr, he⟩
        simp at hb
        subst hb
        simp at he hr <;> omega
      have hOo := hO2.own
      refine holds_opV (w := w) (S' := fun x => x = rb) (dst := (some 54)) (x := Builtin.append_ #[22, 22] 22 #[.slice A2 (n1 + 1) cp2, .slice (some ⟨W2.heap.size, 0, none⟩) 1 1]) (fun yq : Option Addr × Nat => .slice yq.1 (n1 + 1 + 1) yq.2) [⟨rb, 49, true, [.slice (some ⟨g, 0, none⟩) L.length cp]⟩] (fun yq W_ => OwnL W_ (w.heap.size) 9 yq.1 (n1 + 1 + 1) yq.2 (L1 ++ [kb s] ++ [y]) ∧ OwnL W_ (base) 9 (some ⟨g, 0, none⟩) L.length cp L) (fun yq => (54, .slice yq.1 (n1 + 1 + 1) yq.2) :: [(0, .pointer (some ⟨rb, 0, none⟩)), (1, .string s), (4, .bool false), (5, .slice A2 (n1 + 1) cp2), (6, .bool true), (7, .int .i64 (j : Int)), (45, .slice A2 (n1 + 1) cp2), (53, .slice (some ⟨W2.heap.size, 0, none⟩) 1 1)]) (by kernel_rfl) (by kernel_rfl) (fun _ => rfl) (fun wx hm => ?_) (fun yq W3 hX hmW3 => ?_)
      · have hsz := hm.size
        have hszk := hm.kept.size
        have hO_ := hO2.kept hm.kept (fun x hx => hT_ x (by have := hOo x hx; omega))
        obtain ⟨A', cp', w', h1, h2, h3⟩ := run_appendL (P := Try.prog) wx w.heap.size 22 22 9 A2 (n1 + 1) cp2 (L1 ++ [kb s]) ⟨W2.heap.size, 0, none⟩ 1 1 ([y]) (by kernel_rfl) (by kernel_rfl) hO_ rfl (fun j x hx => by
          match j, hx with
          | 0, hx =>
            simp only [List.getElem?_cons_zero, Option.some.injEq] at hx
            subst hx
            rw [add_norm]
            exact (hm.at_ 1 rfl).cell 0
          | j + 1, hx => simp at hx) (by omega) (by omega)
        exact ⟨(A', cp'), w', h1, ⟨h2, (hOLW2.kept hm.kept (fun x hx => hT_ x (fun e => hno (e ▸ hx)))).kept h3 (fun x hx e => by have := hAo x hx; have := hOo x e; omega)⟩, ((MemOk.back2 hmW2 hm).froze [true]).offN (fun _ h => h) h3 (fun x hx => .inr (by have := hOo x hx; omega)) (by intro b hb hx; have := hOo _ hx; simp [froze] at hb; subst hb; simp at this; omega)⟩
      clear hT_ hOo
      obtain ⟨A3, cp3⟩ := yq
      obtain ⟨hO3, hOLW3⟩ := hX
      refine holds_go _ _ (rsn_s11 rb s L cp g n1 A2 cp2 A3 cp3 j W2 W3 J) ⟨in64 (by omega), trivial⟩ ?_
      intro a_ w9 hf hm
      have hT9 : ∀ x, x ≠ rb → ¬ Turned [⟨rb, 49, true, [.slice (some ⟨g, 0, none⟩) L.length cp]⟩] x := by
        rintro x hx ⟨b, hb, hr, he⟩
        simp at hb
        subst hb
        exact hx he.symm
      exact hJ (m' - 1) _ a_ w9 (by omega) ⟨j + 1, true, A3, (n1 + 1 + 1), cp3, _, _, by omega, by simp; omega, by omega, by simp only [if_true]; exact (by rw [hi3, hi1, List.append_assoc, List.append_assoc]; rfl), hO3.kept hm.kept (fun x hx => hT9 x (by have := hO3.own x hx; omega)), hOLW3.kept hm.kept (fun x hx => hT9 x (fun e => hno (e ▸ hx))), by rw [← cast_succ j]⟩ hf (MemOk.back2 hmW3 hm)
    · skip
      have hi3 : insR (kb s) L = L.take j ++ (y :: insR (kb s) (L.drop (j + 1))) := by
        rw [hi2]
        show _ ++ (if Op.bytesLess (kb s) y = true then _ else _) = _
        rw [if_neg h3]
      refine holds_go _ _ (rsn_s12 rb s y L cp g A1 n1 cp1 j W1 J) ⟨hgt.trans (Bool.eq_false_iff.2 h3), ⟨by omega, by omega⟩, trivial⟩ ?_
      have hT_ : ∀ x, x ≠ rb → ¬ Turned [⟨rb, 49, true, [.slice (some ⟨g, 0, none⟩) L.length cp]⟩] x := by
        rintro x hx ⟨b, hb, hr, he⟩
        simp at hb
        subst hb
        simp at he hr <;> omega
      have hOo := hO1.own
      refine holds_opV (w := w) (S' := fun x => x = rb) (dst := (some 54)) (x := Builtin.append_ #[22, 22] 22 #[.slice A1 n1 cp1, .slice (some ⟨W1.heap.size, 0, none⟩) 1 1]) (fun yq : Option Addr × Nat => .slice yq.1 (n1 + 1) yq.2) [⟨rb, 49, true, [.slice (some ⟨g, 0, none⟩) L.length cp]⟩] (fun yq W_ => OwnL W_ (w.heap.size) 9 yq.1 (n1 + 1) yq.2 (L1 ++ [y]) ∧ OwnL W_ (base) 9 (some ⟨g, 0, none⟩) L.length cp L) (fun yq => (54, .slice yq.1 (n1 + 1) yq.2) :: [(0, .pointer (some ⟨rb, 0, none⟩)), (1, .string s), (4, .bool false), (5, .slice A1 n1 cp1), (6, .bool false), (7, .int .i64 (j : Int)), (45, .slice A1 n1 cp1), (53, .slice (some ⟨W1.heap.size, 0, none⟩) 1 1)]) (by kernel_rfl) (by kernel_rfl) (fun _ => rfl) (fun wx hm => ?_) (fun yq W2 hX hmW2 => ?_)
      · have hsz := hm.size
        have hszk := hm.kept.size
        have hO_ := hO1.kept hm.kept (fun x hx => hT_ x (by have := hOo x hx; omega))
        obtain ⟨A', cp', w', h1, h2, h3⟩ := run_appendL (P := Try.prog) wx w.heap.size 22 22 9 A1 n1 cp1 L1 ⟨W1.heap.size, 0, none⟩ 1 1 ([y]) (by kernel_rfl) (by kernel_rfl) hO_ rfl (fun j x hx => by
          match j, hx with
          | 0, hx =>
            simp only [List.getElem?_cons_zero, Option.some.injEq] at hx
            subst hx
            rw [add_norm]
            exact (hm.at_ 1 rfl).cell 0
          | j + 1, hx => simp at hx) (by omega) (by omega)
        exact ⟨(A', cp'), w', h1, ⟨h2, (hOL.kept hm.kept (fun x hx => hT_ x (fun e => hno (e ▸ hx)))).kept h3 (fun x hx e => by have := hAo x hx; have := hOo x e; omega)⟩, ((MemOk.back2 hm1 hm).froze [true]).offN (fun _ h => h) h3 (fun x hx => .inr (by have := hOo x hx; omega)) (by intro b hb hx; have := hOo _ hx; simp [froze] at hb; subst hb; simp at this; omega)⟩
      clear hT_ hOo
      obtain ⟨A2, cp2⟩ := yq
      obtain ⟨hO2, hOLW2⟩ := hX
      refine holds_go _ _ (rsn_s14 rb s L cp g A1 n1 cp1 A2 cp2 j W1 W2 J) ⟨in64 (by omega), trivial⟩ ?_
      intro a_ w9 hf hm
      have hT9 : ∀ x, x ≠ rb → ¬ Turned [⟨rb, 49, true, [.slice (some ⟨g, 0, none⟩) L.length cp]⟩] x := by
        rintro x hx ⟨b, hb, hr, he⟩
        simp at hb
        subst hb
        exact hx he.symm
      exact hJ (m' - 1) _ a_ w9 (by omega) ⟨j + 1, false, A2, (n1 + 1), cp2, _, _, by omega, by simp; omega, by omega, by simp only [Bool.false_eq_true, if_false]; exact ⟨by rw [hi1, List.take_add_one, hy]; rfl, by rw [hi3, List.take_add_one, hy, List.append_assoc]; rfl⟩, hO2.kept hm.kept (fun x hx => hT9 x (by have := hO2.own x hx; omega)), hOLW2.kept hm.kept (fun x hx => hT9 x (fun e => hno (e ▸ hx))), by rw [← cast_succ j]⟩ hf (MemOk.back2 hmW2 hm)
  · skip
    simp only [if_true] at hinv
    by_cases h2 : j < L.length
    rotate_left
    · skip
      refine holds_go _ _ (rsn_s15 rb s L A cp A1 n1 cp1 j W1 J) ⟨decide_eq_false (by omega), rfl, trivial⟩ ?_
      have hj : j = L.length := by omega
      rw [hj, List.drop_length, List.append_nil] at hinv
      rw [hinv] at hO1 hl1
      refine holds_ret [] (by kernel_rfl) (rsn_r16 rb A1 n1 cp1) ?_
      intro wx hm
      have hB : Blk wx rb 49 [.slice A1 (n1) cp1] := hm.at_ 0 rfl
      have hQ := hO1.kept hm.kept (fun x hx => by
        rintro ⟨b, hb, hr, he⟩
        simp at hb
        subst hb
        have := ho1 x hx
        simp at he
        omega)
      rw [← hl1] at hB hQ
      exact ⟨rfl, ⟨A1, cp1, hB, hQ⟩, (MemOk.back2 hm1 hm).kept⟩
    obtain ⟨y, hy⟩ : ∃ y, L[j]? = some y := ⟨_, List.getElem?_eq_getElem h2⟩
    have hdr : L.drop j = y :: L.drop (j + 1) := by
      rw [List.drop_eq_getElem_cons h2]
      congr 1
      exact (List.getElem?_eq_some_iff.1 hy).2
    obtain ⟨g, rfl, hg1, hg2, hcp, hc⟩ := hOL.get h2
    have hgrb : g ≠ rb := fun e => hno ⟨_, rfl, e.symm⟩
    refine holds_wins [⟨g, 0 + j * 1, [.string (bs y)]⟩] (fun _ x' hx' => ?_) ?_
    · simp only [List.mem_singleton] at hx'
      subst hx'
      refine ⟨(by rintro ⟨b, hb, hr, he⟩; simp at hb; subst hb; exact hgrb he.symm), hg2, fun q v hv => ?_⟩
      match q, hv with
      | 0, hv =>
        simp only [List.getElem?_cons_zero, Option.some.injEq] at hv
        subst hv
        exact hc j y hy
      | q + 1, hv => simp at hv
    refine holds_go _ _ (rsn_s17 rb s y L cp g A1 n1 cp1 j W1 J) ⟨decide_eq_true (by omega), rfl, rfl, rfl, rfl, rfl, rfl, rfl, rfl, rfl, rfl, rfl, ⟨by omega, by omega⟩, trivial⟩ ?_
    have hT_ : ∀ x, x ≠ rb → ¬ Turned [⟨rb, 49, true, [.slice (some ⟨g, 0, none⟩) L.length cp]⟩] x := by
      rintro x hx ⟨b, hb, hr, he⟩
      simp at hb
      subst hb
      simp at he hr <;> omega
    have hOo := hO1.own
    refine holds_opV (w := w) (S' := fun x => x = rb) (dst := (some 54)) (x := Builtin.append_ #[22, 22] 22 #[.slice A1 n1 cp1, .slice (some ⟨W1.heap.size, 0, none⟩) 1 1]) (fun yq : Option Addr × Nat => .slice yq.1 (n1 + 1) yq.2) [⟨rb, 49, true, [.slice (some ⟨g, 0, none⟩) L.length cp]⟩] (fun yq W_ => OwnL W_ (w.heap.size) 9 yq.1 (n1 + 1) yq.2 (L1 ++ [y]) ∧ OwnL W_ (base) 9 (some ⟨g, 0, none⟩) L.length cp L) (fun yq => (54, .slice yq.1 (n1 + 1) yq.2) :: [(0, .pointer (some ⟨rb, 0, none⟩)), (1, .string s), (4, .bool false), (5, .slice A1 n1 cp1), (6, .bool true), (7, .int .i64 (j : Int)), (45, .slice A1 n1 cp1), (53, .slice (some ⟨W1.heap.size, 0, none⟩) 1 1)]) (by kernel_rfl) (by kernel_rfl) (fun _ => rfl) (fun wx hm => ?_) (fun yq W2 hX hmW2 => ?_)
    · have hsz := hm.size
      have hszk := hm.kept.size
      have hO_ := hO1.kept hm.kept (fun x hx => hT_ x (by have := hOo x hx; omega))
      obtain ⟨A', cp', w', h1, h2, h3⟩ := run_appendL (P := Try.prog) wx w.heap.size 22 22 9 A1 n1 cp1 L1 ⟨W1.heap.size, 0, none⟩ 1 1 ([y]) (by kernel_rfl) (by kernel_rfl) hO_ rfl (fun j x hx => by
        match j, hx with
        | 0, hx =>
          simp only [List.getElem?_cons_zero, Option.some.injEq] at hx
          subst hx
          rw [add_norm]
          exact (hm.at_ 1 rfl).cell 0
        | j + 1, hx => simp at hx) (by omega) (by omega)
      exact ⟨(A', cp'), w', h1, ⟨h2, (hOL.kept hm.kept (fun x hx => hT_ x (fun e => hno (e ▸ hx)))).kept h3 (fun x hx e => by have := hAo x hx; have := hOo x e; omega)⟩, ((MemOk.back2 hm1 hm).froze [true]).offN (fun _ h => h) h3 (fun x hx => .inr (by have := hOo x hx; omega)) (by intro b hb hx; have := hOo _ hx; simp [froze] at hb; subst hb; simp at this; omega)⟩
    clear hT_ hOo
    obtain ⟨A2, cp2⟩ := yq
    obtain ⟨hO2, hOLW2⟩ := hX
    refine holds_go _ _ (rsn_s19 rb s L cp g A1 n1 cp1 A2 cp2 j W1 W2 J) ⟨in64 (by omega), trivial⟩ ?_
    intro a_ w9 hf hm
    have hT9 : ∀ x, x ≠ rb → ¬ Turned [⟨rb, 49, true, [.slice (some ⟨g, 0, none⟩) L.length cp]⟩] x := by
      rintro x hx ⟨b, hb, hr, he⟩
      simp at hb
      subst hb
      exact hx he.symm
    exact hJ (m' - 1) _ a_ w9 (by omega) ⟨j + 1, true, A2, (n1 + 1), cp2, _, _, by omega, by simp; omega, by omega, by simp only [if_true]; exact (by rw [← hinv, hdr, List.append_assoc]; rfl), hO2.kept hm.kept (fun x hx => hT9 x (by have := hO2.own x hx; omega)), hOLW2.kept hm.kept (fun x hx => hT9 x (fun e => hno (e ▸ hx))), by rw [← cast_succ j]⟩ hf (MemOk.back2 hmW2 hm)

end Go.Proofs.Ythndmmondlpghaa
