/- The net's functions: New, Len, Send. -/
import Derived.Test.YthndmmondlpghaaKeysX
namespace Go.Proofs.Ythndmmondlpghaa
open Go.RowKit

theorem run_newNap {P : Program} (w : World) (t : TypeId) : ∃ w', (Instr.makeMap t none).run P w = .ok (.map (some w.heap.size)) w' ∧ NapAt w' w.heap.size [] 0 ∧ Kept (fun _ => False) w w' :=
  ⟨_, run_makeMap t w, (Go.MapKept.heap_alloc w _).1, (Kept.refl _ w).alloc _⟩
def NetNew (w : World) (e : Ending) (w' : World) : Prop := ∃ nb mb, e = .returned (.pointer (some ⟨nb, 0, none⟩)) ∧ w.heap.size ≤ mb ∧ mb < nb ∧ Blk w' nb 43 [.map (some mb), .int .i64 0] ∧ NapAt w' mb [] 0 ∧ Kept (fun _ => False) w w'
theorem nnw_s1 (w : World) : Res.prune [0] [] (exec Try.prog (bodyOf Try.f9) 4 9 [⟨false, 0, []⟩] [.code []] ⟨[], [], [], w.heap.size⟩) = some ⟨[], dupR [], [.ops [1, 0] [0, 1, 2, 3], .code [1, 1]], ⟨[(0, .pointer none)], [], [], w.heap.size⟩⟩ := by kernel_rfl
theorem nnw_s3 (w : World) (W1 : World) : Res.prune [0] [] (exec Try.prog (bodyOf Try.f9) 4 7 [⟨false, 0, []⟩, ⟨false, 0, []⟩, ⟨false, 0, []⟩] [.ops [1, 0] [1, 2, 3], .code [1, 1]] ⟨[(1, .map (some w.heap.size)), (0, .pointer none)], [], [], W1.heap.size⟩) = some ⟨[], dupR [], [.code [1, 1]], ⟨[(0, .pointer (some ⟨W1.heap.size, 0, none⟩))], [⟨W1.heap.size, 43, true, [.map (some w.heap.size), .int .i64 0]⟩], [], W1.heap.size + 1⟩⟩ := by kernel_rfl
theorem nnw_r4 (w : World) (W1 : World) : resL Try.prog [] [⟨W1.heap.size, 43, true, [.map (some w.heap.size), .int .i64 0]⟩] [(0, .pointer (some ⟨W1.heap.size, 0, none⟩))] Try.f9.results.toList [] = some ([.pointer (some ⟨W1.heap.size, 0, none⟩)], dupR []) := by kernel_rfl
set_option maxRecDepth 100000 in
set_option maxHeartbeats 4000000 in
theorem new_any  (w : World) :
    Calls Try.prog 9 #[] w (NetNew w) := by
  refine calls_of_holds (S := (fun _ => False)) (l := []) (n := 4) Try.func9 (body_of (by kernel_rfl)) rfl (by simp) (MemOk.none w _) ?_
  refine holds_go _ _ (nnw_s1 w) trivial ?_
  refine holds_opW (w := w) (S' := fun _ => False) (dst := (some 1)) (x := Instr.makeMap 41 none) (fun _ => .map (some w.heap.size)) (fun _ W => NapAt W w.heap.size [] 0) (fun _ => [(1, .map (some w.heap.size)), (0, .pointer none)]) (by kernel_rfl) (by kernel_rfl) (fun _ => rfl) (fun wx hm => ?_) (fun _ W1 hX hmW => ?_)
  · obtain ⟨w', h1, h2, h3⟩ := run_newNap (P := Try.prog) wx 41
    have hs : wx.heap.size = w.heap.size := hm.size
    rw [hs] at h1 h2
    exact ⟨0, w', h1, h2, (hm.same h3).2⟩
  have hlW := hX.lt
  refine holds_go _ _ (nnw_s3 w W1) trivial ?_
  refine holds_ret [] (by kernel_rfl) (nnw_r4 w W1) ?_
  intro wx hm
  exact ⟨W1.heap.size, w.heap.size, rfl, Nat.le_refl _, by omega, hm.at_ 0 rfl, hX.kept hm.kept (by rintro ⟨b, hb, hr, he⟩; simp at hb), (MemOk.back2 hmW hm).kept⟩

theorem new_net (w : World) : Calls Try.prog 9 #[] w (fun e w' => ∃ nb mb, e = .returned (.pointer (some ⟨nb, 0, none⟩)) ∧ w.heap.size ≤ mb ∧ mb < nb ∧ NetAt 43 w' nb mb [] ∧ Kept (fun _ => False) w w') :=
  (new_any w).mono fun e w' ⟨nb, mb, h1, h2, h3, h4, h5, h6⟩ => ⟨nb, mb, h1, h2, h3, ⟨[], 0, h4, h5, netOk_new, fr_new.symm, by omega⟩, h6⟩
theorem nln_s1 (a : Int) (nb : Nat) (mb : Nat) (w : World) : Res.prune [2] [] (exec Try.prog (bodyOf Try.f12) 7 15 [⟨false, 0, []⟩, ⟨false, 0, []⟩, ⟨false, 0, []⟩, ⟨false, 0, []⟩, ⟨false, 0, [⟨false, 0, 1, 1⟩]⟩, ⟨false, 0, []⟩] [.code []] ⟨[(0, .pointer (some ⟨nb, 0, none⟩))], [⟨nb, 43, false, [.map (some mb), .int .i64 a]⟩], [], w.heap.size⟩) = some ⟨[], dupR [(nb, 1, 1)], [.code [1, 1]], ⟨[(2, .int .i64 a)], [⟨nb, 43, false, [.map (some mb), .int .i64 a]⟩], [], w.heap.size⟩⟩ := by kernel_rfl
theorem nln_r2 (a : Int) (nb : Nat) (mb : Nat) : resL Try.prog [] [⟨nb, 43, false, [.map (some mb), .int .i64 a]⟩] [(2, .int .i64 a)] Try.f12.results.toList [] = some ([.int .i64 a], dupR []) := by kernel_rfl
set_option maxRecDepth 100000 in
set_option maxHeartbeats 4000000 in
theorem len_any (nb mb : Nat) (a : Int) (w : World) (hp : Blk w nb 43 [.map (some mb), .int .i64 a]) :
    Calls Try.prog 12 #[.pointer (some ⟨nb, 0, none⟩)] w (RetK (.int .i64 a) w) := by
  refine calls_of_holds (S := (fun _ => False)) (l := [.pointer (some ⟨nb, 0, none⟩)]) (n := 7) Try.func12 (body_of (by kernel_rfl)) rfl (by simp) (MemOk.start (bk := [⟨nb, 43, false, [.map (some mb), .int .i64 a]⟩]) (wn := []) (by simpa using hp) (by simp) (by simp) (by simp)) ?_
  refine holds_go _ _ (nln_s1 a nb mb w) trivial ?_
  refine holds_ret [] (by kernel_rfl) (nln_r2 a nb mb) ?_
  intro wx hm
  exact ⟨rfl, hm.kept⟩

theorem len_net (nb mb : Nat) (L : List (List UInt8)) (w : World) (h : NetAt 43 w nb mb L) : Calls Try.prog 12 #[.pointer (some ⟨nb, 0, none⟩)] w (RetK (.int .i64 (L.length : Int)) w) := by
  obtain ⟨cs, ck, hB, _⟩ := h
  exact len_any nb mb _ w hB
theorem nsnf_s1 (a : Int) (nb : Nat) (mb : Nat) (s : ByteArray) (w : World) : Res.prune [0, 1, 4] [] (exec Try.prog (bodyOf Try.f11) 29 26 [⟨false, 0, []⟩, ⟨false, 0, []⟩, ⟨false, 0, []⟩, ⟨false, 0, []⟩, ⟨false, 0, [⟨false, 0, 1, 1⟩]⟩, ⟨false, 0, []⟩, ⟨false, 0, []⟩, ⟨true, 0, []⟩, ⟨true, 0, []⟩, ⟨true, 0, []⟩, ⟨false, 2, []⟩, ⟨true, 0, []⟩, ⟨false, 0, []⟩] [.code []] ⟨[(0, .pointer (some ⟨nb, 0, none⟩)), (1, .string s)], [⟨nb, 43, false, [.map (some mb), .int .i64 a]⟩], [], w.heap.size⟩) = some ⟨[(decide ((a : Int) ≥ 64)) = true, (decide ((a : Int) ≥ 64)) = true, (decide ((a : Int) ≥ 64)) = true, (decide ((a : Int) ≥ 64)) = true, true = true], dupR [(nb, 1, 1)], [.code [1, 0, 1, 0, 1], .code [1, 1]], ⟨[(0, .pointer (some ⟨nb, 0, none⟩)), (1, .string s), (4, .bool false)], [⟨nb, 43, false, [.map (some mb), .int .i64 a]⟩], [], w.heap.size⟩⟩ := by kernel_rfl
theorem nsnf_r2 (a : Int) (nb : Nat) (mb : Nat) (s : ByteArray) : resL Try.prog [] [⟨nb, 43, false, [.map (some mb), .int .i64 a]⟩] [(0, .pointer (some ⟨nb, 0, none⟩)), (1, .string s), (4, .bool false)] Try.f11.results.toList [] = some ([.bool false], dupR []) := by kernel_rfl
set_option maxRecDepth 100000 in
set_option maxHeartbeats 4000000 in
theorem send_full (nb mb : Nat) (a : Int) (s : ByteArray) (ha : 64 ≤ a) (w : World) (hp : Blk w nb 43 [.map (some mb), .int .i64 a]) :
    Calls Try.prog 11 #[.pointer (some ⟨nb, 0, none⟩), .string s] w (RetK (.bool false) w) := by
  refine calls_of_holds (S := (fun _ => False)) (l := [.pointer (some ⟨nb, 0, none⟩), .string s]) (n := 29) Try.func11 (body_of (by kernel_rfl)) rfl (by simp) (MemOk.start (bk := [⟨nb, 43, false, [.map (some mb), .int .i64 a]⟩]) (wn := []) (by simpa using hp) (by simp) (by simp) (by simp)) ?_
  refine holds_go _ _ (nsnf_s1 a nb mb s w) ⟨decide_eq_true (by omega), decide_eq_true (by omega), decide_eq_true (by omega), decide_eq_true (by omega), rfl, trivial⟩ ?_
  refine holds_ret [] (by kernel_rfl) (nsnf_r2 a nb mb s) ?_
  intro wx hm
  exact ⟨rfl, hm.kept⟩

theorem nsnl_s1 (a : Int) (nb : Nat) (mb : Nat) (s : ByteArray) (w : World) : Res.prune [0, 1, 4] [] (exec Try.prog (bodyOf Try.f11) 29 26 [⟨false, 0, []⟩, ⟨false, 0, []⟩, ⟨false, 0, []⟩, ⟨false, 0, []⟩, ⟨false, 0, [⟨false, 0, 1, 1⟩]⟩, ⟨false, 0, []⟩, ⟨false, 0, []⟩, ⟨false, 0, []⟩, ⟨false, 0, []⟩, ⟨false, 0, []⟩, ⟨false, 3, []⟩, ⟨true, 0, []⟩, ⟨false, 0, []⟩] [.code []] ⟨[(0, .pointer (some ⟨nb, 0, none⟩)), (1, .string s)], [⟨nb, 43, false, [.map (some mb), .int .i64 a]⟩], [], w.heap.size⟩) = some ⟨[(decide ((a : Int) ≥ 64)) = false, (decide ((a : Int) ≥ 64)) = false, (decide ((a : Int) ≥ 64)) = false, (decide ((a : Int) ≥ 64)) = false, (decide (((s.size : Int) : Int) > 1000)) = true], dupR [(nb, 1, 1)], [.code [1, 0, 1, 0, 1], .code [1, 1]], ⟨[(0, .pointer (some ⟨nb, 0, none⟩)), (1, .string s), (4, .bool false)], [⟨nb, 43, false, [.map (some mb), .int .i64 a]⟩], [], w.heap.size⟩⟩ := by kernel_rfl
theorem nsnl_r2 (a : Int) (nb : Nat) (mb : Nat) (s : ByteArray) : resL Try.prog [] [⟨nb, 43, false, [.map (some mb), .int .i64 a]⟩] [(0, .pointer (some ⟨nb, 0, none⟩)), (1, .string s), (4, .bool false)] Try.f11.results.toList [] = some ([.bool false], dupR []) := by kernel_rfl
set_option maxRecDepth 100000 in
set_option maxHeartbeats 4000000 in
theorem send_long (nb mb : Nat) (a : Int) (s : ByteArray) (ha : a < 64) (hs : 1000 < s.size) (w : World) (hp : Blk w nb 43 [.map (some mb), .int .i64 a]) :
    Calls Try.prog 11 #[.pointer (some ⟨nb, 0, none⟩), .string s] w (RetK (.bool false) w) := by
  refine calls_of_holds (S := (fun _ => False)) (l := [.pointer (some ⟨nb, 0, none⟩), .string s]) (n := 29) Try.func11 (body_of (by kernel_rfl)) rfl (by simp) (MemOk.start (bk := [⟨nb, 43, false, [.map (some mb), .int .i64 a]⟩]) (wn := []) (by simpa using hp) (by simp) (by simp) (by simp)) ?_
  refine holds_go _ _ (nsnl_s1 a nb mb s w) ⟨decide_eq_false (by omega), decide_eq_false (by omega), decide_eq_false (by omega), decide_eq_false (by omega), decide_eq_true (by omega), trivial⟩ ?_
  refine holds_ret [] (by kernel_rfl) (nsnl_r2 a nb mb s) ?_
  intro wx hm
  exact ⟨rfl, hm.kept⟩

theorem nsno_s1 (a : Int) (nb : Nat) (mb : Nat) (s : ByteArray) (w : World) : Res.prune [0, 4, 18, 19] [] (exec Try.prog (bodyOf Try.f11) 29 30 [⟨false, 0, []⟩, ⟨false, 0, []⟩, ⟨false, 0, []⟩, ⟨false, 0, []⟩, ⟨false, 0, [⟨false, 0, 1, 1⟩]⟩, ⟨false, 0, []⟩, ⟨false, 0, []⟩, ⟨false, 0, []⟩, ⟨false, 0, []⟩, ⟨false, 0, []⟩, ⟨false, 3, []⟩, ⟨false, 0, []⟩, ⟨false, 0, []⟩, ⟨false, 0, []⟩, ⟨false, 0, []⟩, ⟨false, 0, [⟨false, 0, 0, 1⟩]⟩, ⟨false, 0, []⟩] [.code []] ⟨[(0, .pointer (some ⟨nb, 0, none⟩)), (1, .string s)], [⟨nb, 43, true, [.map (some mb), .int .i64 a]⟩], [], w.heap.size⟩) = some ⟨[(decide ((a : Int) ≥ 64)) = false, (decide ((a : Int) ≥ 64)) = false, (decide ((a : Int) ≥ 64)) = false, (decide ((a : Int) ≥ 64)) = false, (decide (((s.size : Int) : Int) > 1000)) = false], dupR [(nb, 1, 1), (nb, 0, 1)], [.ops [1, 1, 0] [5, 6, 7], .code [1, 1, 1]], ⟨[(0, .pointer (some ⟨nb, 0, none⟩)), (4, .bool false), (18, .map (some mb)), (19, .string s)], [⟨nb, 43, true, [.map (some mb), .int .i64 a]⟩], [], w.heap.size⟩⟩ := by kernel_rfl
theorem nsno_s3 (a : Int) (nb : Nat) (mb : Nat) (s : ByteArray) (cs : List NE) (w : World) : Res.prune [0, 4, 18, 19, 21] [] (exec Try.prog (bodyOf Try.f11) 29 4 [⟨false, 1, []⟩] [.ops [1, 1, 0] [6, 7], .code [1, 1, 1]] ⟨[(20, .int .i64 (cntN cs s)), (0, .pointer (some ⟨nb, 0, none⟩)), (4, .bool false), (18, .map (some mb)), (19, .string s)], [⟨nb, 43, true, [.map (some mb), .int .i64 a]⟩], [], w.heap.size⟩) = some ⟨[inR .i64 (((cntN cs s) + 1))], dupR [], [.ops [1, 1, 0] [7], .code [1, 1, 1]], ⟨[(0, .pointer (some ⟨nb, 0, none⟩)), (4, .bool false), (18, .map (some mb)), (19, .string s), (21, .int .i64 ((cntN cs s) + 1))], [⟨nb, 43, true, [.map (some mb), .int .i64 a]⟩], [], w.heap.size⟩⟩ := by kernel_rfl
theorem nsno_s5 (a : Int) (nb : Nat) (mb : Nat) (s : ByteArray) (cs : List NE) (W1 : World) : Res.prune [4] [] (exec Try.prog (bodyOf Try.f11) 29 19 [⟨false, 0, []⟩, ⟨false, 0, []⟩, ⟨false, 0, []⟩, ⟨false, 0, [⟨false, 0, 1, 1⟩]⟩, ⟨false, 1, []⟩, ⟨false, 0, []⟩, ⟨false, 0, []⟩, ⟨false, 0, [⟨false, 0, 1, 1⟩]⟩, ⟨false, 0, []⟩] [.ops [1, 1, 0] [], .code [1, 1, 1]] ⟨[(0, .pointer (some ⟨nb, 0, none⟩)), (4, .bool false), (18, .map (some mb)), (19, .string s), (21, .int .i64 ((cntN cs s) + 1))], [⟨nb, 43, true, [.map (some mb), .int .i64 a]⟩], [], W1.heap.size⟩) = some ⟨[inR .i64 ((a + 1))], dupR [(nb, 1, 1), (nb, 1, 1)], [.code [1, 1, 1, 1, 1]], ⟨[(4, .bool true)], [⟨nb, 43, true, [.map (some mb), .int .i64 (a + 1)]⟩], [], W1.heap.size⟩⟩ := by kernel_rfl
theorem nsno_r6 (a : Int) (nb : Nat) (mb : Nat) : resL Try.prog [] [⟨nb, 43, true, [.map (some mb), .int .i64 (a + 1)]⟩] [(4, .bool true)] Try.f11.results.toList [] = some ([.bool true], dupR []) := by kernel_rfl
set_option maxRecDepth 100000 in
set_option maxHeartbeats 4000000 in
theorem send_ok (nb mb : Nat) (a : Int) (s : ByteArray) (cs : List NE) (ck : Nat) (ha : 0 ≤ a ∧ a < 64) (hs : s.size ≤ 1000) (hc : 0 ≤ cntN cs s ∧ cntN cs s ≤ 64) (hne : nb ≠ mb) (w : World) (hp : Blk w nb 43 [.map (some mb), .int .i64 a]) (hmp : NapAt w mb cs ck) :
    Calls Try.prog 11 #[.pointer (some ⟨nb, 0, none⟩), .string s] w (fun e w' => e = .returned (.bool true) ∧ Blk w' nb 43 [.map (some mb), .int .i64 (a + 1)] ∧ NapAt w' mb (putN cs s (cntN cs s + 1) ck) (putK cs s ck) ∧ Kept (fun x => x = nb ∨ x = mb) w w') := by
  refine calls_of_holds (S := (fun x => x = nb)) (l := [.pointer (some ⟨nb, 0, none⟩), .string s]) (n := 29) Try.func11 (body_of (by kernel_rfl)) rfl (by simp) (MemOk.start (bk := [⟨nb, 43, true, [.map (some mb), .int .i64 a]⟩]) (wn := []) (by simpa using hp) (by simp) (by simp) (by simp)) ?_
  refine holds_go _ _ (nsno_s1 a nb mb s w) ⟨decide_eq_false (by omega), decide_eq_false (by omega), decide_eq_false (by omega), decide_eq_false (by omega), decide_eq_false (by omega), trivial⟩ ?_
  refine holds_opR (dst := (some 20)) (x := Instr.lookup 41 (.map (some mb)) (.string s) false) (.int .i64 (cntN cs s)) (by kernel_rfl) (by kernel_rfl) rfl (fun wx hm => ?_) ?_
  · exact run_lookN (P := Try.prog) wx 41 9 3 mb _ _ _ (by kernel_rfl) (by kernel_rfl) (by kernel_rfl) (hmp.kept hm.kept (fun e => hne e.symm))
  refine holds_go _ _ (nsno_s3 a nb mb s cs w) ⟨in64 (by omega), trivial⟩ ?_
  refine holds_opSW (w := w) (S' := (fun x => x = nb ∨ x = mb)) (x := Instr.mapUpdate 41 (.map (some mb)) (.string s) (.int .i64 (cntN cs s + 1))) (fun W_ => NapAt W_ mb (putN cs s (cntN cs s + 1) ck) (putK cs s ck)) (by kernel_rfl) (by kernel_rfl) (fun wx hm => ?_) (fun W1 hX1 hm1 => ?_)
  · obtain ⟨w', h1, h2, h3, h4⟩ := run_putN (P := Try.prog) wx 41 9 3 mb cs ck s (cntN cs s + 1) (by kernel_rfl) (by kernel_rfl) (hmp.kept hm.kept (fun e => hne e.symm))
    exact ⟨w', h1, h2, hm.offN (fun _ h => .inl h) h3 (fun x e => .inl (.inr e)) (by intro b hb; simp at hb; subst hb; exact hne)⟩
  refine holds_go _ _ (nsno_s5 a nb mb s cs W1) ⟨in64 (by omega), trivial⟩ ?_
  refine holds_ret [] (by kernel_rfl) (nsno_r6 a nb mb) ?_
  intro wx hm
  exact ⟨rfl, hm.at_ 0 rfl, hX1.kept hm.kept (by rintro ⟨b, hb, hr, he⟩; simp at hb; subst hb; exact hne he), (MemOk.back2 hm1 hm).kept⟩

end Go.Proofs.Ythndmmondlpghaa
