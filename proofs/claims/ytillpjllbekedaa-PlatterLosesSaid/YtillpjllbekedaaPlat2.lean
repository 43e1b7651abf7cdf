/- The platter's functions: Write, Read. -/
import Derived.Test.YtillpjllbekedaaPlat
namespace Go.Proofs.Ytillpjllbekedaa
open Go.RowKit

theorem pwo_s1 (n : Nat) (k : Int) (a : Int) (c : Int) (lb : Nat) (mb : Nat) (pb : Nat) (s : ByteArray) (w : World) : Res.prune [0, 1, 2, 6, 7] [] (exec Try.prog (bodyOf Try.f12) 28 11 [⟨false, 0, []⟩, ⟨false, 0, []⟩] [.code []] ⟨[(0, .pointer (some ⟨pb, 0, none⟩)), (1, .int .i64 k), (2, .string s)], [⟨pb, 53, false, [.slice (some ⟨lb, 0, none⟩) n n, .map (some mb), .bool true, .int .i64 a, .int .i64 c]⟩], [], w.heap.size⟩) = some ⟨[], dupR [], [.ops [1, 0, 0] [1, 2], .code [1, 0, 1], .code [1, 1]], ⟨[(0, .pointer (some ⟨pb, 0, none⟩)), (1, .int .i64 k), (2, .string s), (6, .int .i64 0), (7, .pointer (some ⟨pb, 0, none⟩))], [⟨pb, 53, false, [.slice (some ⟨lb, 0, none⟩) n n, .map (some mb), .bool true, .int .i64 a, .int .i64 c]⟩], [], w.heap.size⟩⟩ := by kernel_rfl
theorem pwo_c2 (k : Int) (pb : Nat) (s : ByteArray) : callAt Try.prog (opsOf (getCode (bodyOf Try.f12) [1, 0, 0])) [(0, .pointer (some ⟨pb, 0, none⟩)), (1, .int .i64 k), (2, .string s), (6, .int .i64 0), (7, .pointer (some ⟨pb, 0, none⟩))] 1 = some (23, [.pointer (some ⟨pb, 0, none⟩)], some 8, []) := by kernel_rfl
theorem pwo_s3 (n : Nat) (k : Int) (a : Int) (c : Int) (lb : Nat) (mb : Nat) (pb : Nat) (s : ByteArray) (z2 : Nat) : Res.prune [0, 1, 2, 6] [] (exec Try.prog (bodyOf Try.f12) 28 10 [⟨false, 0, []⟩, ⟨true, 0, []⟩, ⟨false, 0, []⟩] [.ops [1, 0, 0] [2], .code [1, 0, 1], .code [1, 1]] ⟨[(8, .bool false), (0, .pointer (some ⟨pb, 0, none⟩)), (1, .int .i64 k), (2, .string s), (6, .int .i64 0), (7, .pointer (some ⟨pb, 0, none⟩))], [⟨pb, 53, false, [.slice (some ⟨lb, 0, none⟩) n n, .map (some mb), .bool true, .int .i64 a, .int .i64 c]⟩], [], z2⟩) = some ⟨[true = true], dupR [], [.code [1, 0, 1, 0, 1], .code [1, 1]], ⟨[(0, .pointer (some ⟨pb, 0, none⟩)), (1, .int .i64 k), (2, .string s), (6, .int .i64 70)], [⟨pb, 53, false, [.slice (some ⟨lb, 0, none⟩) n n, .map (some mb), .bool true, .int .i64 a, .int .i64 c]⟩], [], z2⟩⟩ := by kernel_rfl
theorem pwo_r4 (n : Nat) (k : Int) (a : Int) (c : Int) (lb : Nat) (mb : Nat) (pb : Nat) (s : ByteArray) : resL Try.prog [] [⟨pb, 53, false, [.slice (some ⟨lb, 0, none⟩) n n, .map (some mb), .bool true, .int .i64 a, .int .i64 c]⟩] [(0, .pointer (some ⟨pb, 0, none⟩)), (1, .int .i64 k), (2, .string s), (6, .int .i64 70)] Try.f12.results.toList [] = some ([.int .i64 70], dupR []) := by kernel_rfl
set_option maxRecDepth 100000 in
set_option maxHeartbeats 4000000 in
theorem write_off (n lb mb pb : Nat) (a c : Int) (k : Int) (s : ByteArray) (w : World) (hp : Blk w pb 53 [.slice (some ⟨lb, 0, none⟩) n n, .map (some mb), .bool true, .int .i64 a, .int .i64 c]) :
    Calls Try.prog 12 #[.pointer (some ⟨pb, 0, none⟩), .int .i64 k, .string s] w (RetK (.int .i64 70) w) := by
  refine calls_of_holds (S := (fun _ => False)) (l := [.pointer (some ⟨pb, 0, none⟩), .int .i64 k, .string s]) (n := 28) Try.func12 (body_of (by kernel_rfl)) rfl (by simp) (MemOk.start (bk := [⟨pb, 53, false, [.slice (some ⟨lb, 0, none⟩) n n, .map (some mb), .bool true, .int .i64 a, .int .i64 c]⟩]) (wn := []) (by simpa using hp) (by simp) (by simp) (by simp)) ?_
  refine holds_go _ _ (pwo_s1 n k a c lb mb pb s w) trivial ?_
  refine holds_callP (.bool false) (pwo_c2 k pb s) trivial rfl (fun wx hm => act_off n lb mb pb a c wx (hm.at_ 0 rfl)) fun z2 hz2 => ?_
  replace hz2 : w.heap.size ≤ z2 := hz2
  refine holds_go _ _ (pwo_s3 n k a c lb mb pb s z2) ⟨rfl, trivial⟩ ?_
  refine holds_ret [] (by kernel_rfl) (pwo_r4 n k a c lb mb pb s) ?_
  intro wx hm
  exact ⟨rfl, hm.kept⟩

def pwc_v1 (n : Nat) (a : Int) (c : Int) (lb : Nat) (mb : Nat) : List Value := [.slice (some ⟨lb, 0, none⟩) n n, .map (some mb), .bool (decide (c = 1)), .int .i64 (a + 1), .int .i64 (dn c)]
theorem pwc_s1 (n : Nat) (k : Int) (a : Int) (c : Int) (lb : Nat) (mb : Nat) (pb : Nat) (s : ByteArray) (w : World) : Res.prune [0, 1, 2, 6, 7] [] (exec Try.prog (bodyOf Try.f12) 28 11 [⟨false, 0, []⟩, ⟨false, 0, []⟩] [.code []] ⟨[(0, .pointer (some ⟨pb, 0, none⟩)), (1, .int .i64 k), (2, .string s)], [⟨pb, 53, true, [.slice (some ⟨lb, 0, none⟩) n n, .map (some mb), .bool false, .int .i64 a, .int .i64 c]⟩], [], w.heap.size⟩) = some ⟨[], dupR [], [.ops [1, 0, 0] [1, 2], .code [1, 0, 1], .code [1, 1]], ⟨[(0, .pointer (some ⟨pb, 0, none⟩)), (1, .int .i64 k), (2, .string s), (6, .int .i64 0), (7, .pointer (some ⟨pb, 0, none⟩))], [⟨pb, 53, true, [.slice (some ⟨lb, 0, none⟩) n n, .map (some mb), .bool false, .int .i64 a, .int .i64 c]⟩], [], w.heap.size⟩⟩ := by kernel_rfl
theorem pwc_c2 (k : Int) (pb : Nat) (s : ByteArray) : callAt Try.prog (opsOf (getCode (bodyOf Try.f12) [1, 0, 0])) [(0, .pointer (some ⟨pb, 0, none⟩)), (1, .int .i64 k), (2, .string s), (6, .int .i64 0), (7, .pointer (some ⟨pb, 0, none⟩))] 1 = some (23, [.pointer (some ⟨pb, 0, none⟩)], some 8, []) := by kernel_rfl
theorem pwc_s3 (n : Nat) (k : Int) (a : Int) (c : Int) (lb : Nat) (mb : Nat) (pb : Nat) (s : ByteArray) (z2 : Nat) : Res.prune [0, 1, 2, 6] [] (exec Try.prog (bodyOf Try.f12) 28 10 [⟨false, 0, []⟩, ⟨true, 0, []⟩, ⟨false, 0, []⟩] [.ops [1, 0, 0] [2], .code [1, 0, 1], .code [1, 1]] ⟨[(8, .bool (!decide (c = 1))), (0, .pointer (some ⟨pb, 0, none⟩)), (1, .int .i64 k), (2, .string s), (6, .int .i64 0), (7, .pointer (some ⟨pb, 0, none⟩))], [⟨pb, 53, true, (pwc_v1 n a c lb mb)⟩], [], z2⟩) = some ⟨[(!(!decide (c = 1))) = true], dupR [], [.code [1, 0, 1, 0, 1], .code [1, 1]], ⟨[(0, .pointer (some ⟨pb, 0, none⟩)), (1, .int .i64 k), (2, .string s), (6, .int .i64 70)], [⟨pb, 53, true, (pwc_v1 n a c lb mb)⟩], [], z2⟩⟩ := by kernel_rfl
theorem pwc_r4 (n : Nat) (k : Int) (a : Int) (c : Int) (lb : Nat) (mb : Nat) (pb : Nat) (s : ByteArray) : resL Try.prog [] [⟨pb, 53, true, (pwc_v1 n a c lb mb)⟩] [(0, .pointer (some ⟨pb, 0, none⟩)), (1, .int .i64 k), (2, .string s), (6, .int .i64 70)] Try.f12.results.toList [] = some ([.int .i64 70], dupR []) := by kernel_rfl
set_option maxRecDepth 100000 in
set_option maxHeartbeats 4000000 in
theorem write_cut (n lb mb pb : Nat) (a c : Int) (ha : 0 ≤ a ∧ a < 4611686018427387904) (hc : 0 ≤ c ∧ c < 4611686018427387904) (hc1 : decide (c = 1) = true) (k : Int) (s : ByteArray) (w : World) (hp : Blk w pb 53 [.slice (some ⟨lb, 0, none⟩) n n, .map (some mb), .bool false, .int .i64 a, .int .i64 c]) :
    Calls Try.prog 12 #[.pointer (some ⟨pb, 0, none⟩), .int .i64 k, .string s] w (fun e w' => e = .returned (.int .i64 70) ∧ Blk w' pb 53 [.slice (some ⟨lb, 0, none⟩) n n, .map (some mb), .bool (decide (c = 1)), .int .i64 (a + 1), .int .i64 (dn c)] ∧ Kept (fun x => x = pb) w w') := by
  refine calls_of_holds (S := (fun x => x = pb)) (l := [.pointer (some ⟨pb, 0, none⟩), .int .i64 k, .string s]) (n := 28) Try.func12 (body_of (by kernel_rfl)) rfl (by simp) (MemOk.start (bk := [⟨pb, 53, true, [.slice (some ⟨lb, 0, none⟩) n n, .map (some mb), .bool false, .int .i64 a, .int .i64 c]⟩]) (wn := []) (by simpa using hp) (by simp) (by simp) (by simp)) ?_
  refine holds_go _ _ (pwc_s1 n k a c lb mb pb s w) trivial ?_
  refine holds_callM (.bool (!decide (c = 1))) [⟨pb, 53, true, (pwc_v1 n a c lb mb)⟩] (pwc_c2 k pb s) trivial rfl (fun wx hm => ?_) fun z2 hz2 => ?_
  · refine (act_live n lb mb pb a c ha hc wx (hm.at_ 0 rfl)).mono fun e w' he => ?_
    obtain ⟨h7, h8, h9⟩ := he
    exact ⟨h7, hm.set1 0 rfl rfl h9 h8⟩
  replace hz2 : w.heap.size ≤ z2 := hz2
  refine holds_go _ _ (pwc_s3 n k a c lb mb pb s z2) ⟨(by rw [show (!decide (c = 1)) = false from (by rw [hc1]; rfl)]; rfl), trivial⟩ ?_
  refine holds_ret [] (by kernel_rfl) (pwc_r4 n k a c lb mb pb s) ?_
  intro wx hm
  exact ⟨rfl, hm.at_ 0 rfl, hm.kept⟩

def WrX (mb : Nat) (cs : List CE) (ck : Nat) (k : Int) (s : ByteArray) (j : Nat) (w : World) : Prop := if j = 0 then MapAt w mb cs ck else MapAt w mb (putC cs ck k (intsOf s)).1 (putC cs ck k (intsOf s)).2
def pwr_v1 (n : Nat) (a : Int) (c : Int) (lb : Nat) (mb : Nat) : List Value := [.slice (some ⟨lb, 0, none⟩) n n, .map (some mb), .bool (decide (c = 1)), .int .i64 (a + 1), .int .i64 (dn c)]
def pwr_Q (n : Nat) (k : Int) (a : Int) (c : Int) (lb : Nat) (mb : Nat) (pb : Nat) (s : ByteArray) (cs : List CE) (ck : Nat) (w : World) : Exit → Act → World → Prop := bodyPost Try.prog Try.f12 (fun e w' => e = .returned (.int .i64 0) ∧ Blk w' pb 53 [.slice (some ⟨lb, 0, none⟩) n n, .map (some mb), .bool (decide (c = 1)), .int .i64 (a + 1), .int .i64 (dn c)] ∧ MapAt w' mb (putC cs ck k (intsOf s)).1 (putC cs ck k (intsOf s)).2 ∧ Kept (fun x => x = pb ∨ x = mb) w w')
theorem pwr_s1 (n : Nat) (k : Int) (a : Int) (c : Int) (lb : Nat) (mb : Nat) (pb : Nat) (s : ByteArray) (w : World) : Res.prune [0, 1, 2, 6, 7] [] (exec Try.prog (bodyOf Try.f12) 28 11 [⟨false, 0, []⟩, ⟨false, 0, []⟩] [.code []] ⟨[(0, .pointer (some ⟨pb, 0, none⟩)), (1, .int .i64 k), (2, .string s)], [⟨pb, 53, true, [.slice (some ⟨lb, 0, none⟩) n n, .map (some mb), .bool false, .int .i64 a, .int .i64 c]⟩], [], w.heap.size⟩) = some ⟨[], dupR [], [.ops [1, 0, 0] [1, 2], .code [1, 0, 1], .code [1, 1]], ⟨[(0, .pointer (some ⟨pb, 0, none⟩)), (1, .int .i64 k), (2, .string s), (6, .int .i64 0), (7, .pointer (some ⟨pb, 0, none⟩))], [⟨pb, 53, true, [.slice (some ⟨lb, 0, none⟩) n n, .map (some mb), .bool false, .int .i64 a, .int .i64 c]⟩], [], w.heap.size⟩⟩ := by kernel_rfl
theorem pwr_c2 (k : Int) (pb : Nat) (s : ByteArray) : callAt Try.prog (opsOf (getCode (bodyOf Try.f12) [1, 0, 0])) [(0, .pointer (some ⟨pb, 0, none⟩)), (1, .int .i64 k), (2, .string s), (6, .int .i64 0), (7, .pointer (some ⟨pb, 0, none⟩))] 1 = some (23, [.pointer (some ⟨pb, 0, none⟩)], some 8, []) := by kernel_rfl
theorem pwr_s3 (n : Nat) (k : Int) (a : Int) (c : Int) (lb : Nat) (mb : Nat) (pb : Nat) (s : ByteArray) (z2 : Nat) : Res.prune [0, 1, 2, 6, 10, 11] [] (exec Try.prog (bodyOf Try.f12) 28 12 [⟨false, 0, []⟩, ⟨false, 0, []⟩, ⟨false, 0, []⟩, ⟨false, 0, []⟩] [.ops [1, 0, 0] [2], .code [1, 0, 1], .code [1, 1]] ⟨[(8, .bool (!decide (c = 1))), (0, .pointer (some ⟨pb, 0, none⟩)), (1, .int .i64 k), (2, .string s), (6, .int .i64 0), (7, .pointer (some ⟨pb, 0, none⟩))], [⟨pb, 53, true, (pwr_v1 n a c lb mb)⟩], [], z2⟩) = some ⟨[(!(!decide (c = 1))) = false], dupR [], [.ops [1, 1, 0, 0] [2, 3, 4, 5, 6, 7, 8], .code [1, 1, 0, 1], .code [1, 1, 1]], ⟨[(0, .pointer (some ⟨pb, 0, none⟩)), (1, .int .i64 k), (2, .string s), (6, .int .i64 0), (10, .pointer (some ⟨pb, 0, none⟩)), (11, .int .i64 k)], [⟨pb, 53, true, (pwr_v1 n a c lb mb)⟩], [], z2⟩⟩ := by kernel_rfl
theorem pwr_c4 (k : Int) (pb : Nat) (s : ByteArray) : callAt Try.prog (opsOf (getCode (bodyOf Try.f12) [1, 1, 0, 0])) [(0, .pointer (some ⟨pb, 0, none⟩)), (1, .int .i64 k), (2, .string s), (6, .int .i64 0), (10, .pointer (some ⟨pb, 0, none⟩)), (11, .int .i64 k)] 2 = some (24, [.pointer (some ⟨pb, 0, none⟩), .int .i64 k], some 12, []) := by kernel_rfl
theorem pwr_s5 (n : Nat) (k : Int) (a : Int) (c : Int) (lb : Nat) (mb : Nat) (pb : Nat) (s : ByteArray) (z4 : Nat) : Res.prune [0, 1, 2, 6] [] (exec Try.prog (bodyOf Try.f12) 28 13 [⟨false, 0, []⟩, ⟨false, 0, []⟩, ⟨false, 0, []⟩, ⟨false, 0, []⟩, ⟨false, 0, []⟩, ⟨false, 3, []⟩, ⟨false, 0, []⟩] [.ops [1, 1, 0, 0] [3, 4, 5, 6, 7, 8], .code [1, 1, 0, 1], .code [1, 1, 1]] ⟨[(12, .bool true), (0, .pointer (some ⟨pb, 0, none⟩)), (1, .int .i64 k), (2, .string s), (6, .int .i64 0), (10, .pointer (some ⟨pb, 0, none⟩)), (11, .int .i64 k)], [⟨pb, 53, true, (pwr_v1 n a c lb mb)⟩], [], z4⟩) = some ⟨[false = false, false = false, false = false, false = false, ((s.size : Int) != 64) = false], dupR [], [.code [1, 1, 1, 0], .code [1, 1, 1, 1]], ⟨[(0, .pointer (some ⟨pb, 0, none⟩)), (1, .int .i64 k), (2, .string s), (6, .int .i64 0)], [⟨pb, 53, true, (pwr_v1 n a c lb mb)⟩], [], z4⟩⟩ := by kernel_rfl
def pwr_g6s (k : Int) (pb : Nat) (s : ByteArray) : List (Nat × Value) := [(0, .pointer (some ⟨pb, 0, none⟩)), (1, .int .i64 k), (2, .string s), (6, .int .i64 0)]
def pwr_g6v (k : Int) (mb : Nat) (pb : Nat) (s : ByteArray) : List (Option Value) := [some (.pointer (some ⟨pb, 0, none⟩)), some (.pointer (some ⟨pb, 0, none⟩)), some (.pointer (some ⟨pb, 1, none⟩)), some (.map (some mb)), some (.int .i64 k), some (.string s), none, none, some (secV (intsOf s)), some (.tuple #[])]
def pwr_g6m (n : Nat) (a : Int) (c : Int) (lb : Nat) (mb : Nat) (pb : Nat) : List (List Bk) := [[⟨pb, 53, true, (pwr_v1 n a c lb mb)⟩], [⟨pb, 53, true, (pwr_v1 n a c lb mb)⟩]]
def pwr_g6t : List (Option Nat) := [none, none, none, none, none, none, none, none, none, some 0]
theorem pwr_g6_0 (n : Nat) (k : Int) (a : Int) (c : Int) (lb : Nat) (mb : Nat) (pb : Nat) (s : ByteArray) : ∀ sz, (List.range (1 + 1)).map (regEnt Try.prog (opsOf (getCode (bodyOf Try.f12) [1, 1, 1, 0])) (slI (opsOf (getCode (bodyOf Try.f12) [1, 1, 1, 0])) (pwr_g6s k pb s) 0) (pwr_g6v k mb pb s) (pwr_g6m n a c lb mb pb) [] sz 0 ⟨false, 0, []⟩) = (List.range (1 + 1)).map (regExp (pwr_g6v k mb pb s) (pwr_g6m n a c lb mb pb) sz 0 [] []) := fun sz => by kernel_rfl
theorem pwr_g6_1 (n : Nat) (k : Int) (a : Int) (c : Int) (lb : Nat) (mb : Nat) (pb : Nat) (s : ByteArray) : ∀ sz, (List.range (1 + 1)).map (regEnt Try.prog (opsOf (getCode (bodyOf Try.f12) [1, 1, 1, 0])) (slI (opsOf (getCode (bodyOf Try.f12) [1, 1, 1, 0])) (pwr_g6s k pb s) 1) (pwr_g6v k mb pb s) (pwr_g6m n a c lb mb pb) [] sz 1 ⟨false, 0, []⟩) = (List.range (1 + 1)).map (regExp (pwr_g6v k mb pb s) (pwr_g6m n a c lb mb pb) sz 1 [] []) := fun sz => by kernel_rfl
theorem pwr_g6_2 (n : Nat) (k : Int) (a : Int) (c : Int) (lb : Nat) (mb : Nat) (pb : Nat) (s : ByteArray) : ∀ sz, (List.range (1 + 1)).map (regEnt Try.prog (opsOf (getCode (bodyOf Try.f12) [1, 1, 1, 0])) (slI (opsOf (getCode (bodyOf Try.f12) [1, 1, 1, 0])) (pwr_g6s k pb s) 2) (pwr_g6v k mb pb s) (pwr_g6m n a c lb mb pb) [] sz 2 ⟨false, 0, []⟩) = (List.range (1 + 1)).map (regExp (pwr_g6v k mb pb s) (pwr_g6m n a c lb mb pb) sz 2 [] []) := fun sz => by kernel_rfl
theorem pwr_g6_3 (n : Nat) (k : Int) (a : Int) (c : Int) (lb : Nat) (mb : Nat) (pb : Nat) (s : ByteArray) : ∀ sz, (List.range (1 + 1)).map (regEnt Try.prog (opsOf (getCode (bodyOf Try.f12) [1, 1, 1, 0])) (slI (opsOf (getCode (bodyOf Try.f12) [1, 1, 1, 0])) (pwr_g6s k pb s) 3) (pwr_g6v k mb pb s) (pwr_g6m n a c lb mb pb) [] sz 3 ⟨false, 0, [⟨false, 0, 1, 1⟩]⟩) = (List.range (1 + 1)).map (regExp (pwr_g6v k mb pb s) (pwr_g6m n a c lb mb pb) sz 3 [] [(pb, 1, 1)]) := fun sz => by kernel_rfl
theorem pwr_g6_4 (n : Nat) (k : Int) (a : Int) (c : Int) (lb : Nat) (mb : Nat) (pb : Nat) (s : ByteArray) : ∀ sz, (List.range (1 + 1)).map (regEnt Try.prog (opsOf (getCode (bodyOf Try.f12) [1, 1, 1, 0])) (slI (opsOf (getCode (bodyOf Try.f12) [1, 1, 1, 0])) (pwr_g6s k pb s) 4) (pwr_g6v k mb pb s) (pwr_g6m n a c lb mb pb) [] sz 4 ⟨false, 0, []⟩) = (List.range (1 + 1)).map (regExp (pwr_g6v k mb pb s) (pwr_g6m n a c lb mb pb) sz 4 [] []) := fun sz => by kernel_rfl
theorem pwr_g6_5 (n : Nat) (k : Int) (a : Int) (c : Int) (lb : Nat) (mb : Nat) (pb : Nat) (s : ByteArray) : ∀ sz, (List.range (1 + 1)).map (regEnt Try.prog (opsOf (getCode (bodyOf Try.f12) [1, 1, 1, 0])) (slI (opsOf (getCode (bodyOf Try.f12) [1, 1, 1, 0])) (pwr_g6s k pb s) 5) (pwr_g6v k mb pb s) (pwr_g6m n a c lb mb pb) [] sz 5 ⟨false, 0, []⟩) = (List.range (1 + 1)).map (regExp (pwr_g6v k mb pb s) (pwr_g6m n a c lb mb pb) sz 5 [] []) := fun sz => by kernel_rfl
theorem pwr_s7 (n : Nat) (a : Int) (c : Int) (lb : Nat) (mb : Nat) (pb : Nat) (W : World) : Res.prune [6] [] (exec Try.prog (bodyOf Try.f12) 28 7 [⟨false, 0, []⟩] [.code [1, 1, 1, 1]] ⟨[(6, .int .i64 0)], [⟨pb, 53, true, (pwr_v1 n a c lb mb)⟩], [], W.heap.size⟩) = some ⟨[], dupR [], [.code [1, 1, 1, 1, 1]], ⟨[(6, .int .i64 0)], [⟨pb, 53, true, (pwr_v1 n a c lb mb)⟩], [], W.heap.size⟩⟩ := by kernel_rfl
theorem pwr_r8 (n : Nat) (a : Int) (c : Int) (lb : Nat) (mb : Nat) (pb : Nat) : resL Try.prog [] [⟨pb, 53, true, (pwr_v1 n a c lb mb)⟩] [(6, .int .i64 0)] Try.f12.results.toList [] = some ([.int .i64 0], dupR []) := by kernel_rfl
set_option maxRecDepth 100000 in
set_option maxHeartbeats 4000000 in
theorem write_live (n lb mb pb : Nat) (a c : Int) (ha : 0 ≤ a ∧ a < 4611686018427387904) (hc : 0 ≤ c ∧ c < 4611686018427387904) (hc1 : decide (c = 1) = false) (k : Int) (s : ByteArray) (cs : List CE) (ck : Nat) (hk : 0 ≤ k ∧ k < (n : Int)) (hs : s.size = 64) (hne : pb ≠ mb) (w : World) (hp : Blk w pb 53 [.slice (some ⟨lb, 0, none⟩) n n, .map (some mb), .bool false, .int .i64 a, .int .i64 c]) (hmp : MapAt w mb cs ck) :
    Calls Try.prog 12 #[.pointer (some ⟨pb, 0, none⟩), .int .i64 k, .string s] w (fun e w' => e = .returned (.int .i64 0) ∧ Blk w' pb 53 [.slice (some ⟨lb, 0, none⟩) n n, .map (some mb), .bool (decide (c = 1)), .int .i64 (a + 1), .int .i64 (dn c)] ∧ MapAt w' mb (putC cs ck k (intsOf s)).1 (putC cs ck k (intsOf s)).2 ∧ Kept (fun x => x = pb ∨ x = mb) w w') := by
  have hpl := hp.lt
  have hml := hmp.lt
  refine calls_of_holds (S := (fun x => x = pb)) (l := [.pointer (some ⟨pb, 0, none⟩), .int .i64 k, .string s]) (n := 28) Try.func12 (body_of (by kernel_rfl)) rfl (by simp) (MemOk.start (bk := [⟨pb, 53, true, [.slice (some ⟨lb, 0, none⟩) n n, .map (some mb), .bool false, .int .i64 a, .int .i64 c]⟩]) (wn := []) (by simpa using hp) (by simp) (by simp) (by simp)) ?_
  refine holds_go _ _ (pwr_s1 n k a c lb mb pb s w) trivial ?_
  refine holds_callM (.bool (!decide (c = 1))) [⟨pb, 53, true, (pwr_v1 n a c lb mb)⟩] (pwr_c2 k pb s) trivial rfl (fun wx hm => ?_) fun z2 hz2 => ?_
  · refine (act_live n lb mb pb a c ha hc wx (hm.at_ 0 rfl)).mono fun e w' he => ?_
    obtain ⟨h7, h8, h9⟩ := he
    exact ⟨h7, hm.set1 0 rfl rfl h9 h8⟩
  replace hz2 : w.heap.size ≤ z2 := hz2
  refine holds_go _ _ (pwr_s3 n k a c lb mb pb s z2) ⟨(by rw [show (!decide (c = 1)) = true from (by rw [hc1]; rfl)]; rfl), trivial⟩ ?_
  refine holds_callP (.bool true) (pwr_c4 k pb s) trivial rfl (fun wx hm => has_true n lb mb pb (decide (c = 1)) (a + 1) (dn c) k hk wx (hm.at_ 0 rfl)) fun z4 hz4 => ?_
  replace hz4 : z2 ≤ z4 := hz4
  refine holds_go _ _ (pwr_s5 n k a c lb mb pb s z4) ⟨rfl, rfl, rfl, rfl, by rw [hs]; rfl, trivial⟩ ?_
  have pwr_g6_d0 : CertG (wpOp Try.prog (opsOf (getCode (bodyOf Try.f12) [1, 1, 1, 0])) (sem Try.prog (bodyOf Try.f12) (pwr_Q n k a c lb mb pb s cs ck w) [.code [1, 1, 1, 1]])) [] 28 (opsOf (getCode (bodyOf Try.f12) [1, 1, 1, 0])) (slI (opsOf (getCode (bodyOf Try.f12) [1, 1, 1, 0])) (pwr_g6s k pb s) 0) (pwr_g6t) 1 (MG w (fun x => x = pb ∨ x = mb) (pwr_g6m n a c lb mb pb) [] z4) (Turned [⟨pb, 53, true, (pwr_v1 n a c lb mb)⟩]) (PvG (pwr_g6v k mb pb s) (fun k_ v_ w_ => (k_ = 6 ∧ ∃ g c, z4 ≤ g ∧ v_ = .slice (some ⟨g, 0, none⟩) 64 c ∧ FB w_ g 5 (intsOf s)) ∨ (k_ = 7 ∧ ∃ g, z4 ≤ g ∧ v_ = .pointer (some ⟨g, 0, none⟩) ∧ FB w_ g 5 (intsOf s)))) 0 := cert_reg (v := .pointer (some ⟨pb, 0, none⟩)) (by kernel_rfl) (by kernel_rfl) (by kernel_rfl) (pwr_g6_0 n k a c lb mb pb s) trivial
  have pwr_g6_c0 : CertG (wpOp Try.prog (opsOf (getCode (bodyOf Try.f12) [1, 1, 1, 0])) (sem Try.prog (bodyOf Try.f12) (pwr_Q n k a c lb mb pb s cs ck w) [.code [1, 1, 1, 1]])) [] 28 (opsOf (getCode (bodyOf Try.f12) [1, 1, 1, 0])) (slI (opsOf (getCode (bodyOf Try.f12) [1, 1, 1, 0])) (pwr_g6s k pb s) 0) (pwr_g6t) 1 (fun j_ wy_ => MG w (fun x => x = pb ∨ x = mb) (pwr_g6m n a c lb mb pb) [] z4 j_ wy_ ∧ (WrX mb cs ck k s) j_ wy_) (fun x => x = pb ∨ x = mb) (PvG (pwr_g6v k mb pb s) (fun k_ v_ w_ => (k_ = 6 ∧ ∃ g c, z4 ≤ g ∧ v_ = .slice (some ⟨g, 0, none⟩) 64 c ∧ FB w_ g 5 (intsOf s)) ∨ (k_ = 7 ∧ ∃ g, z4 ≤ g ∧ v_ = .pointer (some ⟨g, 0, none⟩) ∧ FB w_ g 5 (intsOf s)))) 0 := cert_frame pwr_g6_d0 (by kernel_rfl) (fun x ⟨b, hb, hr, he⟩ => .inl (by simp at hb; subst hb; exact he.symm)) (fun j_ wa wb h hk' => by
      unfold WrX at h ⊢
      have hnT : ¬ Turned [⟨pb, 53, true, (pwr_v1 n a c lb mb)⟩] mb := by
        rintro ⟨b, hb, hr, he⟩
        simp at hb
        subst hb
        simp at he
        omega
      by_cases h0 : j_ = 0
      · rw [if_pos h0] at h ⊢
        exact h.kept hk' hnT
      · rw [if_neg h0] at h ⊢
        exact h.kept hk' hnT)
  have pwr_g6_d1 : CertG (wpOp Try.prog (opsOf (getCode (bodyOf Try.f12) [1, 1, 1, 0])) (sem Try.prog (bodyOf Try.f12) (pwr_Q n k a c lb mb pb s cs ck w) [.code [1, 1, 1, 1]])) [] 28 (opsOf (getCode (bodyOf Try.f12) [1, 1, 1, 0])) (slI (opsOf (getCode (bodyOf Try.f12) [1, 1, 1, 0])) (pwr_g6s k pb s) 1) (pwr_g6t) 1 (MG w (fun x => x = pb ∨ x = mb) (pwr_g6m n a c lb mb pb) [] z4) (Turned [⟨pb, 53, true, (pwr_v1 n a c lb mb)⟩]) (PvG (pwr_g6v k mb pb s) (fun k_ v_ w_ => (k_ = 6 ∧ ∃ g c, z4 ≤ g ∧ v_ = .slice (some ⟨g, 0, none⟩) 64 c ∧ FB w_ g 5 (intsOf s)) ∨ (k_ = 7 ∧ ∃ g, z4 ≤ g ∧ v_ = .pointer (some ⟨g, 0, none⟩) ∧ FB w_ g 5 (intsOf s)))) 1 := cert_reg (v := .pointer (some ⟨pb, 0, none⟩)) (by kernel_rfl) (by kernel_rfl) (by kernel_rfl) (pwr_g6_1 n k a c lb mb pb s) trivial
  have pwr_g6_c1 : CertG (wpOp Try.prog (opsOf (getCode (bodyOf Try.f12) [1, 1, 1, 0])) (sem Try.prog (bodyOf Try.f12) (pwr_Q n k a c lb mb pb s cs ck w) [.code [1, 1, 1, 1]])) [] 28 (opsOf (getCode (bodyOf Try.f12) [1, 1, 1, 0])) (slI (opsOf (getCode (bodyOf Try.f12) [1, 1, 1, 0])) (pwr_g6s k pb s) 1) (pwr_g6t) 1 (fun j_ wy_ => MG w (fun x => x = pb ∨ x = mb) (pwr_g6m n a c lb mb pb) [] z4 j_ wy_ ∧ (WrX mb cs ck k s) j_ wy_) (fun x => x = pb ∨ x = mb) (PvG (pwr_g6v k mb pb s) (fun k_ v_ w_ => (k_ = 6 ∧ ∃ g c, z4 ≤ g ∧ v_ = .slice (some ⟨g, 0, none⟩) 64 c ∧ FB w_ g 5 (intsOf s)) ∨ (k_ = 7 ∧ ∃ g, z4 ≤ g ∧ v_ = .pointer (some ⟨g, 0, none⟩) ∧ FB w_ g 5 (intsOf s)))) 1 := cert_frame pwr_g6_d1 (by kernel_rfl) (fun x ⟨b, hb, hr, he⟩ => .inl (by simp at hb; subst hb; exact he.symm)) (fun j_ wa wb h hk' => by
      unfold WrX at h ⊢
      have hnT : ¬ Turned [⟨pb, 53, true, (pwr_v1 n a c lb mb)⟩] mb := by
        rintro ⟨b, hb, hr, he⟩
        simp at hb
        subst hb
        simp at he
        omega
      by_cases h0 : j_ = 0
      · rw [if_pos h0] at h ⊢
        exact h.kept hk' hnT
      · rw [if_neg h0] at h ⊢
        exact h.kept hk' hnT)
  have pwr_g6_d2 : CertG (wpOp Try.prog (opsOf (getCode (bodyOf Try.f12) [1, 1, 1, 0])) (sem Try.prog (bodyOf Try.f12) (pwr_Q n k a c lb mb pb s cs ck w) [.code [1, 1, 1, 1]])) [] 28 (opsOf (getCode (bodyOf Try.f12) [1, 1, 1, 0])) (slI (opsOf (getCode (bodyOf Try.f12) [1, 1, 1, 0])) (pwr_g6s k pb s) 2) (pwr_g6t) 1 (MG w (fun x => x = pb ∨ x = mb) (pwr_g6m n a c lb mb pb) [] z4) (Turned [⟨pb, 53, true, (pwr_v1 n a c lb mb)⟩]) (PvG (pwr_g6v k mb pb s) (fun k_ v_ w_ => (k_ = 6 ∧ ∃ g c, z4 ≤ g ∧ v_ = .slice (some ⟨g, 0, none⟩) 64 c ∧ FB w_ g 5 (intsOf s)) ∨ (k_ = 7 ∧ ∃ g, z4 ≤ g ∧ v_ = .pointer (some ⟨g, 0, none⟩) ∧ FB w_ g 5 (intsOf s)))) 2 := cert_reg (v := .pointer (some ⟨pb, 1, none⟩)) (by kernel_rfl) (by kernel_rfl) (by kernel_rfl) (pwr_g6_2 n k a c lb mb pb s) trivial
  have pwr_g6_c2 : CertG (wpOp Try.prog (opsOf (getCode (bodyOf Try.f12) [1, 1, 1, 0])) (sem Try.prog (bodyOf Try.f12) (pwr_Q n k a c lb mb pb s cs ck w) [.code [1, 1, 1, 1]])) [] 28 (opsOf (getCode (bodyOf Try.f12) [1, 1, 1, 0])) (slI (opsOf (getCode (bodyOf Try.f12) [1, 1, 1, 0])) (pwr_g6s k pb s) 2) (pwr_g6t) 1 (fun j_ wy_ => MG w (fun x => x = pb ∨ x = mb) (pwr_g6m n a c lb mb pb) [] z4 j_ wy_ ∧ (WrX mb cs ck k s) j_ wy_) (fun x => x = pb ∨ x = mb) (PvG (pwr_g6v k mb pb s) (fun k_ v_ w_ => (k_ = 6 ∧ ∃ g c, z4 ≤ g ∧ v_ = .slice (some ⟨g, 0, none⟩) 64 c ∧ FB w_ g 5 (intsOf s)) ∨ (k_ = 7 ∧ ∃ g, z4 ≤ g ∧ v_ = .pointer (some ⟨g, 0, none⟩) ∧ FB w_ g 5 (intsOf s)))) 2 := cert_frame pwr_g6_d2 (by kernel_rfl) (fun x ⟨b, hb, hr, he⟩ => .inl (by simp at hb; subst hb; exact he.symm)) (fun j_ wa wb h hk' => by
      unfold WrX at h ⊢
      have hnT : ¬ Turned [⟨pb, 53, true, (pwr_v1 n a c lb mb)⟩] mb := by
        rintro ⟨b, hb, hr, he⟩
        simp at hb
        subst hb
        simp at he
        omega
      by_cases h0 : j_ = 0
      · rw [if_pos h0] at h ⊢
        exact h.kept hk' hnT
      · rw [if_neg h0] at h ⊢
        exact h.kept hk' hnT)
  have pwr_g6_d3 : CertG (wpOp Try.prog (opsOf (getCode (bodyOf Try.f12) [1, 1, 1, 0])) (sem Try.prog (bodyOf Try.f12) (pwr_Q n k a c lb mb pb s cs ck w) [.code [1, 1, 1, 1]])) [] 28 (opsOf (getCode (bodyOf Try.f12) [1, 1, 1, 0])) (slI (opsOf (getCode (bodyOf Try.f12) [1, 1, 1, 0])) (pwr_g6s k pb s) 3) (pwr_g6t) 1 (MG w (fun x => x = pb ∨ x = mb) (pwr_g6m n a c lb mb pb) [] z4) (Turned [⟨pb, 53, true, (pwr_v1 n a c lb mb)⟩]) (PvG (pwr_g6v k mb pb s) (fun k_ v_ w_ => (k_ = 6 ∧ ∃ g c, z4 ≤ g ∧ v_ = .slice (some ⟨g, 0, none⟩) 64 c ∧ FB w_ g 5 (intsOf s)) ∨ (k_ = 7 ∧ ∃ g, z4 ≤ g ∧ v_ = .pointer (some ⟨g, 0, none⟩) ∧ FB w_ g 5 (intsOf s)))) 3 := cert_reg (v := .map (some mb)) (by kernel_rfl) (by kernel_rfl) (by kernel_rfl) (pwr_g6_3 n k a c lb mb pb s) trivial
  have pwr_g6_c3 : CertG (wpOp Try.prog (opsOf (getCode (bodyOf Try.f12) [1, 1, 1, 0])) (sem Try.prog (bodyOf Try.f12) (pwr_Q n k a c lb mb pb s cs ck w) [.code [1, 1, 1, 1]])) [] 28 (opsOf (getCode (bodyOf Try.f12) [1, 1, 1, 0])) (slI (opsOf (getCode (bodyOf Try.f12) [1, 1, 1, 0])) (pwr_g6s k pb s) 3) (pwr_g6t) 1 (fun j_ wy_ => MG w (fun x => x = pb ∨ x = mb) (pwr_g6m n a c lb mb pb) [] z4 j_ wy_ ∧ (WrX mb cs ck k s) j_ wy_) (fun x => x = pb ∨ x = mb) (PvG (pwr_g6v k mb pb s) (fun k_ v_ w_ => (k_ = 6 ∧ ∃ g c, z4 ≤ g ∧ v_ = .slice (some ⟨g, 0, none⟩) 64 c ∧ FB w_ g 5 (intsOf s)) ∨ (k_ = 7 ∧ ∃ g, z4 ≤ g ∧ v_ = .pointer (some ⟨g, 0, none⟩) ∧ FB w_ g 5 (intsOf s)))) 3 := cert_frame pwr_g6_d3 (by kernel_rfl) (fun x ⟨b, hb, hr, he⟩ => .inl (by simp at hb; subst hb; exact he.symm)) (fun j_ wa wb h hk' => by
      unfold WrX at h ⊢
      have hnT : ¬ Turned [⟨pb, 53, true, (pwr_v1 n a c lb mb)⟩] mb := by
        rintro ⟨b, hb, hr, he⟩
        simp at hb
        subst hb
        simp at he
        omega
      by_cases h0 : j_ = 0
      · rw [if_pos h0] at h ⊢
        exact h.kept hk' hnT
      · rw [if_neg h0] at h ⊢
        exact h.kept hk' hnT)
  have pwr_g6_d4 : CertG (wpOp Try.prog (opsOf (getCode (bodyOf Try.f12) [1, 1, 1, 0])) (sem Try.prog (bodyOf Try.f12) (pwr_Q n k a c lb mb pb s cs ck w) [.code [1, 1, 1, 1]])) [] 28 (opsOf (getCode (bodyOf Try.f12) [1, 1, 1, 0])) (slI (opsOf (getCode (bodyOf Try.f12) [1, 1, 1, 0])) (pwr_g6s k pb s) 4) (pwr_g6t) 1 (MG w (fun x => x = pb ∨ x = mb) (pwr_g6m n a c lb mb pb) [] z4) (Turned [⟨pb, 53, true, (pwr_v1 n a c lb mb)⟩]) (PvG (pwr_g6v k mb pb s) (fun k_ v_ w_ => (k_ = 6 ∧ ∃ g c, z4 ≤ g ∧ v_ = .slice (some ⟨g, 0, none⟩) 64 c ∧ FB w_ g 5 (intsOf s)) ∨ (k_ = 7 ∧ ∃ g, z4 ≤ g ∧ v_ = .pointer (some ⟨g, 0, none⟩) ∧ FB w_ g 5 (intsOf s)))) 4 := cert_reg (v := .int .i64 k) (by kernel_rfl) (by kernel_rfl) (by kernel_rfl) (pwr_g6_4 n k a c lb mb pb s) trivial
  have pwr_g6_c4 : CertG (wpOp Try.prog (opsOf (getCode (bodyOf Try.f12) [1, 1, 1, 0])) (sem Try.prog (bodyOf Try.f12) (pwr_Q n k a c lb mb pb s cs ck w) [.code [1, 1, 1, 1]])) [] 28 (opsOf (getCode (bodyOf Try.f12) [1, 1, 1, 0])) (slI (opsOf (getCode (bodyOf Try.f12) [1, 1, 1, 0])) (pwr_g6s k pb s) 4) (pwr_g6t) 1 (fun j_ wy_ => MG w (fun x => x = pb ∨ x = mb) (pwr_g6m n a c lb mb pb) [] z4 j_ wy_ ∧ (WrX mb cs ck k s) j_ wy_) (fun x => x = pb ∨ x = mb) (PvG (pwr_g6v k mb pb s) (fun k_ v_ w_ => (k_ = 6 ∧ ∃ g c, z4 ≤ g ∧ v_ = .slice (some ⟨g, 0, none⟩) 64 c ∧ FB w_ g 5 (intsOf s)) ∨ (k_ = 7 ∧ ∃ g, z4 ≤ g ∧ v_ = .pointer (some ⟨g, 0, none⟩) ∧ FB w_ g 5 (intsOf s)))) 4 := cert_frame pwr_g6_d4 (by kernel_rfl) (fun x ⟨b, hb, hr, he⟩ => .inl (by simp at hb; subst hb; exact he.symm)) (fun j_ wa wb h hk' => by
      unfold WrX at h ⊢
      have hnT : ¬ Turned [⟨pb, 53, true, (pwr_v1 n a c lb mb)⟩] mb := by
        rintro ⟨b, hb, hr, he⟩
        simp at hb
        subst hb
        simp at he
        omega
      by_cases h0 : j_ = 0
      · rw [if_pos h0] at h ⊢
        exact h.kept hk' hnT
      · rw [if_neg h0] at h ⊢
        exact h.kept hk' hnT)
  have pwr_g6_d5 : CertG (wpOp Try.prog (opsOf (getCode (bodyOf Try.f12) [1, 1, 1, 0])) (sem Try.prog (bodyOf Try.f12) (pwr_Q n k a c lb mb pb s cs ck w) [.code [1, 1, 1, 1]])) [] 28 (opsOf (getCode (bodyOf Try.f12) [1, 1, 1, 0])) (slI (opsOf (getCode (bodyOf Try.f12) [1, 1, 1, 0])) (pwr_g6s k pb s) 5) (pwr_g6t) 1 (MG w (fun x => x = pb ∨ x = mb) (pwr_g6m n a c lb mb pb) [] z4) (Turned [⟨pb, 53, true, (pwr_v1 n a c lb mb)⟩]) (PvG (pwr_g6v k mb pb s) (fun k_ v_ w_ => (k_ = 6 ∧ ∃ g c, z4 ≤ g ∧ v_ = .slice (some ⟨g, 0, none⟩) 64 c ∧ FB w_ g 5 (intsOf s)) ∨ (k_ = 7 ∧ ∃ g, z4 ≤ g ∧ v_ = .pointer (some ⟨g, 0, none⟩) ∧ FB w_ g 5 (intsOf s)))) 5 := cert_reg (v := .string s) (by kernel_rfl) (by kernel_rfl) (by kernel_rfl) (pwr_g6_5 n k a c lb mb pb s) trivial
  have pwr_g6_c5 : CertG (wpOp Try.prog (opsOf (getCode (bodyOf Try.f12) [1, 1, 1, 0])) (sem Try.prog (bodyOf Try.f12) (pwr_Q n k a c lb mb pb s cs ck w) [.code [1, 1, 1, 1]])) [] 28 (opsOf (getCode (bodyOf Try.f12) [1, 1, 1, 0])) (slI (opsOf (getCode (bodyOf Try.f12) [1, 1, 1, 0])) (pwr_g6s k pb s) 5) (pwr_g6t) 1 (fun j_ wy_ => MG w (fun x => x = pb ∨ x = mb) (pwr_g6m n a c lb mb pb) [] z4 j_ wy_ ∧ (WrX mb cs ck k s) j_ wy_) (fun x => x = pb ∨ x = mb) (PvG (pwr_g6v k mb pb s) (fun k_ v_ w_ => (k_ = 6 ∧ ∃ g c, z4 ≤ g ∧ v_ = .slice (some ⟨g, 0, none⟩) 64 c ∧ FB w_ g 5 (intsOf s)) ∨ (k_ = 7 ∧ ∃ g, z4 ≤ g ∧ v_ = .pointer (some ⟨g, 0, none⟩) ∧ FB w_ g 5 (intsOf s)))) 5 := cert_frame pwr_g6_d5 (by kernel_rfl) (fun x ⟨b, hb, hr, he⟩ => .inl (by simp at hb; subst hb; exact he.symm)) (fun j_ wa wb h hk' => by
      unfold WrX at h ⊢
      have hnT : ¬ Turned [⟨pb, 53, true, (pwr_v1 n a c lb mb)⟩] mb := by
        rintro ⟨b, hb, hr, he⟩
        simp at hb
        subst hb
        simp at he
        omega
      by_cases h0 : j_ = 0
      · rw [if_pos h0] at h ⊢
        exact h.kept hk' hnT
      · rw [if_neg h0] at h ⊢
        exact h.kept hk' hnT)
  have pwr_g6_d6 : CertG (wpOp Try.prog (opsOf (getCode (bodyOf Try.f12) [1, 1, 1, 0])) (sem Try.prog (bodyOf Try.f12) (pwr_Q n k a c lb mb pb s cs ck w) [.code [1, 1, 1, 1]])) [] 28 (opsOf (getCode (bodyOf Try.f12) [1, 1, 1, 0])) (slI (opsOf (getCode (bodyOf Try.f12) [1, 1, 1, 0])) (pwr_g6s k pb s) 6) (pwr_g6t) 1 (MG w (fun x => x = pb ∨ x = mb) (pwr_g6m n a c lb mb pb) [] z4) (Turned [⟨pb, 53, true, (pwr_v1 n a c lb mb)⟩]) (PvG (pwr_g6v k mb pb s) (fun k_ v_ w_ => (k_ = 6 ∧ ∃ g c, z4 ≤ g ∧ v_ = .slice (some ⟨g, 0, none⟩) 64 c ∧ FB w_ g 5 (intsOf s)) ∨ (k_ = 7 ∧ ∃ g, z4 ≤ g ∧ v_ = .pointer (some ⟨g, 0, none⟩) ∧ FB w_ g 5 (intsOf s)))) 6 := cert_op (bk0 := [⟨pb, 53, true, (pwr_v1 n a c lb mb)⟩]) (by
      intro j a_ wx hj hjs _ hf hk_ hm
      obtain ⟨bk, hb, hz, hM⟩ := hm
      obtain ⟨c, w', h1, h2, h3⟩ := run_newBytes (P := Try.prog) wx 9 30 5 s (by kernel_rfl) (by kernel_rfl) (by kernel_rfl)
      rw [hs] at h1
      exact ⟨_, _, _, w', hf, by kernel_rfl, by kernel_rfl, h1, .inl ⟨rfl, _, c, hz, rfl, h2⟩, h3.mono (fun _ _ h => h.elim), bk, hb, Nat.le_trans hz h3.size, (hM.same h3).2⟩)
  have pwr_g6_c6 : CertG (wpOp Try.prog (opsOf (getCode (bodyOf Try.f12) [1, 1, 1, 0])) (sem Try.prog (bodyOf Try.f12) (pwr_Q n k a c lb mb pb s cs ck w) [.code [1, 1, 1, 1]])) [] 28 (opsOf (getCode (bodyOf Try.f12) [1, 1, 1, 0])) (slI (opsOf (getCode (bodyOf Try.f12) [1, 1, 1, 0])) (pwr_g6s k pb s) 6) (pwr_g6t) 1 (fun j_ wy_ => MG w (fun x => x = pb ∨ x = mb) (pwr_g6m n a c lb mb pb) [] z4 j_ wy_ ∧ (WrX mb cs ck k s) j_ wy_) (fun x => x = pb ∨ x = mb) (PvG (pwr_g6v k mb pb s) (fun k_ v_ w_ => (k_ = 6 ∧ ∃ g c, z4 ≤ g ∧ v_ = .slice (some ⟨g, 0, none⟩) 64 c ∧ FB w_ g 5 (intsOf s)) ∨ (k_ = 7 ∧ ∃ g, z4 ≤ g ∧ v_ = .pointer (some ⟨g, 0, none⟩) ∧ FB w_ g 5 (intsOf s)))) 6 := cert_frame pwr_g6_d6 (by kernel_rfl) (fun x ⟨b, hb, hr, he⟩ => .inl (by simp at hb; subst hb; exact he.symm)) (fun j_ wa wb h hk' => by
      unfold WrX at h ⊢
      have hnT : ¬ Turned [⟨pb, 53, true, (pwr_v1 n a c lb mb)⟩] mb := by
        rintro ⟨b, hb, hr, he⟩
        simp at hb
        subst hb
        simp at he
        omega
      by_cases h0 : j_ = 0
      · rw [if_pos h0] at h ⊢
        exact h.kept hk' hnT
      · rw [if_neg h0] at h ⊢
        exact h.kept hk' hnT)
  have pwr_g6_d7 : CertG (wpOp Try.prog (opsOf (getCode (bodyOf Try.f12) [1, 1, 1, 0])) (sem Try.prog (bodyOf Try.f12) (pwr_Q n k a c lb mb pb s cs ck w) [.code [1, 1, 1, 1]])) [] 28 (opsOf (getCode (bodyOf Try.f12) [1, 1, 1, 0])) (slI (opsOf (getCode (bodyOf Try.f12) [1, 1, 1, 0])) (pwr_g6s k pb s) 7) (pwr_g6t) 1 (MG w (fun x => x = pb ∨ x = mb) (pwr_g6m n a c lb mb pb) [] z4) (Turned [⟨pb, 53, true, (pwr_v1 n a c lb mb)⟩]) (PvG (pwr_g6v k mb pb s) (fun k_ v_ w_ => (k_ = 6 ∧ ∃ g c, z4 ≤ g ∧ v_ = .slice (some ⟨g, 0, none⟩) 64 c ∧ FB w_ g 5 (intsOf s)) ∨ (k_ = 7 ∧ ∃ g, z4 ≤ g ∧ v_ = .pointer (some ⟨g, 0, none⟩) ∧ FB w_ g 5 (intsOf s)))) 7 := cert_op (bk0 := [⟨pb, 53, true, (pwr_v1 n a c lb mb)⟩]) (by
      intro j a_ wx hj hjs _ hf hk_ hm
      obtain ⟨v, hv1, hv2⟩ := hk_ 6 (List.mem_of_getElem? (i := 0) (by kernel_rfl)) 25 (by kernel_rfl)
      obtain ⟨_, g, c, hg, rfl, hB⟩ | ⟨h0, _⟩ := hv2
      · exact ⟨[(25, .slice (some ⟨g, 0, none⟩) 64 c)], Instr.arrayAt 56 (.slice (some ⟨g, 0, none⟩) 64 c), _, wx, ⟨hf.size, hf.df, fun q u hq => by
          simp only [getS] at hq
          split at hq
          · rename_i he
            have he' : 25 = q := Nat.eq_of_beq_eq_true he
            subst he'
            simp only [Option.some.injEq] at hq
            subst hq
            exact hv1
          · cases hq⟩, by kernel_rfl, by kernel_rfl, run_arrayAt wx _ 5 64 _ 64 c (by kernel_rfl) (Nat.le_refl _), .inr ⟨rfl, g, hg, rfl, hB⟩, Kept.refl _ _, hm⟩
      · cases h0)
  have pwr_g6_c7 : CertG (wpOp Try.prog (opsOf (getCode (bodyOf Try.f12) [1, 1, 1, 0])) (sem Try.prog (bodyOf Try.f12) (pwr_Q n k a c lb mb pb s cs ck w) [.code [1, 1, 1, 1]])) [] 28 (opsOf (getCode (bodyOf Try.f12) [1, 1, 1, 0])) (slI (opsOf (getCode (bodyOf Try.f12) [1, 1, 1, 0])) (pwr_g6s k pb s) 7) (pwr_g6t) 1 (fun j_ wy_ => MG w (fun x => x = pb ∨ x = mb) (pwr_g6m n a c lb mb pb) [] z4 j_ wy_ ∧ (WrX mb cs ck k s) j_ wy_) (fun x => x = pb ∨ x = mb) (PvG (pwr_g6v k mb pb s) (fun k_ v_ w_ => (k_ = 6 ∧ ∃ g c, z4 ≤ g ∧ v_ = .slice (some ⟨g, 0, none⟩) 64 c ∧ FB w_ g 5 (intsOf s)) ∨ (k_ = 7 ∧ ∃ g, z4 ≤ g ∧ v_ = .pointer (some ⟨g, 0, none⟩) ∧ FB w_ g 5 (intsOf s)))) 7 := cert_frame pwr_g6_d7 (by kernel_rfl) (fun x ⟨b, hb, hr, he⟩ => .inl (by simp at hb; subst hb; exact he.symm)) (fun j_ wa wb h hk' => by
      unfold WrX at h ⊢
      have hnT : ¬ Turned [⟨pb, 53, true, (pwr_v1 n a c lb mb)⟩] mb := by
        rintro ⟨b, hb, hr, he⟩
        simp at hb
        subst hb
        simp at he
        omega
      by_cases h0 : j_ = 0
      · rw [if_pos h0] at h ⊢
        exact h.kept hk' hnT
      · rw [if_neg h0] at h ⊢
        exact h.kept hk' hnT)
  have pwr_g6_d8 : CertG (wpOp Try.prog (opsOf (getCode (bodyOf Try.f12) [1, 1, 1, 0])) (sem Try.prog (bodyOf Try.f12) (pwr_Q n k a c lb mb pb s cs ck w) [.code [1, 1, 1, 1]])) [] 28 (opsOf (getCode (bodyOf Try.f12) [1, 1, 1, 0])) (slI (opsOf (getCode (bodyOf Try.f12) [1, 1, 1, 0])) (pwr_g6s k pb s) 8) (pwr_g6t) 1 (MG w (fun x => x = pb ∨ x = mb) (pwr_g6m n a c lb mb pb) [] z4) (Turned [⟨pb, 53, true, (pwr_v1 n a c lb mb)⟩]) (PvG (pwr_g6v k mb pb s) (fun k_ v_ w_ => (k_ = 6 ∧ ∃ g c, z4 ≤ g ∧ v_ = .slice (some ⟨g, 0, none⟩) 64 c ∧ FB w_ g 5 (intsOf s)) ∨ (k_ = 7 ∧ ∃ g, z4 ≤ g ∧ v_ = .pointer (some ⟨g, 0, none⟩) ∧ FB w_ g 5 (intsOf s)))) 8 := cert_op (bk0 := [⟨pb, 53, true, (pwr_v1 n a c lb mb)⟩]) (by
      intro j a_ wx hj hjs _ hf hk_ hm
      obtain ⟨v, hv1, hv2⟩ := hk_ 7 (List.mem_of_getElem? (i := 0) (by kernel_rfl)) 26 (by kernel_rfl)
      obtain ⟨h0, _⟩ | ⟨_, g, hg, rfl, hB⟩ := hv2
      · cases h0
      · exact ⟨[(26, .pointer (some ⟨g, 0, none⟩))], Instr.loadAt 56 (.pointer (some ⟨g, 0, none⟩)), _, wx, ⟨hf.size, hf.df, fun q u hq => by
          simp only [getS] at hq
          split at hq
          · rename_i he
            have he' : 26 = q := Nat.eq_of_beq_eq_true he
            subst he'
            simp only [Option.some.injEq] at hq
            subst hq
            exact hv1
          · cases hq⟩, by kernel_rfl, by kernel_rfl, run_loadFB wx 56 5 64 g 5 (intsOf s) (by kernel_rfl) (by rw [length_intsOf, hs]; kernel_rfl) hB, (rfl : secV (intsOf s) = _), Kept.refl _ _, hm⟩)
  have pwr_g6_c8 : CertG (wpOp Try.prog (opsOf (getCode (bodyOf Try.f12) [1, 1, 1, 0])) (sem Try.prog (bodyOf Try.f12) (pwr_Q n k a c lb mb pb s cs ck w) [.code [1, 1, 1, 1]])) [] 28 (opsOf (getCode (bodyOf Try.f12) [1, 1, 1, 0])) (slI (opsOf (getCode (bodyOf Try.f12) [1, 1, 1, 0])) (pwr_g6s k pb s) 8) (pwr_g6t) 1 (fun j_ wy_ => MG w (fun x => x = pb ∨ x = mb) (pwr_g6m n a c lb mb pb) [] z4 j_ wy_ ∧ (WrX mb cs ck k s) j_ wy_) (fun x => x = pb ∨ x = mb) (PvG (pwr_g6v k mb pb s) (fun k_ v_ w_ => (k_ = 6 ∧ ∃ g c, z4 ≤ g ∧ v_ = .slice (some ⟨g, 0, none⟩) 64 c ∧ FB w_ g 5 (intsOf s)) ∨ (k_ = 7 ∧ ∃ g, z4 ≤ g ∧ v_ = .pointer (some ⟨g, 0, none⟩) ∧ FB w_ g 5 (intsOf s)))) 8 := cert_frame pwr_g6_d8 (by kernel_rfl) (fun x ⟨b, hb, hr, he⟩ => .inl (by simp at hb; subst hb; exact he.symm)) (fun j_ wa wb h hk' => by
      unfold WrX at h ⊢
      have hnT : ¬ Turned [⟨pb, 53, true, (pwr_v1 n a c lb mb)⟩] mb := by
        rintro ⟨b, hb, hr, he⟩
        simp at hb
        subst hb
        simp at he
        omega
      by_cases h0 : j_ = 0
      · rw [if_pos h0] at h ⊢
        exact h.kept hk' hnT
      · rw [if_neg h0] at h ⊢
        exact h.kept hk' hnT)
  have pwr_g6_c9 : CertG (wpOp Try.prog (opsOf (getCode (bodyOf Try.f12) [1, 1, 1, 0])) (sem Try.prog (bodyOf Try.f12) (pwr_Q n k a c lb mb pb s cs ck w) [.code [1, 1, 1, 1]])) [] 28 (opsOf (getCode (bodyOf Try.f12) [1, 1, 1, 0])) (slI (opsOf (getCode (bodyOf Try.f12) [1, 1, 1, 0])) (pwr_g6s k pb s) 9) (pwr_g6t) 1 (fun j_ wy_ => MG w (fun x => x = pb ∨ x = mb) (pwr_g6m n a c lb mb pb) [] z4 j_ wy_ ∧ (WrX mb cs ck k s) j_ wy_) (fun x => x = pb ∨ x = mb) (PvG (pwr_g6v k mb pb s) (fun k_ v_ w_ => (k_ = 6 ∧ ∃ g c, z4 ≤ g ∧ v_ = .slice (some ⟨g, 0, none⟩) 64 c ∧ FB w_ g 5 (intsOf s)) ∨ (k_ = 7 ∧ ∃ g, z4 ≤ g ∧ v_ = .pointer (some ⟨g, 0, none⟩) ∧ FB w_ g 5 (intsOf s)))) 9 := cert_opU (by
      intro j a_ wx hj hjs hf hk_ hm
      obtain ⟨rfl, _⟩ := hjs 0 (by kernel_rfl)
      obtain ⟨⟨bk, hb, hz, hM⟩, hX⟩ := hm
      have hb' : some [⟨pb, 53, true, (pwr_v1 n a c lb mb)⟩] = some bk := hb
      cases hb'
      obtain ⟨w', h1, h2, h3, h4⟩ := run_put (P := Try.prog) wx 51 3 56 .i64 mb cs ck k (intsOf s) (by kernel_rfl) (by kernel_rfl) hX
      refine ⟨_, _, w', hf, by kernel_rfl, by kernel_rfl, h1, (rfl : undef = _), h3.mono (fun _ _ h => .inr h), ⟨[⟨pb, 53, true, (pwr_v1 n a c lb mb)⟩], by kernel_rfl, by omega, ?_⟩, h2⟩
      have h5 : MemOk w (fun x => x = pb ∨ x = mb) [⟨pb, 53, true, (pwr_v1 n a c lb mb)⟩] [] wx.heap.size w' := ⟨h4, fun b hb => (hM.blk b hb).kept h3 (fun e => by simp at hb; subst hb; simp at e; omega), hM.own, hM.nd, hM.kept.trans h3 (fun _ _ e => .inr e), fun _ h => by cases h⟩
      rw [h4]
      exact h5)
  refine holds_mixX (vs := (pwr_g6v k mb pb s)) (ms := (pwr_g6m n a c lb mb pb)) (stg := (pwr_g6t)) (J := 1) (sl' := [(6, .int .i64 0)]) (bk' := [⟨pb, 53, true, (pwr_v1 n a c lb mb)⟩]) (fun k_ v_ w_ => (k_ = 6 ∧ ∃ g c, z4 ≤ g ∧ v_ = .slice (some ⟨g, 0, none⟩) 64 c ∧ FB w_ g 5 (intsOf s)) ∨ (k_ = 7 ∧ ∃ g, z4 ≤ g ∧ v_ = .pointer (some ⟨g, 0, none⟩) ∧ FB w_ g 5 (intsOf s))) (WrX mb cs ck k s) (fun x => x = pb ∨ x = mb) (fun x => x = pb ∨ x = mb) [6] (fun _ h => .inl h) (by kernel_rfl) (by kernel_rfl) (by kernel_rfl) (fun k_ v_ wa wb h hk' => by
      rcases h with ⟨h0, g, c, hg, hv, hB⟩ | ⟨h0, g, hg, hv, hB⟩
      · exact .inl ⟨h0, g, c, hg, hv, hB.kept hk' (by rintro (e | e) <;> omega)⟩
      · exact .inr ⟨h0, g, hg, hv, hB.kept hk' (by rintro (e | e) <;> omega)⟩) (fun wx hm => (hmp.kept hm.kept (fun e => hne e.symm) : MapAt wx mb cs ck)) (certs_of [0, 1, 2, 3, 4, 5, 6, 7, 8, 9] (by kernel_rfl) ⟨pwr_g6_c0, pwr_g6_c1, pwr_g6_c2, pwr_g6_c3, pwr_g6_c4, pwr_g6_c5, pwr_g6_c6, pwr_g6_c7, pwr_g6_c8, pwr_g6_c9, trivial⟩) (by kernel_rfl) (by kernel_rfl) (by kernel_rfl) (fun W hX hzW hmW => ?_)
  refine holds_go _ _ (pwr_s7 n a c lb mb pb W) trivial ?_
  refine holds_ret [] (by kernel_rfl) (pwr_r8 n a c lb mb pb) ?_
  intro wx hm
  refine ⟨rfl, hm.at_ 0 rfl, MapAt.kept (hX : MapAt W mb (putC cs ck k (intsOf s)).1 (putC cs ck k (intsOf s)).2) hm.kept (by rintro ⟨b, hb, hr, he⟩; simp at hb; subst hb; simp at he; omega), hmW.kept.trans hm.kept (fun k_ _ ⟨b, hb, hr, he⟩ => .inl (by simp at hb; subst hb; exact he.symm))⟩

theorem write_pl (M : Pl) (pb : Nat) (k : Int) (s : ByteArray) (ha : M.acts < 4611686018427387904) (hk : 0 ≤ k ∧ k < (M.n : Int)) (hs : s.size = 64) (w : World) (hP : PlatAt 53 56 w pb M) :
    Calls Try.prog 12 #[.pointer (some ⟨pb, 0, none⟩), .int .i64 k, .string s] w (fun e w' => e = .returned (.int .i64 (goesE M)) ∧ PlatAt 53 56 w' pb (writePl M k (intsOf s)) ∧ Kept (minePl pb M) w w') := by
  have hok := hP.ok.write (k := k) (L := intsOf s) hk (secOk_of hs)
  have ha2 := hP.ok.a0
  have hc2 := hP.ok.c0
  obtain ⟨h1, h2, h3, h4⟩ := hP
  obtain ⟨lb, mb, n, last, cs, ck, off, a, c⟩ := M
  cases off with
  | true => exact (write_off n lb mb pb a c k s w h1).mono fun e w' ⟨he, hk⟩ => ⟨he, ⟨h1.kept hk id, h2.kept hk id, h3.kept hk id, h4⟩, hk.mono (fun _ _ h => h.elim)⟩
  | false =>
    cases hc1 : decide (c = 1) with
    | true =>
      have e1 : goesE ⟨lb, mb, n, last, cs, ck, false, a, c⟩ = 70 := by simp [goesE, Pl.goes, hc1]
      have e2 : writePl ⟨lb, mb, n, last, cs, ck, false, a, c⟩ k (intsOf s) = ⟨lb, mb, n, last, cs, ck, decide (c = 1), a + 1, dn c⟩ := by simp [writePl, actPl, Pl.goes, hc1]
      rw [e1, e2]
      rw [e2] at hok
      refine (write_cut n lb mb pb a c ⟨ha2, ha⟩ hc2 hc1 k s w h1).mono fun e w' ⟨he, hB, hk⟩ => ⟨he, ⟨hB, h2.kept hk (fun e => h4.ne2 e.symm), h3.kept hk (fun e => h4.ne1 e.symm), hok⟩, hk.mono (fun _ _ h => .inl h)⟩
    | false =>
      have e1 : goesE ⟨lb, mb, n, last, cs, ck, false, a, c⟩ = 0 := by simp [goesE, Pl.goes, hc1]
      have e2 : writePl ⟨lb, mb, n, last, cs, ck, false, a, c⟩ k (intsOf s) = ⟨lb, mb, n, last, (putC cs ck k (intsOf s)).1, (putC cs ck k (intsOf s)).2, decide (c = 1), a + 1, dn c⟩ := by simp [writePl, actPl, Pl.goes, hc1]
      rw [e1, e2]
      rw [e2] at hok
      refine (write_live n lb mb pb a c ⟨ha2, ha⟩ hc2 hc1 k s cs ck hk hs h4.ne1 w h1 h3).mono fun e w' ⟨he, hB, hmw, hk⟩ => ⟨he, ⟨hB, h2.kept hk (fun e => e.elim (fun e => h4.ne2 e.symm) h4.ne3), hmw, hok⟩, hk.mono (fun _ _ h => h.imp_right .inr)⟩
theorem prh_s1 (n : Nat) (k : Int) (a : Int) (c : Int) (lb : Nat) (mb : Nat) (pb : Nat) (last : List (List Int)) (w : World) : Res.prune [0, 1, 4, 5, 12, 13] [] (exec Try.prog (bodyOf Try.f17) 36 23 [⟨false, 0, []⟩, ⟨false, 0, []⟩, ⟨false, 0, []⟩, ⟨false, 0, []⟩, ⟨false, 0, []⟩, ⟨false, 0, [⟨false, 0, 2, 1⟩]⟩, ⟨false, 0, []⟩, ⟨false, 0, []⟩, ⟨false, 0, []⟩] [.code []] ⟨[(0, .pointer (some ⟨pb, 0, none⟩)), (1, .int .i64 k)], [⟨pb, 53, false, [.slice (some ⟨lb, 0, none⟩) n n, .map (some mb), .bool false, .int .i64 a, .int .i64 c]⟩, ⟨lb, 56, false, (secsV last)⟩], [], w.heap.size⟩) = some ⟨[false = false], dupR [(pb, 2, 1)], [.ops [1, 1, 0, 0] [2, 3], .code [1, 1, 0, 1], .code [1, 1, 1]], ⟨[(0, .pointer (some ⟨pb, 0, none⟩)), (1, .int .i64 k), (4, .string ⟨#[]⟩), (5, .int .i64 0), (12, .pointer (some ⟨pb, 0, none⟩)), (13, .int .i64 k)], [⟨pb, 53, false, [.slice (some ⟨lb, 0, none⟩) n n, .map (some mb), .bool false, .int .i64 a, .int .i64 c]⟩, ⟨lb, 56, false, (secsV last)⟩], [], w.heap.size⟩⟩ := by kernel_rfl
theorem prh_c2 (k : Int) (pb : Nat) : callAt Try.prog (opsOf (getCode (bodyOf Try.f17) [1, 1, 0, 0])) [(0, .pointer (some ⟨pb, 0, none⟩)), (1, .int .i64 k), (4, .string ⟨#[]⟩), (5, .int .i64 0), (12, .pointer (some ⟨pb, 0, none⟩)), (13, .int .i64 k)] 2 = some (24, [.pointer (some ⟨pb, 0, none⟩), .int .i64 k], some 14, []) := by kernel_rfl
theorem prh_s3 (n : Nat) (k : Int) (a : Int) (c : Int) (lb : Nat) (mb : Nat) (pb : Nat) (last : List (List Int)) (z2 : Nat) : Res.prune [0, 1, 4, 5, 20, 21] [] (exec Try.prog (bodyOf Try.f17) 36 14 [⟨false, 0, []⟩, ⟨false, 0, []⟩, ⟨false, 0, []⟩, ⟨false, 0, []⟩, ⟨false, 0, []⟩, ⟨false, 0, [⟨false, 0, 1, 1⟩]⟩, ⟨false, 0, []⟩] [.ops [1, 1, 0, 0] [3], .code [1, 1, 0, 1], .code [1, 1, 1]] ⟨[(14, .bool true), (0, .pointer (some ⟨pb, 0, none⟩)), (1, .int .i64 k), (4, .string ⟨#[]⟩), (5, .int .i64 0), (12, .pointer (some ⟨pb, 0, none⟩)), (13, .int .i64 k)], [⟨pb, 53, false, [.slice (some ⟨lb, 0, none⟩) n n, .map (some mb), .bool false, .int .i64 a, .int .i64 c]⟩, ⟨lb, 56, false, (secsV last)⟩], [], z2⟩) = some ⟨[false = false], dupR [(pb, 1, 1)], [.ops [1, 1, 1, 0] [5, 6, 7, 8, 9, 10, 11], .code [1, 1, 1, 1]], ⟨[(0, .pointer (some ⟨pb, 0, none⟩)), (1, .int .i64 k), (4, .string ⟨#[]⟩), (5, .int .i64 0), (20, .map (some mb)), (21, .int .i64 k)], [⟨pb, 53, false, [.slice (some ⟨lb, 0, none⟩) n n, .map (some mb), .bool false, .int .i64 a, .int .i64 c]⟩, ⟨lb, 56, false, (secsV last)⟩], [], z2⟩⟩ := by kernel_rfl
theorem prh_s5 (n : Nat) (k : Int) (a : Int) (c : Int) (lb : Nat) (mb : Nat) (pb : Nat) (L : List Int) (last : List (List Int)) (z2 : Nat) : Res.prune [0, 1, 4, 5, 6, 23, 24] [] (exec Try.prog (bodyOf Try.f17) 36 7 [⟨false, 0, []⟩, ⟨false, 0, []⟩, ⟨false, 0, []⟩, ⟨false, 0, []⟩] [.ops [1, 1, 1, 0] [6, 7, 8, 9, 10, 11], .code [1, 1, 1, 1]] ⟨[(22, .tuple #[secV L, .bool true]), (0, .pointer (some ⟨pb, 0, none⟩)), (1, .int .i64 k), (4, .string ⟨#[]⟩), (5, .int .i64 0), (20, .map (some mb)), (21, .int .i64 k)], [⟨pb, 53, false, [.slice (some ⟨lb, 0, none⟩) n n, .map (some mb), .bool false, .int .i64 a, .int .i64 c]⟩, ⟨lb, 56, false, (secsV last)⟩], [], z2⟩) = some ⟨[], dupR [], [.ops [1, 1, 1, 0] [10, 11], .code [1, 1, 1, 1]], ⟨[(0, .pointer (some ⟨pb, 0, none⟩)), (1, .int .i64 k), (4, .string ⟨#[]⟩), (5, .int .i64 0), (6, .pointer (some ⟨z2, 0, none⟩)), (23, secV L), (24, .bool true)], [⟨pb, 53, false, [.slice (some ⟨lb, 0, none⟩) n n, .map (some mb), .bool false, .int .i64 a, .int .i64 c]⟩, ⟨lb, 56, false, (secsV last)⟩, ⟨z2, 56, true, [.int .u8 0, .int .u8 0, .int .u8 0, .int .u8 0, .int .u8 0, .int .u8 0, .int .u8 0, .int .u8 0, .int .u8 0, .int .u8 0, .int .u8 0, .int .u8 0, .int .u8 0, .int .u8 0, .int .u8 0, .int .u8 0, .int .u8 0, .int .u8 0, .int .u8 0, .int .u8 0, .int .u8 0, .int .u8 0, .int .u8 0, .int .u8 0, .int .u8 0, .int .u8 0, .int .u8 0, .int .u8 0, .int .u8 0, .int .u8 0, .int .u8 0, .int .u8 0, .int .u8 0, .int .u8 0, .int .u8 0, .int .u8 0, .int .u8 0, .int .u8 0, .int .u8 0, .int .u8 0, .int .u8 0, .int .u8 0, .int .u8 0, .int .u8 0, .int .u8 0, .int .u8 0, .int .u8 0, .int .u8 0, .int .u8 0, .int .u8 0, .int .u8 0, .int .u8 0, .int .u8 0, .int .u8 0, .int .u8 0, .int .u8 0, .int .u8 0, .int .u8 0, .int .u8 0, .int .u8 0, .int .u8 0, .int .u8 0, .int .u8 0, .int .u8 0]⟩], [], z2 + 1⟩⟩ := by kernel_rfl
theorem prh_s7 (n : Nat) (k : Int) (a : Int) (c : Int) (lb : Nat) (mb : Nat) (pb : Nat) (L : List Int) (last : List (List Int)) (z2 : Nat) (z6 : Nat) : Res.prune [4, 5, 34] [] (exec Try.prog (bodyOf Try.f17) 36 16 [⟨false, 0, []⟩, ⟨false, 0, []⟩, ⟨false, 0, []⟩, ⟨false, 0, []⟩, ⟨false, 0, []⟩] [.ops [1, 1, 1, 0] [11], .code [1, 1, 1, 1]] ⟨[(0, .pointer (some ⟨pb, 0, none⟩)), (1, .int .i64 k), (4, .string ⟨#[]⟩), (5, .int .i64 0), (6, .pointer (some ⟨z2, 0, none⟩)), (23, secV L), (24, .bool true)], [⟨pb, 53, false, [.slice (some ⟨lb, 0, none⟩) n n, .map (some mb), .bool false, .int .i64 a, .int .i64 c]⟩, ⟨lb, 56, false, (secsV last)⟩, ⟨z2, 56, true, (intsV L)⟩], [], z6⟩) = some ⟨[false = false], dupR [], [.ops [1, 1, 1, 1, 1, 0] [1, 2, 3], .code [1, 1, 1, 1, 1, 1]], ⟨[(4, .string ⟨#[]⟩), (5, .int .i64 0), (34, .slice (some ⟨z2, 0, none⟩) 64 64)], [⟨pb, 53, false, [.slice (some ⟨lb, 0, none⟩) n n, .map (some mb), .bool false, .int .i64 a, .int .i64 c]⟩, ⟨lb, 56, false, (secsV last)⟩, ⟨z2, 56, true, (intsV L)⟩], [], z6⟩⟩ := by kernel_rfl
theorem prh_s9 (n : Nat) (a : Int) (c : Int) (lb : Nat) (mb : Nat) (pb : Nat) (L : List Int) (last : List (List Int)) (z2 : Nat) (z6 : Nat) : Res.prune [4, 5] [] (exec Try.prog (bodyOf Try.f17) 36 6 [⟨false, 0, []⟩, ⟨false, 0, []⟩] [.ops [1, 1, 1, 1, 1, 0] [2, 3], .code [1, 1, 1, 1, 1, 1]] ⟨[(35, .string (bytesI L)), (4, .string ⟨#[]⟩), (5, .int .i64 0), (34, .slice (some ⟨z2, 0, none⟩) 64 64)], [⟨pb, 53, false, [.slice (some ⟨lb, 0, none⟩) n n, .map (some mb), .bool false, .int .i64 a, .int .i64 c]⟩, ⟨lb, 56, false, (secsV last)⟩, ⟨z2, 56, true, (intsV L)⟩], [], z6⟩) = some ⟨[], dupR [], [.code [1, 1, 1, 1, 1, 1]], ⟨[(4, .string (bytesI L)), (5, .int .i64 0)], [⟨pb, 53, false, [.slice (some ⟨lb, 0, none⟩) n n, .map (some mb), .bool false, .int .i64 a, .int .i64 c]⟩, ⟨lb, 56, false, (secsV last)⟩, ⟨z2, 56, true, (intsV L)⟩], [], z6⟩⟩ := by kernel_rfl
theorem prh_r10 (n : Nat) (a : Int) (c : Int) (lb : Nat) (mb : Nat) (pb : Nat) (L : List Int) (last : List (List Int)) (z2 : Nat) : resL Try.prog [] [⟨pb, 53, false, [.slice (some ⟨lb, 0, none⟩) n n, .map (some mb), .bool false, .int .i64 a, .int .i64 c]⟩, ⟨lb, 56, false, (secsV last)⟩, ⟨z2, 56, true, (intsV L)⟩] [(4, .string (bytesI L)), (5, .int .i64 0)] Try.f17.results.toList [] = some ([.string (bytesI L), .int .i64 0], dupR []) := by kernel_rfl
set_option maxRecDepth 100000 in
set_option maxHeartbeats 4000000 in
theorem read_hit (n lb mb pb : Nat) (a c k : Int) (hk : 0 ≤ k ∧ k < (n : Int)) (cs : List CE) (ck : Nat) (last : List (List Int)) (L : List Int) (hL : SecOk L) (hne : ¬pb = lb) (hv : valC cs k = some L) (w : World) (hp : Blk w pb 53 [.slice (some ⟨lb, 0, none⟩) n n, .map (some mb), .bool false, .int .i64 a, .int .i64 c]) (hl : Blk w lb 56 (secsV last)) (hmp : MapAt w mb cs ck) :
    Calls Try.prog 17 #[.pointer (some ⟨pb, 0, none⟩), .int .i64 k] w (RetK (.tuple #[.string (bytesI L), .int .i64 0]) w) := by
  refine calls_of_holds (S := (fun _ => False)) (l := [.pointer (some ⟨pb, 0, none⟩), .int .i64 k]) (n := 36) Try.func17 (body_of (by kernel_rfl)) rfl (by simp) (MemOk.start (bk := [⟨pb, 53, false, [.slice (some ⟨lb, 0, none⟩) n n, .map (some mb), .bool false, .int .i64 a, .int .i64 c]⟩, ⟨lb, 56, false, (secsV last)⟩]) (wn := []) (by simpa using ⟨hp, hl⟩) (by simp) (by simp; exact hne) (by simp)) ?_
  refine holds_go _ _ (prh_s1 n k a c lb mb pb last w) ⟨rfl, trivial⟩ ?_
  refine holds_callP (.bool true) (prh_c2 k pb) trivial rfl (fun wx hm => has_true n lb mb pb false a c k hk wx (hm.at_ 0 rfl)) fun z2 hz2 => ?_
  replace hz2 : w.heap.size ≤ z2 := hz2
  refine holds_go _ _ (prh_s3 n k a c lb mb pb last z2) ⟨rfl, trivial⟩ ?_
  refine holds_opR (dst := (some 22)) (x := Instr.lookup 51 (.map (some mb)) (.int .i64 k) true) (.tuple #[secV L, .bool true]) (by kernel_rfl) (by kernel_rfl) rfl (fun wx hm => ?_) ?_
  · have h := run_look (P := Try.prog) wx 51 3 56 .i64 mb cs ck k (by kernel_rfl) (by kernel_rfl) (by kernel_rfl) (hmp.kept hm.kept id)
    rw [lookC_val, hv] at h
    exact h
  refine holds_go _ _ (prh_s5 n k a c lb mb pb L last z2) trivial ?_
  refine holds_opS (x := Instr.storeAt 56 (.pointer (some ⟨z2, 0, none⟩)) (secV L)) [⟨pb, 53, false, [.slice (some ⟨lb, 0, none⟩) n n, .map (some mb), .bool false, .int .i64 a, .int .i64 c]⟩, ⟨lb, 56, false, (secsV last)⟩, ⟨z2, 56, true, (intsV L)⟩] (by kernel_rfl) (by kernel_rfl) rfl (fun wx hm => ?_) (fun z6 hz6 => ?_)
  · exact store_sec hm (i := 2) rfl rfl (by kernel_rfl) hL.1 (by kernel_rfl)
  replace hz6 : z2 + 1 ≤ z6 := hz6
  refine holds_go _ _ (prh_s7 n k a c lb mb pb L last z2 z6) ⟨rfl, trivial⟩ ?_
  refine holds_opR (dst := (some 35)) (x := convert 30 9 (.slice (some ⟨z2, 0, none⟩) 64 64)) (.string (bytesI L)) (by kernel_rfl) (by kernel_rfl) rfl (fun wx hm => ?_) ?_
  · exact run_bytesAt (P := Try.prog) wx 30 9 5 _ _ _ _ _ L [] [] (by kernel_rfl) (by kernel_rfl) (by kernel_rfl) (by have h := hm.at_ 2 rfl; simpa [intsV] using h) rfl hL.1 hL.2
  refine holds_go _ _ (prh_s9 n a c lb mb pb L last z2 z6) trivial ?_
  refine holds_ret [] (by kernel_rfl) (prh_r10 n a c lb mb pb L last z2) ?_
  intro wx hm
  exact ⟨rfl, hm.kept⟩

theorem prm_s1 (n : Nat) (k : Int) (a : Int) (c : Int) (lb : Nat) (mb : Nat) (pb : Nat) (last : List (List Int)) (w : World) : Res.prune [0, 1, 4, 5, 12, 13] [] (exec Try.prog (bodyOf Try.f17) 36 23 [⟨false, 0, []⟩, ⟨false, 0, []⟩, ⟨false, 0, []⟩, ⟨false, 0, []⟩, ⟨false, 0, []⟩, ⟨false, 0, [⟨false, 0, 2, 1⟩]⟩, ⟨false, 0, []⟩, ⟨false, 0, []⟩, ⟨false, 0, []⟩] [.code []] ⟨[(0, .pointer (some ⟨pb, 0, none⟩)), (1, .int .i64 k)], [⟨pb, 53, false, [.slice (some ⟨lb, 0, none⟩) n n, .map (some mb), .bool false, .int .i64 a, .int .i64 c]⟩, ⟨lb, 56, false, (secsV last)⟩], [], w.heap.size⟩) = some ⟨[false = false], dupR [(pb, 2, 1)], [.ops [1, 1, 0, 0] [2, 3], .code [1, 1, 0, 1], .code [1, 1, 1]], ⟨[(0, .pointer (some ⟨pb, 0, none⟩)), (1, .int .i64 k), (4, .string ⟨#[]⟩), (5, .int .i64 0), (12, .pointer (some ⟨pb, 0, none⟩)), (13, .int .i64 k)], [⟨pb, 53, false, [.slice (some ⟨lb, 0, none⟩) n n, .map (some mb), .bool false, .int .i64 a, .int .i64 c]⟩, ⟨lb, 56, false, (secsV last)⟩], [], w.heap.size⟩⟩ := by kernel_rfl
theorem prm_c2 (k : Int) (pb : Nat) : callAt Try.prog (opsOf (getCode (bodyOf Try.f17) [1, 1, 0, 0])) [(0, .pointer (some ⟨pb, 0, none⟩)), (1, .int .i64 k), (4, .string ⟨#[]⟩), (5, .int .i64 0), (12, .pointer (some ⟨pb, 0, none⟩)), (13, .int .i64 k)] 2 = some (24, [.pointer (some ⟨pb, 0, none⟩), .int .i64 k], some 14, []) := by kernel_rfl
theorem prm_s3 (n : Nat) (k : Int) (a : Int) (c : Int) (lb : Nat) (mb : Nat) (pb : Nat) (last : List (List Int)) (z2 : Nat) : Res.prune [0, 1, 4, 5, 20, 21] [] (exec Try.prog (bodyOf Try.f17) 36 14 [⟨false, 0, []⟩, ⟨false, 0, []⟩, ⟨false, 0, []⟩, ⟨false, 0, []⟩, ⟨false, 0, []⟩, ⟨false, 0, [⟨false, 0, 1, 1⟩]⟩, ⟨false, 0, []⟩] [.ops [1, 1, 0, 0] [3], .code [1, 1, 0, 1], .code [1, 1, 1]] ⟨[(14, .bool true), (0, .pointer (some ⟨pb, 0, none⟩)), (1, .int .i64 k), (4, .string ⟨#[]⟩), (5, .int .i64 0), (12, .pointer (some ⟨pb, 0, none⟩)), (13, .int .i64 k)], [⟨pb, 53, false, [.slice (some ⟨lb, 0, none⟩) n n, .map (some mb), .bool false, .int .i64 a, .int .i64 c]⟩, ⟨lb, 56, false, (secsV last)⟩], [], z2⟩) = some ⟨[false = false], dupR [(pb, 1, 1)], [.ops [1, 1, 1, 0] [5, 6, 7, 8, 9, 10, 11], .code [1, 1, 1, 1]], ⟨[(0, .pointer (some ⟨pb, 0, none⟩)), (1, .int .i64 k), (4, .string ⟨#[]⟩), (5, .int .i64 0), (20, .map (some mb)), (21, .int .i64 k)], [⟨pb, 53, false, [.slice (some ⟨lb, 0, none⟩) n n, .map (some mb), .bool false, .int .i64 a, .int .i64 c]⟩, ⟨lb, 56, false, (secsV last)⟩], [], z2⟩⟩ := by kernel_rfl
theorem prm_s5 (n : Nat) (k : Int) (a : Int) (c : Int) (lb : Nat) (mb : Nat) (pb : Nat) (last : List (List Int)) (z2 : Nat) : Res.prune [0, 1, 4, 5, 6, 23, 24] [] (exec Try.prog (bodyOf Try.f17) 36 7 [⟨false, 0, []⟩, ⟨false, 0, []⟩, ⟨false, 0, []⟩, ⟨false, 0, []⟩] [.ops [1, 1, 1, 0] [6, 7, 8, 9, 10, 11], .code [1, 1, 1, 1]] ⟨[(22, .tuple #[secV zeroSec, .bool false]), (0, .pointer (some ⟨pb, 0, none⟩)), (1, .int .i64 k), (4, .string ⟨#[]⟩), (5, .int .i64 0), (20, .map (some mb)), (21, .int .i64 k)], [⟨pb, 53, false, [.slice (some ⟨lb, 0, none⟩) n n, .map (some mb), .bool false, .int .i64 a, .int .i64 c]⟩, ⟨lb, 56, false, (secsV last)⟩], [], z2⟩) = some ⟨[], dupR [], [.ops [1, 1, 1, 0] [10, 11], .code [1, 1, 1, 1]], ⟨[(0, .pointer (some ⟨pb, 0, none⟩)), (1, .int .i64 k), (4, .string ⟨#[]⟩), (5, .int .i64 0), (6, .pointer (some ⟨z2, 0, none⟩)), (23, secV zeroSec), (24, .bool false)], [⟨pb, 53, false, [.slice (some ⟨lb, 0, none⟩) n n, .map (some mb), .bool false, .int .i64 a, .int .i64 c]⟩, ⟨lb, 56, false, (secsV last)⟩, ⟨z2, 56, true, [.int .u8 0, .int .u8 0, .int .u8 0, .int .u8 0, .int .u8 0, .int .u8 0, .int .u8 0, .int .u8 0, .int .u8 0, .int .u8 0, .int .u8 0, .int .u8 0, .int .u8 0, .int .u8 0, .int .u8 0, .int .u8 0, .int .u8 0, .int .u8 0, .int .u8 0, .int .u8 0, .int .u8 0, .int .u8 0, .int .u8 0, .int .u8 0, .int .u8 0, .int .u8 0, .int .u8 0, .int .u8 0, .int .u8 0, .int .u8 0, .int .u8 0, .int .u8 0, .int .u8 0, .int .u8 0, .int .u8 0, .int .u8 0, .int .u8 0, .int .u8 0, .int .u8 0, .int .u8 0, .int .u8 0, .int .u8 0, .int .u8 0, .int .u8 0, .int .u8 0, .int .u8 0, .int .u8 0, .int .u8 0, .int .u8 0, .int .u8 0, .int .u8 0, .int .u8 0, .int .u8 0, .int .u8 0, .int .u8 0, .int .u8 0, .int .u8 0, .int .u8 0, .int .u8 0, .int .u8 0, .int .u8 0, .int .u8 0, .int .u8 0, .int .u8 0]⟩], [], z2 + 1⟩⟩ := by kernel_rfl
theorem prm_s7 (n : Nat) (k : Int) (a : Int) (c : Int) (lb : Nat) (mb : Nat) (pb : Nat) (last : List (List Int)) (z2 : Nat) (z6 : Nat) : Res.prune [4, 5, 6, 32] [] (exec Try.prog (bodyOf Try.f17) 36 19 [⟨false, 0, []⟩, ⟨false, 0, []⟩, ⟨false, 0, []⟩, ⟨true, 0, []⟩, ⟨false, 0, []⟩, ⟨false, 0, []⟩, ⟨false, 0, []⟩, ⟨false, 0, [⟨false, 0, 0, 1⟩]⟩, ⟨false, 0, []⟩, ⟨false, 1, []⟩] [.ops [1, 1, 1, 0] [11], .code [1, 1, 1, 1]] ⟨[(0, .pointer (some ⟨pb, 0, none⟩)), (1, .int .i64 k), (4, .string ⟨#[]⟩), (5, .int .i64 0), (6, .pointer (some ⟨z2, 0, none⟩)), (23, secV zeroSec), (24, .bool false)], [⟨pb, 53, false, [.slice (some ⟨lb, 0, none⟩) n n, .map (some mb), .bool false, .int .i64 a, .int .i64 c]⟩, ⟨lb, 56, false, (secsV last)⟩, ⟨z2, 56, true, (intsV zeroSec)⟩], [], z6⟩) = some ⟨[true = true, (0 : Int) ≤ k ∧ k < ((n : Nat) : Int)], dupR [(pb, 0, 1)], [.ops [1, 1, 1, 1, 0, 1, 0] [6, 7], .code [1, 1, 1, 1, 1]], ⟨[(4, .string ⟨#[]⟩), (5, .int .i64 0), (6, .pointer (some ⟨z2, 0, none⟩)), (32, .pointer (some ⟨lb, 0 + (Int.toNat k) * 64, none⟩))], [⟨pb, 53, false, [.slice (some ⟨lb, 0, none⟩) n n, .map (some mb), .bool false, .int .i64 a, .int .i64 c]⟩, ⟨lb, 56, false, (secsV last)⟩, ⟨z2, 56, true, (intsV zeroSec)⟩], [], z6⟩⟩ := by kernel_rfl
theorem prm_s9 (n : Nat) (k : Int) (a : Int) (c : Int) (lb : Nat) (mb : Nat) (pb : Nat) (L : List Int) (last : List (List Int)) (z2 : Nat) (z6 : Nat) : Res.prune [4, 5, 6, 33] [] (exec Try.prog (bodyOf Try.f17) 36 3 [] [.ops [1, 1, 1, 1, 0, 1, 0] [7], .code [1, 1, 1, 1, 1]] ⟨[(33, secV L), (4, .string ⟨#[]⟩), (5, .int .i64 0), (6, .pointer (some ⟨z2, 0, none⟩)), (32, .pointer (some ⟨lb, 0 + (Int.toNat k) * 64, none⟩))], [⟨pb, 53, false, [.slice (some ⟨lb, 0, none⟩) n n, .map (some mb), .bool false, .int .i64 a, .int .i64 c]⟩, ⟨lb, 56, false, (secsV last)⟩, ⟨z2, 56, true, (intsV zeroSec)⟩], [], z6⟩) = some ⟨[], dupR [], [.ops [1, 1, 1, 1, 0, 1, 0] [7], .code [1, 1, 1, 1, 1]], ⟨[(4, .string ⟨#[]⟩), (5, .int .i64 0), (6, .pointer (some ⟨z2, 0, none⟩)), (33, secV L)], [⟨pb, 53, false, [.slice (some ⟨lb, 0, none⟩) n n, .map (some mb), .bool false, .int .i64 a, .int .i64 c]⟩, ⟨lb, 56, false, (secsV last)⟩, ⟨z2, 56, true, (intsV zeroSec)⟩], [], z6⟩⟩ := by kernel_rfl
theorem prm_s11 (n : Nat) (a : Int) (c : Int) (lb : Nat) (mb : Nat) (pb : Nat) (L : List Int) (last : List (List Int)) (z2 : Nat) (z10 : Nat) : Res.prune [4, 5, 34] [] (exec Try.prog (bodyOf Try.f17) 36 7 [⟨false, 0, []⟩] [.ops [1, 1, 1, 1, 0, 1, 0] [], .code [1, 1, 1, 1, 1]] ⟨[(4, .string ⟨#[]⟩), (5, .int .i64 0), (6, .pointer (some ⟨z2, 0, none⟩)), (33, secV L)], [⟨pb, 53, false, [.slice (some ⟨lb, 0, none⟩) n n, .map (some mb), .bool false, .int .i64 a, .int .i64 c]⟩, ⟨lb, 56, false, (secsV last)⟩, ⟨z2, 56, true, (intsV L)⟩], [], z10⟩) = some ⟨[], dupR [], [.ops [1, 1, 1, 1, 1, 0] [1, 2, 3], .code [1, 1, 1, 1, 1, 1]], ⟨[(4, .string ⟨#[]⟩), (5, .int .i64 0), (34, .slice (some ⟨z2, 0, none⟩) 64 64)], [⟨pb, 53, false, [.slice (some ⟨lb, 0, none⟩) n n, .map (some mb), .bool false, .int .i64 a, .int .i64 c]⟩, ⟨lb, 56, false, (secsV last)⟩, ⟨z2, 56, true, (intsV L)⟩], [], z10⟩⟩ := by kernel_rfl
theorem prm_s13 (n : Nat) (a : Int) (c : Int) (lb : Nat) (mb : Nat) (pb : Nat) (L : List Int) (last : List (List Int)) (z2 : Nat) (z10 : Nat) : Res.prune [4, 5] [] (exec Try.prog (bodyOf Try.f17) 36 6 [⟨false, 0, []⟩, ⟨false, 0, []⟩] [.ops [1, 1, 1, 1, 1, 0] [2, 3], .code [1, 1, 1, 1, 1, 1]] ⟨[(35, .string (bytesI L)), (4, .string ⟨#[]⟩), (5, .int .i64 0), (34, .slice (some ⟨z2, 0, none⟩) 64 64)], [⟨pb, 53, false, [.slice (some ⟨lb, 0, none⟩) n n, .map (some mb), .bool false, .int .i64 a, .int .i64 c]⟩, ⟨lb, 56, false, (secsV last)⟩, ⟨z2, 56, true, (intsV L)⟩], [], z10⟩) = some ⟨[], dupR [], [.code [1, 1, 1, 1, 1, 1]], ⟨[(4, .string (bytesI L)), (5, .int .i64 0)], [⟨pb, 53, false, [.slice (some ⟨lb, 0, none⟩) n n, .map (some mb), .bool false, .int .i64 a, .int .i64 c]⟩, ⟨lb, 56, false, (secsV last)⟩, ⟨z2, 56, true, (intsV L)⟩], [], z10⟩⟩ := by kernel_rfl
theorem prm_r14 (n : Nat) (a : Int) (c : Int) (lb : Nat) (mb : Nat) (pb : Nat) (L : List Int) (last : List (List Int)) (z2 : Nat) : resL Try.prog [] [⟨pb, 53, false, [.slice (some ⟨lb, 0, none⟩) n n, .map (some mb), .bool false, .int .i64 a, .int .i64 c]⟩, ⟨lb, 56, false, (secsV last)⟩, ⟨z2, 56, true, (intsV L)⟩] [(4, .string (bytesI L)), (5, .int .i64 0)] Try.f17.results.toList [] = some ([.string (bytesI L), .int .i64 0], dupR []) := by kernel_rfl
set_option maxRecDepth 100000 in
set_option maxHeartbeats 4000000 in
theorem read_miss (n lb mb pb : Nat) (a c k : Int) (hk : 0 ≤ k ∧ k < (n : Int)) (cs : List CE) (ck : Nat) (last : List (List Int)) (L : List Int) (hL : SecOk L) (hne : ¬pb = lb) (hv : valC cs k = none) (hsec : ∀ L ∈ last, L.length = 64) (hk2 : last[k.toNat]? = some L) (w : World) (hp : Blk w pb 53 [.slice (some ⟨lb, 0, none⟩) n n, .map (some mb), .bool false, .int .i64 a, .int .i64 c]) (hl : Blk w lb 56 (secsV last)) (hmp : MapAt w mb cs ck) :
    Calls Try.prog 17 #[.pointer (some ⟨pb, 0, none⟩), .int .i64 k] w (RetK (.tuple #[.string (bytesI L), .int .i64 0]) w) := by
  refine calls_of_holds (S := (fun _ => False)) (l := [.pointer (some ⟨pb, 0, none⟩), .int .i64 k]) (n := 36) Try.func17 (body_of (by kernel_rfl)) rfl (by simp) (MemOk.start (bk := [⟨pb, 53, false, [.slice (some ⟨lb, 0, none⟩) n n, .map (some mb), .bool false, .int .i64 a, .int .i64 c]⟩, ⟨lb, 56, false, (secsV last)⟩]) (wn := []) (by simpa using ⟨hp, hl⟩) (by simp) (by simp; exact hne) (by simp)) ?_
  refine holds_go _ _ (prm_s1 n k a c lb mb pb last w) ⟨rfl, trivial⟩ ?_
  refine holds_callP (.bool true) (prm_c2 k pb) trivial rfl (fun wx hm => has_true n lb mb pb false a c k hk wx (hm.at_ 0 rfl)) fun z2 hz2 => ?_
  replace hz2 : w.heap.size ≤ z2 := hz2
  refine holds_go _ _ (prm_s3 n k a c lb mb pb last z2) ⟨rfl, trivial⟩ ?_
  refine holds_opR (dst := (some 22)) (x := Instr.lookup 51 (.map (some mb)) (.int .i64 k) true) (.tuple #[secV zeroSec, .bool false]) (by kernel_rfl) (by kernel_rfl) rfl (fun wx hm => ?_) ?_
  · have h := run_look (P := Try.prog) wx 51 3 56 .i64 mb cs ck k (by kernel_rfl) (by kernel_rfl) (by kernel_rfl) (hmp.kept hm.kept id)
    rw [lookC_val, hv] at h
    exact h
  refine holds_go _ _ (prm_s5 n k a c lb mb pb last z2) trivial ?_
  refine holds_opS (x := Instr.storeAt 56 (.pointer (some ⟨z2, 0, none⟩)) (secV zeroSec)) [⟨pb, 53, false, [.slice (some ⟨lb, 0, none⟩) n n, .map (some mb), .bool false, .int .i64 a, .int .i64 c]⟩, ⟨lb, 56, false, (secsV last)⟩, ⟨z2, 56, true, (intsV zeroSec)⟩] (by kernel_rfl) (by kernel_rfl) rfl (fun wx hm => ?_) (fun z6 hz6 => ?_)
  · exact store_sec hm (i := 2) rfl rfl (by kernel_rfl) secOk_zero.1 (by kernel_rfl)
  replace hz6 : z2 + 1 ≤ z6 := hz6
  refine holds_go _ _ (prm_s7 n k a c lb mb pb last z2 z6) ⟨rfl, ⟨by omega, by omega⟩, trivial⟩ ?_
  refine holds_opR (dst := (some 33)) (x := Instr.loadAt 56 (.pointer (some ⟨lb, 0 + (Int.toNat k) * 64, none⟩))) (secV L) (by kernel_rfl) (by kernel_rfl) rfl (fun wx hm => ?_) ?_
  · exact run_loadMany (P := Try.prog) wx 56 5 64 _ _ _ _ (intsV L) (by kernel_rfl) (by rw [show (intsV L).length = 64 by simp [intsV, hL.1]]; kernel_rfl) (hm.at_ 1 rfl) (secsV_get hsec hk2)
  refine holds_go _ _ (prm_s9 n k a c lb mb pb L last z2 z6) trivial ?_
  refine holds_opS (x := Instr.storeAt 56 (.pointer (some ⟨z2, 0, none⟩)) (secV L)) [⟨pb, 53, false, [.slice (some ⟨lb, 0, none⟩) n n, .map (some mb), .bool false, .int .i64 a, .int .i64 c]⟩, ⟨lb, 56, false, (secsV last)⟩, ⟨z2, 56, true, (intsV L)⟩] (by kernel_rfl) (by kernel_rfl) rfl (fun wx hm => ?_) (fun z10 hz10 => ?_)
  · exact store_sec hm (i := 2) rfl rfl (by kernel_rfl) hL.1 (by kernel_rfl)
  replace hz10 : z6 ≤ z10 := hz10
  refine holds_go _ _ (prm_s11 n a c lb mb pb L last z2 z10) trivial ?_
  refine holds_opR (dst := (some 35)) (x := convert 30 9 (.slice (some ⟨z2, 0, none⟩) 64 64)) (.string (bytesI L)) (by kernel_rfl) (by kernel_rfl) rfl (fun wx hm => ?_) ?_
  · exact run_bytesAt (P := Try.prog) wx 30 9 5 _ _ _ _ _ L [] [] (by kernel_rfl) (by kernel_rfl) (by kernel_rfl) (by have h := hm.at_ 2 rfl; simpa [intsV] using h) rfl hL.1 hL.2
  refine holds_go _ _ (prm_s13 n a c lb mb pb L last z2 z10) trivial ?_
  refine holds_ret [] (by kernel_rfl) (prm_r14 n a c lb mb pb L last z2) ?_
  intro wx hm
  exact ⟨rfl, hm.kept⟩

theorem read_pl (M : Pl) (pb : Nat) (k : Int) (hk : 0 ≤ k ∧ k < (M.n : Int)) (hoff : M.off = false) (w : World) (hP : PlatAt 53 56 w pb M) :
    Calls Try.prog 17 #[.pointer (some ⟨pb, 0, none⟩), .int .i64 k] w (RetK (.tuple #[.string (bytesI (readPl M k)), .int .i64 0]) w) := by
  have hS := hP.ok.read k
  obtain ⟨h1, h2, h3, h4⟩ := hP
  have hls := h4.lens
  obtain ⟨lb, mb, n, last, cs, ck, off, a, c⟩ := M
  dsimp only at hoff
  subst hoff
  unfold readPl at hS ⊢
  dsimp only at hS hls ⊢
  have hlen : last.length = n := h4.len
  cases hv : valC cs k with
  | some L =>
    rw [hv] at hS
    exact read_hit n lb mb pb a c k hk cs ck last L hS h4.ne2 hv w h1 h2 h3
  | none =>
    rw [hv] at hS
    have hlt : k.toNat < last.length := by rw [hlen]; dsimp only at hk; omega
    have e : last[k.toNat]? = some (last[k.toNat]?.getD zeroSec) := by rw [List.getElem?_eq_getElem hlt]; rfl
    exact read_miss n lb mb pb a c k hk cs ck last _ hS h4.ne2 hv hls e w h1 h2 h3
theorem pfo_s1 (n : Nat) (a : Int) (c : Int) (lb : Nat) (mb : Nat) (pb : Nat) (w : World) : Res.prune [0, 2, 5] [] (exec Try.prog (bodyOf Try.f14) 29 11 [⟨false, 0, []⟩, ⟨false, 0, []⟩] [.code []] ⟨[(0, .pointer (some ⟨pb, 0, none⟩))], [⟨pb, 53, false, [.slice (some ⟨lb, 0, none⟩) n n, .map (some mb), .bool true, .int .i64 a, .int .i64 c]⟩], [], w.heap.size⟩) = some ⟨[], dupR [], [.ops [1, 0, 0] [1, 2], .code [1, 0, 1], .code [1, 1]], ⟨[(0, .pointer (some ⟨pb, 0, none⟩)), (2, .int .i64 0), (5, .pointer (some ⟨pb, 0, none⟩))], [⟨pb, 53, false, [.slice (some ⟨lb, 0, none⟩) n n, .map (some mb), .bool true, .int .i64 a, .int .i64 c]⟩], [], w.heap.size⟩⟩ := by kernel_rfl
theorem pfo_c2 (pb : Nat) : callAt Try.prog (opsOf (getCode (bodyOf Try.f14) [1, 0, 0])) [(0, .pointer (some ⟨pb, 0, none⟩)), (2, .int .i64 0), (5, .pointer (some ⟨pb, 0, none⟩))] 1 = some (23, [.pointer (some ⟨pb, 0, none⟩)], some 6, []) := by kernel_rfl
theorem pfo_s3 (n : Nat) (a : Int) (c : Int) (lb : Nat) (mb : Nat) (pb : Nat) (z2 : Nat) : Res.prune [0, 2] [] (exec Try.prog (bodyOf Try.f14) 29 10 [⟨false, 0, []⟩, ⟨true, 0, []⟩, ⟨false, 0, []⟩] [.ops [1, 0, 0] [2], .code [1, 0, 1], .code [1, 1]] ⟨[(6, .bool false), (0, .pointer (some ⟨pb, 0, none⟩)), (2, .int .i64 0), (5, .pointer (some ⟨pb, 0, none⟩))], [⟨pb, 53, false, [.slice (some ⟨lb, 0, none⟩) n n, .map (some mb), .bool true, .int .i64 a, .int .i64 c]⟩], [], z2⟩) = some ⟨[true = true], dupR [], [.code [1, 0, 1, 0, 1], .code [1, 1]], ⟨[(0, .pointer (some ⟨pb, 0, none⟩)), (2, .int .i64 70)], [⟨pb, 53, false, [.slice (some ⟨lb, 0, none⟩) n n, .map (some mb), .bool true, .int .i64 a, .int .i64 c]⟩], [], z2⟩⟩ := by kernel_rfl
theorem pfo_r4 (n : Nat) (a : Int) (c : Int) (lb : Nat) (mb : Nat) (pb : Nat) : resL Try.prog [] [⟨pb, 53, false, [.slice (some ⟨lb, 0, none⟩) n n, .map (some mb), .bool true, .int .i64 a, .int .i64 c]⟩] [(0, .pointer (some ⟨pb, 0, none⟩)), (2, .int .i64 70)] Try.f14.results.toList [] = some ([.int .i64 70], dupR []) := by kernel_rfl
set_option maxRecDepth 100000 in
set_option maxHeartbeats 4000000 in
theorem flush_off (n lb mb pb : Nat) (a c : Int)  (w : World) (hp : Blk w pb 53 [.slice (some ⟨lb, 0, none⟩) n n, .map (some mb), .bool true, .int .i64 a, .int .i64 c]) :
    Calls Try.prog 14 #[.pointer (some ⟨pb, 0, none⟩)] w (RetK (.int .i64 70) w) := by
  refine calls_of_holds (S := (fun _ => False)) (l := [.pointer (some ⟨pb, 0, none⟩)]) (n := 29) Try.func14 (body_of (by kernel_rfl)) rfl (by simp) (MemOk.start (bk := [⟨pb, 53, false, [.slice (some ⟨lb, 0, none⟩) n n, .map (some mb), .bool true, .int .i64 a, .int .i64 c]⟩]) (wn := []) (by simpa using hp) (by simp) (by simp) (by simp)) ?_
  refine holds_go _ _ (pfo_s1 n a c lb mb pb w) trivial ?_
  refine holds_callP (.bool false) (pfo_c2 pb) trivial rfl (fun wx hm => act_off n lb mb pb a c wx (hm.at_ 0 rfl)) fun z2 hz2 => ?_
  replace hz2 : w.heap.size ≤ z2 := hz2
  refine holds_go _ _ (pfo_s3 n a c lb mb pb z2) ⟨rfl, trivial⟩ ?_
  refine holds_ret [] (by kernel_rfl) (pfo_r4 n a c lb mb pb) ?_
  intro wx hm
  exact ⟨rfl, hm.kept⟩

def pfc_v1 (n : Nat) (a : Int) (c : Int) (lb : Nat) (mb : Nat) : List Value := [.slice (some ⟨lb, 0, none⟩) n n, .map (some mb), .bool (decide (c = 1)), .int .i64 (a + 1), .int .i64 (dn c)]
theorem pfc_s1 (n : Nat) (a : Int) (c : Int) (lb : Nat) (mb : Nat) (pb : Nat) (w : World) : Res.prune [0, 2, 5] [] (exec Try.prog (bodyOf Try.f14) 29 11 [⟨false, 0, []⟩, ⟨false, 0, []⟩] [.code []] ⟨[(0, .pointer (some ⟨pb, 0, none⟩))], [⟨pb, 53, true, [.slice (some ⟨lb, 0, none⟩) n n, .map (some mb), .bool false, .int .i64 a, .int .i64 c]⟩], [], w.heap.size⟩) = some ⟨[], dupR [], [.ops [1, 0, 0] [1, 2], .code [1, 0, 1], .code [1, 1]], ⟨[(0, .pointer (some ⟨pb, 0, none⟩)), (2, .int .i64 0), (5, .pointer (some ⟨pb, 0, none⟩))], [⟨pb, 53, true, [.slice (some ⟨lb, 0, none⟩) n n, .map (some mb), .bool false, .int .i64 a, .int .i64 c]⟩], [], w.heap.size⟩⟩ := by kernel_rfl
theorem pfc_c2 (pb : Nat) : callAt Try.prog (opsOf (getCode (bodyOf Try.f14) [1, 0, 0])) [(0, .pointer (some ⟨pb, 0, none⟩)), (2, .int .i64 0), (5, .pointer (some ⟨pb, 0, none⟩))] 1 = some (23, [.pointer (some ⟨pb, 0, none⟩)], some 6, []) := by kernel_rfl
theorem pfc_s3 (n : Nat) (a : Int) (c : Int) (lb : Nat) (mb : Nat) (pb : Nat) (z2 : Nat) : Res.prune [0, 2] [] (exec Try.prog (bodyOf Try.f14) 29 10 [⟨false, 0, []⟩, ⟨true, 0, []⟩, ⟨false, 0, []⟩] [.ops [1, 0, 0] [2], .code [1, 0, 1], .code [1, 1]] ⟨[(6, .bool (!decide (c = 1))), (0, .pointer (some ⟨pb, 0, none⟩)), (2, .int .i64 0), (5, .pointer (some ⟨pb, 0, none⟩))], [⟨pb, 53, true, (pfc_v1 n a c lb mb)⟩], [], z2⟩) = some ⟨[(!(!decide (c = 1))) = true], dupR [], [.code [1, 0, 1, 0, 1], .code [1, 1]], ⟨[(0, .pointer (some ⟨pb, 0, none⟩)), (2, .int .i64 70)], [⟨pb, 53, true, (pfc_v1 n a c lb mb)⟩], [], z2⟩⟩ := by kernel_rfl
theorem pfc_r4 (n : Nat) (a : Int) (c : Int) (lb : Nat) (mb : Nat) (pb : Nat) : resL Try.prog [] [⟨pb, 53, true, (pfc_v1 n a c lb mb)⟩] [(0, .pointer (some ⟨pb, 0, none⟩)), (2, .int .i64 70)] Try.f14.results.toList [] = some ([.int .i64 70], dupR []) := by kernel_rfl
set_option maxRecDepth 100000 in
set_option maxHeartbeats 4000000 in
theorem flush_cut (n lb mb pb : Nat) (a c : Int) (ha : 0 ≤ a ∧ a < 4611686018427387904) (hc : 0 ≤ c ∧ c < 4611686018427387904) (hc1 : decide (c = 1) = true)  (w : World) (hp : Blk w pb 53 [.slice (some ⟨lb, 0, none⟩) n n, .map (some mb), .bool false, .int .i64 a, .int .i64 c]) :
    Calls Try.prog 14 #[.pointer (some ⟨pb, 0, none⟩)] w (fun e w' => e = .returned (.int .i64 70) ∧ Blk w' pb 53 [.slice (some ⟨lb, 0, none⟩) n n, .map (some mb), .bool (decide (c = 1)), .int .i64 (a + 1), .int .i64 (dn c)] ∧ Kept (fun x => x = pb) w w') := by
  refine calls_of_holds (S := (fun x => x = pb)) (l := [.pointer (some ⟨pb, 0, none⟩)]) (n := 29) Try.func14 (body_of (by kernel_rfl)) rfl (by simp) (MemOk.start (bk := [⟨pb, 53, true, [.slice (some ⟨lb, 0, none⟩) n n, .map (some mb), .bool false, .int .i64 a, .int .i64 c]⟩]) (wn := []) (by simpa using hp) (by simp) (by simp) (by simp)) ?_
  refine holds_go _ _ (pfc_s1 n a c lb mb pb w) trivial ?_
  refine holds_callM (.bool (!decide (c = 1))) [⟨pb, 53, true, (pfc_v1 n a c lb mb)⟩] (pfc_c2 pb) trivial rfl (fun wx hm => ?_) fun z2 hz2 => ?_
  · refine (act_live n lb mb pb a c ha hc wx (hm.at_ 0 rfl)).mono fun e w' he => ?_
    obtain ⟨h7, h8, h9⟩ := he
    exact ⟨h7, hm.set1 0 rfl rfl h9 h8⟩
  replace hz2 : w.heap.size ≤ z2 := hz2
  refine holds_go _ _ (pfc_s3 n a c lb mb pb z2) ⟨(by rw [show (!decide (c = 1)) = false from (by rw [hc1]; rfl)]; rfl), trivial⟩ ?_
  refine holds_ret [] (by kernel_rfl) (pfc_r4 n a c lb mb pb) ?_
  intro wx hm
  exact ⟨rfl, hm.at_ 0 rfl, hm.kept⟩

def pfl_v1 (n : Nat) (a : Int) (c : Int) (lb : Nat) (mb : Nat) : List Value := [.slice (some ⟨lb, 0, none⟩) n n, .map (some mb), .bool (decide (c = 1)), .int .i64 (a + 1), .int .i64 (dn c)]
def pfl_Q (n : Nat) (a : Int) (c : Int) (lb : Nat) (mb : Nat) (pb : Nat) (last : List (List Int)) (cs : List CE) (ck : Nat) (w : World) : Exit → Act → World → Prop := bodyPost Try.prog Try.f14 (fun e w' => e = .returned (.int .i64 0) ∧ Blk w' pb 53 [.slice (some ⟨lb, 0, none⟩) n n, .map (some mb), .bool (decide (c = 1)), .int .i64 (a + 1), .int .i64 (dn c)] ∧ Blk w' lb 56 (secsV (ovl last cs)) ∧ MapAt w' mb [] ck ∧ Kept (fun x => x = pb ∨ x = lb ∨ x = mb) w w')
theorem pfl_s1 (n : Nat) (a : Int) (c : Int) (lb : Nat) (mb : Nat) (pb : Nat) (last : List (List Int)) (w : World) : Res.prune [0, 2, 5] [] (exec Try.prog (bodyOf Try.f14) 29 11 [⟨false, 0, []⟩, ⟨false, 0, []⟩] [.code []] ⟨[(0, .pointer (some ⟨pb, 0, none⟩))], [⟨pb, 53, true, [.slice (some ⟨lb, 0, none⟩) n n, .map (some mb), .bool false, .int .i64 a, .int .i64 c]⟩, ⟨lb, 56, true, (secsV last)⟩], [], w.heap.size⟩) = some ⟨[], dupR [], [.ops [1, 0, 0] [1, 2], .code [1, 0, 1], .code [1, 1]], ⟨[(0, .pointer (some ⟨pb, 0, none⟩)), (2, .int .i64 0), (5, .pointer (some ⟨pb, 0, none⟩))], [⟨pb, 53, true, [.slice (some ⟨lb, 0, none⟩) n n, .map (some mb), .bool false, .int .i64 a, .int .i64 c]⟩, ⟨lb, 56, true, (secsV last)⟩], [], w.heap.size⟩⟩ := by kernel_rfl
theorem pfl_c2 (pb : Nat) : callAt Try.prog (opsOf (getCode (bodyOf Try.f14) [1, 0, 0])) [(0, .pointer (some ⟨pb, 0, none⟩)), (2, .int .i64 0), (5, .pointer (some ⟨pb, 0, none⟩))] 1 = some (23, [.pointer (some ⟨pb, 0, none⟩)], some 6, []) := by kernel_rfl
theorem pfl_s3 (n : Nat) (a : Int) (c : Int) (lb : Nat) (mb : Nat) (pb : Nat) (last : List (List Int)) (WA : World) : Res.prune [0, 2, 11] [] (exec Try.prog (bodyOf Try.f14) 29 14 [⟨false, 0, []⟩, ⟨false, 0, []⟩, ⟨false, 0, []⟩, ⟨false, 0, []⟩, ⟨false, 0, []⟩, ⟨false, 0, [⟨false, 0, 1, 1⟩]⟩] [.ops [1, 0, 0] [2], .code [1, 0, 1], .code [1, 1]] ⟨[(6, .bool (!decide (c = 1))), (0, .pointer (some ⟨pb, 0, none⟩)), (2, .int .i64 0), (5, .pointer (some ⟨pb, 0, none⟩))], [⟨pb, 53, true, (pfl_v1 n a c lb mb)⟩, ⟨lb, 56, true, (secsV last)⟩], [], WA.heap.size⟩) = some ⟨[(!(!decide (c = 1))) = false], dupR [(pb, 1, 1)], [.ops [1, 1, 0, 0] [4], .code [1, 1, 0, 1], .code [1, 1, 1]], ⟨[(0, .pointer (some ⟨pb, 0, none⟩)), (2, .int .i64 0), (11, .map (some mb))], [⟨pb, 53, true, (pfl_v1 n a c lb mb)⟩, ⟨lb, 56, true, (secsV last)⟩], [], WA.heap.size⟩⟩ := by kernel_rfl
theorem pfl_s5 (n : Nat) (a : Int) (c : Int) (lb : Nat) (mb : Nat) (pb : Nat) (last : List (List Int)) (W : World) (WA : World) : Res.prune [0, 2, 12] [] (exec Try.prog (bodyOf Try.f14) 29 5 [] [.ops [1, 1, 0, 0] [], .code [1, 1, 0, 1], .code [1, 1, 1]] ⟨[(12, .pointer (some ⟨WA.heap.size, 0, none⟩)), (0, .pointer (some ⟨pb, 0, none⟩)), (2, .int .i64 0), (11, .map (some mb))], [⟨pb, 53, true, (pfl_v1 n a c lb mb)⟩, ⟨lb, 56, true, (secsV last)⟩], [], W.heap.size⟩) = some ⟨[], dupR [], [.code [1, 1, 0, 1, 0], .blk 0, .code [1, 1, 1]], ⟨[(0, .pointer (some ⟨pb, 0, none⟩)), (2, .int .i64 0), (12, .pointer (some ⟨WA.heap.size, 0, none⟩))], [⟨pb, 53, true, (pfl_v1 n a c lb mb)⟩, ⟨lb, 56, true, (secsV last)⟩], [], W.heap.size⟩⟩ := by kernel_rfl
def FlushI (n : Nat) (a : Int) (c : Int) (lb : Nat) (mb : Nat) (pb : Nat) (last : List (List Int)) (cs : List CE) (ck : Nat) (WA : World)  (m : Nat) (st : St) (W1 : World) : Prop :=
  ∃ (seen : Array Nat) (c0 : Nat) (last1 : List (List Int)) (z : Nat), m = (leftC cs seen).length ∧ ck ≤ c0 ∧ last1 = ovl last (seenC cs seen) ∧ ItAt W1 WA.heap.size mb ck seen c0 ∧ MapAt W1 mb cs ck ∧ st = ⟨[(0, .pointer (some ⟨pb, 0, none⟩)), (2, .int .i64 0), (12, .pointer (some ⟨WA.heap.size, 0, none⟩))], [⟨pb, 53, true, (pfl_v1 n a c lb mb)⟩, ⟨lb, 56, true, (secsV last1)⟩], [], z⟩
theorem pfl_s6 (n : Nat) (a : Int) (c : Int) (lb : Nat) (mb : Nat) (pb : Nat) (last1 : List (List Int)) (W1 : World) (J : Act → World → Prop) (WA : World) : Res.prune [0, 2, 12] [] (exec Try.prog (bodyOf Try.f14) 29 5 [] [.code [1, 1, 0, 1, 0, 0], .inv J, .blk 0, .code [1, 1, 1]] ⟨[(0, .pointer (some ⟨pb, 0, none⟩)), (2, .int .i64 0), (12, .pointer (some ⟨WA.heap.size, 0, none⟩))], [⟨pb, 53, true, (pfl_v1 n a c lb mb)⟩, ⟨lb, 56, true, (secsV last1)⟩], [], W1.heap.size⟩) = some ⟨[], dupR [], [.ops [1, 1, 0, 1, 0, 0, 0] [0, 1], .code [1, 1, 0, 1, 0, 0, 1], .inv J, .blk 0, .code [1, 1, 1]], ⟨[(0, .pointer (some ⟨pb, 0, none⟩)), (2, .int .i64 0), (12, .pointer (some ⟨WA.heap.size, 0, none⟩))], [⟨pb, 53, true, (pfl_v1 n a c lb mb)⟩, ⟨lb, 56, true, (secsV last1)⟩], [], W1.heap.size⟩⟩ := by kernel_rfl
theorem pfl_s8 (n : Nat) (a : Int) (c : Int) (lb : Nat) (mb : Nat) (pb : Nat) (last1 : List (List Int)) (W2 : World) (J : Act → World → Prop) (WA : World) : Res.prune [2, 28] [] (exec Try.prog (bodyOf Try.f14) 29 14 [⟨false, 0, []⟩, ⟨false, 0, []⟩, ⟨false, 0, []⟩, ⟨false, 0, []⟩, ⟨false, 0, []⟩, ⟨false, 0, [⟨false, 0, 1, 1⟩]⟩] [.ops [1, 1, 0, 1, 0, 0, 0] [1], .code [1, 1, 0, 1, 0, 0, 1], .inv J, .blk 0, .code [1, 1, 1]] ⟨[(13, .tuple #[.bool false]), (0, .pointer (some ⟨pb, 0, none⟩)), (2, .int .i64 0), (12, .pointer (some ⟨WA.heap.size, 0, none⟩))], [⟨pb, 53, true, (pfl_v1 n a c lb mb)⟩, ⟨lb, 56, true, (secsV last1)⟩], [], W2.heap.size⟩) = some ⟨[false = false], dupR [(pb, 1, 1)], [.ops [1, 1, 1, 0] [4], .code [1, 1, 1, 1]], ⟨[(2, .int .i64 0), (28, .map (some mb))], [⟨pb, 53, true, (pfl_v1 n a c lb mb)⟩, ⟨lb, 56, true, (secsV last1)⟩], [], W2.heap.size⟩⟩ := by kernel_rfl
theorem pfl_s10 (n : Nat) (a : Int) (c : Int) (lb : Nat) (mb : Nat) (pb : Nat) (last1 : List (List Int)) (W3 : World) : Res.prune [2] [] (exec Try.prog (bodyOf Try.f14) 29 8 [⟨false, 0, []⟩] [.ops [1, 1, 1, 0] [], .code [1, 1, 1, 1]] ⟨[(2, .int .i64 0), (28, .map (some mb))], [⟨pb, 53, true, (pfl_v1 n a c lb mb)⟩, ⟨lb, 56, true, (secsV last1)⟩], [], W3.heap.size⟩) = some ⟨[], dupR [], [.code [1, 1, 1, 1, 1]], ⟨[(2, .int .i64 0)], [⟨pb, 53, true, (pfl_v1 n a c lb mb)⟩, ⟨lb, 56, true, (secsV last1)⟩], [], W3.heap.size⟩⟩ := by kernel_rfl
theorem pfl_r11 (n : Nat) (a : Int) (c : Int) (lb : Nat) (mb : Nat) (pb : Nat) (last1 : List (List Int)) : resL Try.prog [] [⟨pb, 53, true, (pfl_v1 n a c lb mb)⟩, ⟨lb, 56, true, (secsV last1)⟩] [(2, .int .i64 0)] Try.f14.results.toList [] = some ([.int .i64 0], dupR []) := by kernel_rfl
theorem pfl_s12 (n : Nat) (a : Int) (c : Int) (lb : Nat) (mb : Nat) (pb : Nat) (last1 : List (List Int)) (W2 : World) (J : Act → World → Prop) (en : CE) (WA : World) : Res.prune [0, 2, 12] [] (exec Try.prog (bodyOf Try.f14) 29 11 [⟨false, 0, []⟩, ⟨true, 0, []⟩] [.ops [1, 1, 0, 1, 0, 0, 0] [1], .code [1, 1, 0, 1, 0, 0, 1], .inv J, .blk 0, .code [1, 1, 1]] ⟨[(13, .tuple #[.bool true, .int .i64 en.k, secV en.L]), (0, .pointer (some ⟨pb, 0, none⟩)), (2, .int .i64 0), (12, .pointer (some ⟨WA.heap.size, 0, none⟩))], [⟨pb, 53, true, (pfl_v1 n a c lb mb)⟩, ⟨lb, 56, true, (secsV last1)⟩], [], W2.heap.size⟩) = some ⟨[true = true], dupR [], [.ops [1, 1, 0, 1, 0, 0, 1, 1, 0, 0] [0, 1, 2, 3, 4, 5], .code [1, 1, 0, 1, 0, 0, 1, 1, 0, 1], .blk 1, .inv J, .blk 0, .code [1, 1, 1]], ⟨[(0, .pointer (some ⟨pb, 0, none⟩)), (2, .int .i64 0), (12, .pointer (some ⟨WA.heap.size, 0, none⟩))], [⟨pb, 53, true, (pfl_v1 n a c lb mb)⟩, ⟨lb, 56, true, (secsV last1)⟩], [], W2.heap.size⟩⟩ := by kernel_rfl
theorem pfl_s14 (n : Nat) (a : Int) (c : Int) (lb : Nat) (mb : Nat) (pb : Nat) (last1 : List (List Int)) (W2 : World) (J : Act → World → Prop) (en : CE) (WA : World) : Res.prune [0, 2, 3, 4, 12, 17] [] (exec Try.prog (bodyOf Try.f14) 29 7 [⟨false, 0, []⟩, ⟨false, 0, []⟩, ⟨false, 0, []⟩, ⟨false, 0, []⟩] [.ops [1, 1, 0, 1, 0, 0, 1, 1, 0, 0] [1, 2, 3, 4, 5], .code [1, 1, 0, 1, 0, 0, 1, 1, 0, 1], .blk 1, .inv J, .blk 0, .code [1, 1, 1]] ⟨[(15, .tuple #[.int .i64 en.k, secV en.L]), (0, .pointer (some ⟨pb, 0, none⟩)), (2, .int .i64 0), (12, .pointer (some ⟨WA.heap.size, 0, none⟩))], [⟨pb, 53, true, (pfl_v1 n a c lb mb)⟩, ⟨lb, 56, true, (secsV last1)⟩], [], W2.heap.size⟩) = some ⟨[], dupR [], [.ops [1, 1, 0, 1, 0, 0, 1, 1, 0, 0] [5], .code [1, 1, 0, 1, 0, 0, 1, 1, 0, 1], .blk 1, .inv J, .blk 0, .code [1, 1, 1]], ⟨[(0, .pointer (some ⟨pb, 0, none⟩)), (2, .int .i64 0), (3, .int .i64 en.k), (4, .pointer (some ⟨W2.heap.size, 0, none⟩)), (12, .pointer (some ⟨WA.heap.size, 0, none⟩)), (17, secV en.L)], [⟨pb, 53, true, (pfl_v1 n a c lb mb)⟩, ⟨lb, 56, true, (secsV last1)⟩, ⟨W2.heap.size, 56, true, [.int .u8 0, .int .u8 0, .int .u8 0, .int .u8 0, .int .u8 0, .int .u8 0, .int .u8 0, .int .u8 0, .int .u8 0, .int .u8 0, .int .u8 0, .int .u8 0, .int .u8 0, .int .u8 0, .int .u8 0, .int .u8 0, .int .u8 0, .int .u8 0, .int .u8 0, .int .u8 0, .int .u8 0, .int .u8 0, .int .u8 0, .int .u8 0, .int .u8 0, .int .u8 0, .int .u8 0, .int .u8 0, .int .u8 0, .int .u8 0, .int .u8 0, .int .u8 0, .int .u8 0, .int .u8 0, .int .u8 0, .int .u8 0, .int .u8 0, .int .u8 0, .int .u8 0, .int .u8 0, .int .u8 0, .int .u8 0, .int .u8 0, .int .u8 0, .int .u8 0, .int .u8 0, .int .u8 0, .int .u8 0, .int .u8 0, .int .u8 0, .int .u8 0, .int .u8 0, .int .u8 0, .int .u8 0, .int .u8 0, .int .u8 0, .int .u8 0, .int .u8 0, .int .u8 0, .int .u8 0, .int .u8 0, .int .u8 0, .int .u8 0, .int .u8 0]⟩], [], W2.heap.size + 1⟩⟩ := by kernel_rfl
theorem pfl_s16 (n : Nat) (a : Int) (c : Int) (lb : Nat) (mb : Nat) (pb : Nat) (last1 : List (List Int)) (W2 : World) (J : Act → World → Prop) (en : CE) (WA : World) (z15 : Nat) : Res.prune [0, 2, 3, 4, 12] [] (exec Try.prog (bodyOf Try.f14) 29 4 [] [.ops [1, 1, 0, 1, 0, 0, 1, 1, 0, 0] [], .code [1, 1, 0, 1, 0, 0, 1, 1, 0, 1], .blk 1, .inv J, .blk 0, .code [1, 1, 1]] ⟨[(0, .pointer (some ⟨pb, 0, none⟩)), (2, .int .i64 0), (3, .int .i64 en.k), (4, .pointer (some ⟨W2.heap.size, 0, none⟩)), (12, .pointer (some ⟨WA.heap.size, 0, none⟩)), (17, secV en.L)], [⟨pb, 53, true, (pfl_v1 n a c lb mb)⟩, ⟨lb, 56, true, (secsV last1)⟩, ⟨W2.heap.size, 56, true, (intsV en.L)⟩], [], z15⟩) = some ⟨[], dupR [], [.code [1, 1, 0, 1, 0, 0, 1, 1, 0, 1], .blk 1, .inv J, .blk 0, .code [1, 1, 1]], ⟨[(0, .pointer (some ⟨pb, 0, none⟩)), (2, .int .i64 0), (3, .int .i64 en.k), (4, .pointer (some ⟨W2.heap.size, 0, none⟩)), (12, .pointer (some ⟨WA.heap.size, 0, none⟩))], [⟨pb, 53, true, (pfl_v1 n a c lb mb)⟩, ⟨lb, 56, true, (secsV last1)⟩, ⟨W2.heap.size, 56, true, (intsV en.L)⟩], [], z15⟩⟩ := by kernel_rfl
def pfl_g17s (pb : Nat) (W2 : World) (en : CE) (WA : World) : List (Nat × Value) := [(0, .pointer (some ⟨pb, 0, none⟩)), (2, .int .i64 0), (3, .int .i64 en.k), (4, .pointer (some ⟨W2.heap.size, 0, none⟩)), (12, .pointer (some ⟨WA.heap.size, 0, none⟩))]
def pfl_g17v (n : Nat) (lb : Nat) (pb : Nat) (en : CE) : List (Option Value) := [some (.pointer (some ⟨pb, 0, none⟩)), some (.pointer (some ⟨pb, 0, none⟩)), some (.pointer (some ⟨pb, 0, none⟩)), some (.slice (some ⟨lb, 0, none⟩) n n), some (.int .i64 en.k), some (secV en.L), some (.pointer (some ⟨lb, 0 + (Int.toNat en.k) * 64, none⟩)), some (.tuple #[])]
def pfl_g17m (n : Nat) (a : Int) (c : Int) (lb : Nat) (mb : Nat) (pb : Nat) (last1 : List (List Int)) (W2 : World) (en : CE) : List (List Bk) := [[⟨pb, 53, true, (pfl_v1 n a c lb mb)⟩, ⟨lb, 56, true, (secsV last1)⟩, ⟨W2.heap.size, 56, true, (intsV en.L)⟩], [⟨pb, 53, true, (pfl_v1 n a c lb mb)⟩, ⟨lb, 56, true, (secsV (List.set last1 (Int.toNat en.k) en.L))⟩, ⟨W2.heap.size, 56, true, (intsV en.L)⟩]]
def pfl_g17t : List (Option Nat) := [none, none, none, none, none, none, none, some 0]
theorem pfl_g17_0 (n : Nat) (a : Int) (c : Int) (lb : Nat) (mb : Nat) (pb : Nat) (last1 : List (List Int)) (W2 : World) (en : CE) (WA : World) : ∀ sz, (List.range (1 + 1)).map (regEnt Try.prog (opsOf (getCode (bodyOf Try.f14) [1, 1, 0, 1, 0, 0, 1, 1, 0, 1])) (slI (opsOf (getCode (bodyOf Try.f14) [1, 1, 0, 1, 0, 0, 1, 1, 0, 1])) (pfl_g17s pb W2 en WA) 0) (pfl_g17v n lb pb en) (pfl_g17m n a c lb mb pb last1 W2 en) [] sz 0 ⟨false, 0, []⟩) = (List.range (1 + 1)).map (regExp (pfl_g17v n lb pb en) (pfl_g17m n a c lb mb pb last1 W2 en) sz 0 [] []) := fun sz => by kernel_rfl
theorem pfl_g17_1 (n : Nat) (a : Int) (c : Int) (lb : Nat) (mb : Nat) (pb : Nat) (last1 : List (List Int)) (W2 : World) (en : CE) (WA : World) : ∀ sz, (List.range (1 + 1)).map (regEnt Try.prog (opsOf (getCode (bodyOf Try.f14) [1, 1, 0, 1, 0, 0, 1, 1, 0, 1])) (slI (opsOf (getCode (bodyOf Try.f14) [1, 1, 0, 1, 0, 0, 1, 1, 0, 1])) (pfl_g17s pb W2 en WA) 1) (pfl_g17v n lb pb en) (pfl_g17m n a c lb mb pb last1 W2 en) [] sz 1 ⟨false, 0, []⟩) = (List.range (1 + 1)).map (regExp (pfl_g17v n lb pb en) (pfl_g17m n a c lb mb pb last1 W2 en) sz 1 [] []) := fun sz => by kernel_rfl
theorem pfl_g17_2 (n : Nat) (a : Int) (c : Int) (lb : Nat) (mb : Nat) (pb : Nat) (last1 : List (List Int)) (W2 : World) (en : CE) (WA : World) : ∀ sz, (List.range (1 + 1)).map (regEnt Try.prog (opsOf (getCode (bodyOf Try.f14) [1, 1, 0, 1, 0, 0, 1, 1, 0, 1])) (slI (opsOf (getCode (bodyOf Try.f14) [1, 1, 0, 1, 0, 0, 1, 1, 0, 1])) (pfl_g17s pb W2 en WA) 2) (pfl_g17v n lb pb en) (pfl_g17m n a c lb mb pb last1 W2 en) [] sz 2 ⟨false, 0, []⟩) = (List.range (1 + 1)).map (regExp (pfl_g17v n lb pb en) (pfl_g17m n a c lb mb pb last1 W2 en) sz 2 [] []) := fun sz => by kernel_rfl
theorem pfl_g17_3 (n : Nat) (a : Int) (c : Int) (lb : Nat) (mb : Nat) (pb : Nat) (last1 : List (List Int)) (W2 : World) (en : CE) (WA : World) : ∀ sz, (List.range (1 + 1)).map (regEnt Try.prog (opsOf (getCode (bodyOf Try.f14) [1, 1, 0, 1, 0, 0, 1, 1, 0, 1])) (slI (opsOf (getCode (bodyOf Try.f14) [1, 1, 0, 1, 0, 0, 1, 1, 0, 1])) (pfl_g17s pb W2 en WA) 3) (pfl_g17v n lb pb en) (pfl_g17m n a c lb mb pb last1 W2 en) [] sz 3 ⟨false, 0, [⟨false, 0, 0, 1⟩]⟩) = (List.range (1 + 1)).map (regExp (pfl_g17v n lb pb en) (pfl_g17m n a c lb mb pb last1 W2 en) sz 3 [] [(pb, 0, 1)]) := fun sz => by kernel_rfl
theorem pfl_g17_4 (n : Nat) (a : Int) (c : Int) (lb : Nat) (mb : Nat) (pb : Nat) (last1 : List (List Int)) (W2 : World) (en : CE) (WA : World) : ∀ sz, (List.range (1 + 1)).map (regEnt Try.prog (opsOf (getCode (bodyOf Try.f14) [1, 1, 0, 1, 0, 0, 1, 1, 0, 1])) (slI (opsOf (getCode (bodyOf Try.f14) [1, 1, 0, 1, 0, 0, 1, 1, 0, 1])) (pfl_g17s pb W2 en WA) 4) (pfl_g17v n lb pb en) (pfl_g17m n a c lb mb pb last1 W2 en) [] sz 4 ⟨false, 0, []⟩) = (List.range (1 + 1)).map (regExp (pfl_g17v n lb pb en) (pfl_g17m n a c lb mb pb last1 W2 en) sz 4 [] []) := fun sz => by kernel_rfl
theorem pfl_g17_6 (n : Nat) (a : Int) (c : Int) (lb : Nat) (mb : Nat) (pb : Nat) (last1 : List (List Int)) (W2 : World) (en : CE) (WA : World) : ∀ sz, (List.range (1 + 1)).map (regEnt Try.prog (opsOf (getCode (bodyOf Try.f14) [1, 1, 0, 1, 0, 0, 1, 1, 0, 1])) (slI (opsOf (getCode (bodyOf Try.f14) [1, 1, 0, 1, 0, 0, 1, 1, 0, 1])) (pfl_g17s pb W2 en WA) 6) (pfl_g17v n lb pb en) (pfl_g17m n a c lb mb pb last1 W2 en) [] sz 6 ⟨false, 1, []⟩) = (List.range (1 + 1)).map (regExp (pfl_g17v n lb pb en) (pfl_g17m n a c lb mb pb last1 W2 en) sz 6 [(0 : Int) ≤ en.k ∧ en.k < ((n : Nat) : Int)] []) := fun sz => by kernel_rfl
theorem pfl_s18 (n : Nat) (a : Int) (c : Int) (lb : Nat) (mb : Nat) (pb : Nat) (last1 : List (List Int)) (W2 : World) (J : Act → World → Prop) (en : CE) (WA : World) (z17 : Nat) : Res.prune [0, 2, 12] [true, true, false] (exec Try.prog (bodyOf Try.f14) 29 4 [] [.blk 1, .inv J, .blk 0, .code [1, 1, 1]] ⟨[(0, .pointer (some ⟨pb, 0, none⟩)), (2, .int .i64 0), (12, .pointer (some ⟨WA.heap.size, 0, none⟩))], [⟨pb, 53, true, (pfl_v1 n a c lb mb)⟩, ⟨lb, 56, true, (secsV (List.set last1 (Int.toNat en.k) en.L))⟩, ⟨W2.heap.size, 56, true, (intsV en.L)⟩], [], z17⟩) = some ⟨[], dupR [], [.inv J, .blk 0, .code [1, 1, 1]], ⟨[(0, .pointer (some ⟨pb, 0, none⟩)), (2, .int .i64 0), (12, .pointer (some ⟨WA.heap.size, 0, none⟩))], [⟨pb, 53, true, (pfl_v1 n a c lb mb)⟩, ⟨lb, 56, true, (secsV (List.set last1 (Int.toNat en.k) en.L))⟩], [], z17⟩⟩ := by kernel_rfl
set_option maxRecDepth 100000 in
set_option maxHeartbeats 4000000 in
theorem flush_live (n lb mb pb : Nat) (a c : Int) (ha : 0 ≤ a ∧ a < 4611686018427387904) (hc : 0 ≤ c ∧ c < 4611686018427387904) (hc1 : decide (c = 1) = false) (cs : List CE) (ck : Nat) (last : List (List Int)) (hne : ¬pb = lb) (hne1 : pb ≠ mb) (hne3 : lb ≠ mb) (hlen : last.length = n) (hsec : ∀ L ∈ last, SecOk L) (hcs2 : ∀ c ∈ cs, SecOk c.L) (hck : ∀ c ∈ cs, 0 ≤ c.k ∧ c.k < (n : Int)) (hborn : ∀ c ∈ cs, c.born < ck) (hnk : (cs.map (·.k)).Nodup) (hnb : (cs.map (·.born)).Nodup) (w : World) (hp : Blk w pb 53 [.slice (some ⟨lb, 0, none⟩) n n, .map (some mb), .bool false, .int .i64 a, .int .i64 c]) (hl : Blk w lb 56 (secsV last)) (hmp : MapAt w mb cs ck) :
    Calls Try.prog 14 #[.pointer (some ⟨pb, 0, none⟩)] w (fun e w' => e = .returned (.int .i64 0) ∧ Blk w' pb 53 [.slice (some ⟨lb, 0, none⟩) n n, .map (some mb), .bool (decide (c = 1)), .int .i64 (a + 1), .int .i64 (dn c)] ∧ Blk w' lb 56 (secsV (ovl last cs)) ∧ MapAt w' mb [] ck ∧ Kept (fun x => x = pb ∨ x = lb ∨ x = mb) w w') := by
  have hpl := hp.lt
  have hll := hl.lt
  have hml := hmp.lt
  have hd : ¬ (mb = pb) := fun e => hne1 e.symm
  refine calls_of_holds (S := (fun x => x = pb ∨ x = lb)) (l := [.pointer (some ⟨pb, 0, none⟩)]) (n := 29) Try.func14 (body_of (by kernel_rfl)) rfl (by simp) (MemOk.start (bk := [⟨pb, 53, true, [.slice (some ⟨lb, 0, none⟩) n n, .map (some mb), .bool false, .int .i64 a, .int .i64 c]⟩, ⟨lb, 56, true, (secsV last)⟩]) (wn := []) (by simpa using ⟨hp, hl⟩) (by simp) (by simp; exact hne) (by simp)) ?_
  refine holds_go _ _ (pfl_s1 n a c lb mb pb last w) trivial ?_
  refine holds_callW (w := w) (S' := (fun x => x = pb ∨ x = lb ∨ x = mb)) (Y := Nat) (fun _ => .bool (!decide (c = 1))) (fun _ => [⟨pb, 53, true, (pfl_v1 n a c lb mb)⟩, ⟨lb, 56, true, (secsV last)⟩]) (fun _ W_ => MapAt W_ mb cs ck) (fun _ => [(6, .bool (!decide (c = 1))), (0, .pointer (some ⟨pb, 0, none⟩)), (2, .int .i64 0), (5, .pointer (some ⟨pb, 0, none⟩))]) (pfl_c2 pb) trivial (fun _ => rfl) (fun wx hm => ?_) (fun _ WA hMA hmA => ?_)
  · refine (act_live n lb mb pb a c ha hc wx (hm.at_ 0 rfl)).mono fun e w' he => ?_
    obtain ⟨h7, h8, h9⟩ := he
    have h10 := (hm.set1 0 rfl rfl h9 h8).2
    exact ⟨0, h7, (hmp.kept hm.kept (fun e => e.elim hd (fun e => hne3 e.symm))).kept h9 hd, ⟨h10.size, h10.blk, fun b hb hr => (h10.own b hb hr).imp_left (fun h => h.elim .inl (fun h => .inr (.inl h))), h10.nd, h10.kept.mono (fun _ _ h => h.elim .inl (fun h => .inr (.inl h))), fun _ h => by cases h⟩⟩
  have hgA := hMA.lt
  refine holds_go _ _ (pfl_s3 n a c lb mb pb last WA) ⟨(by rw [show (!decide (c = 1)) = true from (by rw [hc1]; rfl)]; rfl), trivial⟩ ?_
  have hgw : w.heap.size ≤ WA.heap.size := hmA.kept.size
  have hnMA : ¬ Turned [⟨pb, 53, true, (pfl_v1 n a c lb mb)⟩, ⟨lb, 56, true, (secsV last)⟩] mb := by
    rintro ⟨b, hb, hr, he⟩
    simp at hb
    rcases hb with rfl | rfl <;> simp at he hr <;> omega
  refine holds_opW (w := w) (S' := (fun x => x = pb ∨ x = lb ∨ x = mb)) (dst := (some 12)) (x := Instr.range 51 (.map (some mb))) (fun _ => .pointer (some ⟨WA.heap.size, 0, none⟩)) (fun _ W => ItAt W WA.heap.size mb ck #[] ck ∧ MapAt W mb cs ck) (fun _ => [(12, .pointer (some ⟨WA.heap.size, 0, none⟩)), (0, .pointer (some ⟨pb, 0, none⟩)), (2, .int .i64 0), (11, .map (some mb))]) (by kernel_rfl) (by kernel_rfl) (fun _ => rfl) (fun wx hm => ?_) (fun _ W hX hmW => ?_)
  · have hmx : MapAt wx mb cs ck := hMA.kept hm.kept hnMA
    obtain ⟨w', h1, h2, h3⟩ := run_rangeC (P := Try.prog) wx 51 3 56 mb cs ck (by kernel_rfl) hmx
    rw [hm.size] at h1 h2
    exact ⟨0, w', h1, ⟨h2, hmx.kept h3 id⟩, ((hmA.back hm).same h3).2⟩
  obtain ⟨hI0, hM0⟩ := hX
  refine holds_go _ _ (pfl_s5 n a c lb mb pb last W WA) trivial ?_
  have hnM : ¬ Turned [⟨pb, 53, true, (pfl_v1 n a c lb mb)⟩, ⟨lb, 56, true, (secsV last)⟩] mb := by
    rintro ⟨b, hb, hr, he⟩
    simp at hb
    rcases hb with rfl | rfl <;> simp at he hr <;> omega
  have hgM : WA.heap.size ≠ mb := by omega
  have hnG : ¬ Turned [⟨pb, 53, true, (pfl_v1 n a c lb mb)⟩, ⟨lb, 56, true, (secsV last)⟩] WA.heap.size := by
    rintro ⟨b, hb, hr, he⟩
    simp at hb
    rcases hb with rfl | rfl <;> simp at he hr <;> omega
  refine holds_loopW (w := w) (S' := (fun x => x = pb ∨ x = lb ∨ x = mb)) (FlushI n a c lb mb pb last cs ck WA) (leftC cs #[]).length (by kernel_rfl) (fun W1 hm => ⟨⟨#[], ck, last, _, rfl, Nat.le_refl _, by rw [seen_none, ovl_nil], hI0.kept hm.kept hnG, hM0.kept hm.kept hnM, rfl⟩, hmW.back hm⟩) ?_
  rintro m _ W1 ⟨seen, c0, last1, z, hmi, hcc, hl1, hI1, hM1, rfl⟩ hm1 J hJ
  replace hnM : ¬ Turned [⟨pb, 53, true, (pfl_v1 n a c lb mb)⟩, ⟨lb, 56, true, (secsV last1)⟩] mb := by
    rintro ⟨b, hb, hr, he⟩
    simp at hb
    rcases hb with rfl | rfl <;> simp at he hr <;> omega
  replace hnG : ¬ Turned [⟨pb, 53, true, (pfl_v1 n a c lb mb)⟩, ⟨lb, 56, true, (secsV last1)⟩] WA.heap.size := by
    rintro ⟨b, hb, hr, he⟩
    simp at hb
    rcases hb with rfl | rfl <;> simp at he hr <;> omega
  have hs1 : ∀ L ∈ last1, L.length = 64 := fun L hL => (ovl_sec (cs := seenC cs seen) hsec (fun c hc => hcs2 c (List.mem_filter.1 hc).1) L (hl1 ▸ hL)).1
  have hn1 : last1.length = n := by rw [hl1, length_ovl, hlen]
  refine holds_go _ _ (pfl_s6 n a c lb mb pb last1 W1 J WA) trivial ?_
  refine holds_opY (w := w) (S' := (fun x => x = pb ∨ x = lb ∨ x = mb)) (dst := (some 13)) (x := Instr.next (.pointer (some ⟨WA.heap.size, 0, none⟩)) false 0) nextV (fun y W2 => MapAt W2 mb cs ck ∧ ((y = none ∧ leftC cs seen = [] ∧ ItAt W2 WA.heap.size mb ck seen c0) ∨ (∃ c, y = some c ∧ c ∈ leftC cs seen ∧ ItAt W2 WA.heap.size mb ck (seen.push c.born) ck))) (fun y => (13, nextV y) :: [(0, .pointer (some ⟨pb, 0, none⟩)), (2, .int .i64 0), (12, .pointer (some ⟨WA.heap.size, 0, none⟩))]) (by kernel_rfl) (by kernel_rfl) (fun _ => rfl) (fun wx hm => ?_) (fun y W2 hX hm2 => ?_)
  · obtain ⟨y, w', h1, h2, h3, h4⟩ := run_nextC (P := Try.prog) wx 0 WA.heap.size mb ck c0 seen cs (hI1.kept hm.kept hnG) (hM1.kept hm.kept hnM) hborn hcc
    refine ⟨y, w', h1, ⟨(hM1.kept hm.kept hnM).kept h2 (fun e => hgM e.symm), h4⟩, ?_⟩
    have h5 := (hm1.back hm).far h2 (by simp; omega) hgw h3
    have h6 := h5.size
    rw [← h6] at h5
    exact h5
  obtain ⟨hM2, hX⟩ := hX
  have hg2 := hM2.lt
  rcases hX with ⟨rfl, hle, hI2⟩ | ⟨en, rfl, hen, hI2⟩
  · skip
    have hfin : last1 = ovl last cs := by rw [hl1, seen_all hle]
    refine holds_go _ _ (pfl_s8 n a c lb mb pb last1 W2 J WA) ⟨rfl, trivial⟩ ?_
    refine holds_opW (w := w) (S' := (fun x => x = pb ∨ x = lb ∨ x = mb)) (dst := none) (x := Builtin.clear_ #[51] 0 #[.map (some mb)]) (fun _ => .tuple #[]) (fun _ W3 => MapAt W3 mb [] ck) (fun _ => [(2, .int .i64 0), (28, .map (some mb))]) (by kernel_rfl) (by kernel_rfl) (fun _ => rfl) (fun wx hm => ?_) (fun _ W3 hX3 hm3 => ?_)
    · obtain ⟨w', h1, h2, h3, h4⟩ := run_clearC (P := Try.prog) wx 51 3 56 0 mb cs ck (by kernel_rfl) (hM2.kept hm.kept hnM)
      refine ⟨0, w', h1, h2, ?_⟩
      have h5 := hm2.back hm
      exact (h5.upd (bk' := [⟨pb, 53, true, (pfl_v1 n a c lb mb)⟩, ⟨lb, 56, true, (secsV last1)⟩]) h3 (fun x _ e => .inr (.inr e)) ⟨(h5.at_ 0 rfl).kept h3 (fun e => hne1 e), (h5.at_ 1 rfl).kept h3 (fun e => hne3 e), trivial⟩ h5.own h5.nd).2
    refine holds_go _ _ (pfl_s10 n a c lb mb pb last1 W3) trivial ?_
    refine holds_ret [] (by kernel_rfl) (pfl_r11 n a c lb mb pb last1) ?_
    intro wx hm
    refine ⟨rfl, hm.at_ 0 rfl, by rw [← hfin]; exact hm.at_ 1 rfl, hX3.kept hm.kept hnM, (hm3.back hm).kept⟩
  · skip
    have hmem := (List.mem_filter.1 hen).1
    have hke := hck en hmem
    have hLe := hcs2 en hmem
    refine holds_go _ _ (pfl_s12 n a c lb mb pb last1 W2 J en WA) ⟨rfl, trivial⟩ ?_
    refine holds_opR (dst := (some 15)) (x := Instr.entry (.pointer (some ⟨WA.heap.size, 0, none⟩))) (.tuple #[.int .i64 en.k, secV en.L]) (by kernel_rfl) (by kernel_rfl) rfl (fun wx hm => ?_) ?_
    · exact run_entryC (P := Try.prog) wx WA.heap.size mb ck seen cs en (hI2.kept hm.kept hnG) (hM2.kept hm.kept hnM) hmem hnb
    refine holds_go _ _ (pfl_s14 n a c lb mb pb last1 W2 J en WA) trivial ?_
    refine holds_opS (x := Instr.storeAt 56 (.pointer (some ⟨W2.heap.size, 0, none⟩)) (secV en.L)) [⟨pb, 53, true, (pfl_v1 n a c lb mb)⟩, ⟨lb, 56, true, (secsV last1)⟩, ⟨W2.heap.size, 56, true, (intsV en.L)⟩] (by kernel_rfl) (by kernel_rfl) rfl (fun wx hm => ?_) (fun z15 hz15 => ?_)
    · exact store_sec hm (i := 2) rfl rfl (by kernel_rfl) hLe.1 (by kernel_rfl)
    replace hz15 : W2.heap.size + 1 ≤ z15 := hz15
    refine holds_go _ _ (pfl_s16 n a c lb mb pb last1 W2 J en WA z15) trivial ?_
    have pfl_g17_c0 : CertG (wpOp Try.prog (opsOf (getCode (bodyOf Try.f14) [1, 1, 0, 1, 0, 0, 1, 1, 0, 1])) (sem Try.prog (bodyOf Try.f14) (pfl_Q n a c lb mb pb last cs ck w) [.blk 1, .inv J, .blk 0, .code [1, 1, 1]])) [] 29 (opsOf (getCode (bodyOf Try.f14) [1, 1, 0, 1, 0, 0, 1, 1, 0, 1])) (slI (opsOf (getCode (bodyOf Try.f14) [1, 1, 0, 1, 0, 0, 1, 1, 0, 1])) (pfl_g17s pb W2 en WA) 0) (pfl_g17t) 1 (MG W2 (Turned [⟨pb, 53, true, (pfl_v1 n a c lb mb)⟩, ⟨lb, 56, true, (secsV last1)⟩]) (pfl_g17m n a c lb mb pb last1 W2 en) [] z15) (Turned [⟨pb, 53, true, (pfl_v1 n a c lb mb)⟩, ⟨lb, 56, true, (secsV last1)⟩, ⟨W2.heap.size, 56, true, (intsV en.L)⟩]) (PvG (pfl_g17v n lb pb en) (fun _ _ _ => False)) 0 := cert_reg (v := .pointer (some ⟨pb, 0, none⟩)) (by kernel_rfl) (by kernel_rfl) (by kernel_rfl) (pfl_g17_0 n a c lb mb pb last1 W2 en WA) trivial
    have pfl_g17_c1 : CertG (wpOp Try.prog (opsOf (getCode (bodyOf Try.f14) [1, 1, 0, 1, 0, 0, 1, 1, 0, 1])) (sem Try.prog (bodyOf Try.f14) (pfl_Q n a c lb mb pb last cs ck w) [.blk 1, .inv J, .blk 0, .code [1, 1, 1]])) [] 29 (opsOf (getCode (bodyOf Try.f14) [1, 1, 0, 1, 0, 0, 1, 1, 0, 1])) (slI (opsOf (getCode (bodyOf Try.f14) [1, 1, 0, 1, 0, 0, 1, 1, 0, 1])) (pfl_g17s pb W2 en WA) 1) (pfl_g17t) 1 (MG W2 (Turned [⟨pb, 53, true, (pfl_v1 n a c lb mb)⟩, ⟨lb, 56, true, (secsV last1)⟩]) (pfl_g17m n a c lb mb pb last1 W2 en) [] z15) (Turned [⟨pb, 53, true, (pfl_v1 n a c lb mb)⟩, ⟨lb, 56, true, (secsV last1)⟩, ⟨W2.heap.size, 56, true, (intsV en.L)⟩]) (PvG (pfl_g17v n lb pb en) (fun _ _ _ => False)) 1 := cert_reg (v := .pointer (some ⟨pb, 0, none⟩)) (by kernel_rfl) (by kernel_rfl) (by kernel_rfl) (pfl_g17_1 n a c lb mb pb last1 W2 en WA) trivial
    have pfl_g17_c2 : CertG (wpOp Try.prog (opsOf (getCode (bodyOf Try.f14) [1, 1, 0, 1, 0, 0, 1, 1, 0, 1])) (sem Try.prog (bodyOf Try.f14) (pfl_Q n a c lb mb pb last cs ck w) [.blk 1, .inv J, .blk 0, .code [1, 1, 1]])) [] 29 (opsOf (getCode (bodyOf Try.f14) [1, 1, 0, 1, 0, 0, 1, 1, 0, 1])) (slI (opsOf (getCode (bodyOf Try.f14) [1, 1, 0, 1, 0, 0, 1, 1, 0, 1])) (pfl_g17s pb W2 en WA) 2) (pfl_g17t) 1 (MG W2 (Turned [⟨pb, 53, true, (pfl_v1 n a c lb mb)⟩, ⟨lb, 56, true, (secsV last1)⟩]) (pfl_g17m n a c lb mb pb last1 W2 en) [] z15) (Turned [⟨pb, 53, true, (pfl_v1 n a c lb mb)⟩, ⟨lb, 56, true, (secsV last1)⟩, ⟨W2.heap.size, 56, true, (intsV en.L)⟩]) (PvG (pfl_g17v n lb pb en) (fun _ _ _ => False)) 2 := cert_reg (v := .pointer (some ⟨pb, 0, none⟩)) (by kernel_rfl) (by kernel_rfl) (by kernel_rfl) (pfl_g17_2 n a c lb mb pb last1 W2 en WA) trivial
    have pfl_g17_c3 : CertG (wpOp Try.prog (opsOf (getCode (bodyOf Try.f14) [1, 1, 0, 1, 0, 0, 1, 1, 0, 1])) (sem Try.prog (bodyOf Try.f14) (pfl_Q n a c lb mb pb last cs ck w) [.blk 1, .inv J, .blk 0, .code [1, 1, 1]])) [] 29 (opsOf (getCode (bodyOf Try.f14) [1, 1, 0, 1, 0, 0, 1, 1, 0, 1])) (slI (opsOf (getCode (bodyOf Try.f14) [1, 1, 0, 1, 0, 0, 1, 1, 0, 1])) (pfl_g17s pb W2 en WA) 3) (pfl_g17t) 1 (MG W2 (Turned [⟨pb, 53, true, (pfl_v1 n a c lb mb)⟩, ⟨lb, 56, true, (secsV last1)⟩]) (pfl_g17m n a c lb mb pb last1 W2 en) [] z15) (Turned [⟨pb, 53, true, (pfl_v1 n a c lb mb)⟩, ⟨lb, 56, true, (secsV last1)⟩, ⟨W2.heap.size, 56, true, (intsV en.L)⟩]) (PvG (pfl_g17v n lb pb en) (fun _ _ _ => False)) 3 := cert_reg (v := .slice (some ⟨lb, 0, none⟩) n n) (by kernel_rfl) (by kernel_rfl) (by kernel_rfl) (pfl_g17_3 n a c lb mb pb last1 W2 en WA) trivial
    have pfl_g17_c4 : CertG (wpOp Try.prog (opsOf (getCode (bodyOf Try.f14) [1, 1, 0, 1, 0, 0, 1, 1, 0, 1])) (sem Try.prog (bodyOf Try.f14) (pfl_Q n a c lb mb pb last cs ck w) [.blk 1, .inv J, .blk 0, .code [1, 1, 1]])) [] 29 (opsOf (getCode (bodyOf Try.f14) [1, 1, 0, 1, 0, 0, 1, 1, 0, 1])) (slI (opsOf (getCode (bodyOf Try.f14) [1, 1, 0, 1, 0, 0, 1, 1, 0, 1])) (pfl_g17s pb W2 en WA) 4) (pfl_g17t) 1 (MG W2 (Turned [⟨pb, 53, true, (pfl_v1 n a c lb mb)⟩, ⟨lb, 56, true, (secsV last1)⟩]) (pfl_g17m n a c lb mb pb last1 W2 en) [] z15) (Turned [⟨pb, 53, true, (pfl_v1 n a c lb mb)⟩, ⟨lb, 56, true, (secsV last1)⟩, ⟨W2.heap.size, 56, true, (intsV en.L)⟩]) (PvG (pfl_g17v n lb pb en) (fun _ _ _ => False)) 4 := cert_reg (v := .int .i64 en.k) (by kernel_rfl) (by kernel_rfl) (by kernel_rfl) (pfl_g17_4 n a c lb mb pb last1 W2 en WA) trivial
    have pfl_g17_c5 : CertG (wpOp Try.prog (opsOf (getCode (bodyOf Try.f14) [1, 1, 0, 1, 0, 0, 1, 1, 0, 1])) (sem Try.prog (bodyOf Try.f14) (pfl_Q n a c lb mb pb last cs ck w) [.blk 1, .inv J, .blk 0, .code [1, 1, 1]])) [] 29 (opsOf (getCode (bodyOf Try.f14) [1, 1, 0, 1, 0, 0, 1, 1, 0, 1])) (slI (opsOf (getCode (bodyOf Try.f14) [1, 1, 0, 1, 0, 0, 1, 1, 0, 1])) (pfl_g17s pb W2 en WA) 5) (pfl_g17t) 1 (MG W2 (Turned [⟨pb, 53, true, (pfl_v1 n a c lb mb)⟩, ⟨lb, 56, true, (secsV last1)⟩]) (pfl_g17m n a c lb mb pb last1 W2 en) [] z15) (Turned [⟨pb, 53, true, (pfl_v1 n a c lb mb)⟩, ⟨lb, 56, true, (secsV last1)⟩, ⟨W2.heap.size, 56, true, (intsV en.L)⟩]) (PvG (pfl_g17v n lb pb en) (fun _ _ _ => False)) 5 := cert_op (by
        intro j a_ wx hj hjs hcap hf hk_ hm
        obtain ⟨bk, hb, hz, hM⟩ := hm
        have hj0 : j = 0 := by
          have h := hcap 7 0 (by kernel_rfl) (List.mem_of_getElem? (i := 1) (by kernel_rfl))
          omega
        subst hj0
        have hb' : some [⟨pb, 53, true, (pfl_v1 n a c lb mb)⟩, ⟨lb, 56, true, (secsV last1)⟩, ⟨W2.heap.size, 56, true, (intsV en.L)⟩] = some bk := hb
        cases hb'
        exact ⟨_, Instr.loadAt 56 (.pointer (some ⟨W2.heap.size, 0, none⟩)), _, wx, hf, by kernel_rfl, by kernel_rfl, run_loadMany (P := Try.prog) wx 56 5 64 _ _ _ _ (intsV en.L) (by kernel_rfl) (by rw [show (intsV en.L).length = 64 by simp [intsV, hLe.1]]; kernel_rfl) (hM.at_ 2 rfl) (fun j v h => by rw [Nat.zero_add]; exact h), (rfl : secV en.L = _), Kept.refl _ _, _, by kernel_rfl, hz, hM⟩)
    have pfl_g17_c6 : CertG (wpOp Try.prog (opsOf (getCode (bodyOf Try.f14) [1, 1, 0, 1, 0, 0, 1, 1, 0, 1])) (sem Try.prog (bodyOf Try.f14) (pfl_Q n a c lb mb pb last cs ck w) [.blk 1, .inv J, .blk 0, .code [1, 1, 1]])) [] 29 (opsOf (getCode (bodyOf Try.f14) [1, 1, 0, 1, 0, 0, 1, 1, 0, 1])) (slI (opsOf (getCode (bodyOf Try.f14) [1, 1, 0, 1, 0, 0, 1, 1, 0, 1])) (pfl_g17s pb W2 en WA) 6) (pfl_g17t) 1 (MG W2 (Turned [⟨pb, 53, true, (pfl_v1 n a c lb mb)⟩, ⟨lb, 56, true, (secsV last1)⟩]) (pfl_g17m n a c lb mb pb last1 W2 en) [] z15) (Turned [⟨pb, 53, true, (pfl_v1 n a c lb mb)⟩, ⟨lb, 56, true, (secsV last1)⟩, ⟨W2.heap.size, 56, true, (intsV en.L)⟩]) (PvG (pfl_g17v n lb pb en) (fun _ _ _ => False)) 6 := cert_reg (v := .pointer (some ⟨lb, 0 + (Int.toNat en.k) * 64, none⟩)) (by kernel_rfl) (by kernel_rfl) (by kernel_rfl) (pfl_g17_6 n a c lb mb pb last1 W2 en WA) ⟨⟨by omega, by omega⟩, trivial⟩
    have pfl_g17_c7 : CertG (wpOp Try.prog (opsOf (getCode (bodyOf Try.f14) [1, 1, 0, 1, 0, 0, 1, 1, 0, 1])) (sem Try.prog (bodyOf Try.f14) (pfl_Q n a c lb mb pb last cs ck w) [.blk 1, .inv J, .blk 0, .code [1, 1, 1]])) [] 29 (opsOf (getCode (bodyOf Try.f14) [1, 1, 0, 1, 0, 0, 1, 1, 0, 1])) (slI (opsOf (getCode (bodyOf Try.f14) [1, 1, 0, 1, 0, 0, 1, 1, 0, 1])) (pfl_g17s pb W2 en WA) 7) (pfl_g17t) 1 (MG W2 (Turned [⟨pb, 53, true, (pfl_v1 n a c lb mb)⟩, ⟨lb, 56, true, (secsV last1)⟩]) (pfl_g17m n a c lb mb pb last1 W2 en) [] z15) (Turned [⟨pb, 53, true, (pfl_v1 n a c lb mb)⟩, ⟨lb, 56, true, (secsV last1)⟩, ⟨W2.heap.size, 56, true, (intsV en.L)⟩]) (PvG (pfl_g17v n lb pb en) (fun _ _ _ => False)) 7 := cert_opS (by
        intro j a_ wx hj hjs hf hk_ hm
        obtain ⟨rfl, _⟩ := hjs 0 (by kernel_rfl)
        obtain ⟨bk, hb, hz, hM⟩ := hm
        have hb' : some [⟨pb, 53, true, (pfl_v1 n a c lb mb)⟩, ⟨lb, 56, true, (secsV last1)⟩, ⟨W2.heap.size, 56, true, (intsV en.L)⟩] = some bk := hb
        cases hb'
        obtain ⟨w', h1, h2, h3, h4⟩ := store_row (P := Try.prog) (t := 56) hM (i := 1) rfl hs1 (k := Int.toNat en.k) (by omega) hLe.1 (by kernel_rfl)
        exact ⟨_, _, _, hf, by kernel_rfl, by kernel_rfl, h1, (rfl : undef = _), h2.mono (fun k _ e => ⟨⟨lb, 56, true, secsV last1⟩, List.mem_of_getElem? (i := 1) (by kernel_rfl), rfl, e.symm⟩), _, by kernel_rfl, Nat.le_trans hz h3, h4⟩)
    refine holds_mixG (vs := (pfl_g17v n lb pb en)) (ms := (pfl_g17m n a c lb mb pb last1 W2 en)) (stg := (pfl_g17t)) (J := 1) (sl' := [(0, .pointer (some ⟨pb, 0, none⟩)), (2, .int .i64 0), (12, .pointer (some ⟨WA.heap.size, 0, none⟩))]) (bk' := [⟨pb, 53, true, (pfl_v1 n a c lb mb)⟩, ⟨lb, 56, true, (secsV (List.set last1 (Int.toNat en.k) en.L))⟩, ⟨W2.heap.size, 56, true, (intsV en.L)⟩]) (fun _ _ _ => False) [0, 2, 12] (by kernel_rfl) (by kernel_rfl) (by kernel_rfl) (fun _ _ _ _ h => h.elim) (certs_of [0, 1, 2, 3, 4, 5, 6, 7] (by kernel_rfl) ⟨pfl_g17_c0, pfl_g17_c1, pfl_g17_c2, pfl_g17_c3, pfl_g17_c4, pfl_g17_c5, pfl_g17_c6, pfl_g17_c7, trivial⟩) (by kernel_rfl) (by kernel_rfl) (by kernel_rfl) (fun z17 hz17 => ?_)
    replace hz17 : z15 ≤ z17 := hz17
    refine holds_go _ _ (pfl_s18 n a c lb mb pb last1 W2 J en WA z17) trivial ?_
    intro a w3 hf hm
    have hlt := leftC_push hen
    exact hJ (leftC cs (seen.push en.born)).length _ a w3 (by omega) ⟨seen.push en.born, ck, List.set last1 (Int.toNat en.k) en.L, _, rfl, Nat.le_refl _, by rw [hl1]; exact ovl_step hnk hnb hen hke.1, hI2.kept hm.kept hnG, hM2.kept hm.kept hnM, rfl⟩ hf (hm2.back2 hm)

end Go.Proofs.Ytillpjllbekedaa
