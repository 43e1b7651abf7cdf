/- The document's net: Send, Take, Copy, Drop. -/
import Derived.Test.YthndmmondlpghaaNet3
namespace Go.Proofs.Ythndmmondlpghaa
open Go.RowKit

theorem rsend_ref (base gx rb : Nat) (L : List (List UInt8)) (s : ByteArray) (hl : L.length ≤ 64) (hs : Srt L) (w : World) (hgx : gx < w.heap.size) (h : RefAt 49 9 w base gx rb L) :
    Calls Try.prog 17 #[.pointer (some ⟨rb, 0, none⟩), .string s] w (fun e w' => e = .returned (.bool (okS L s)) ∧ RefAt 49 9 w' base gx rb (sendL L s) ∧ Kept (fun x => x = rb) w w') := by
  obtain ⟨A, cp, hB, hO, h3, h4, h5, h6⟩ := h
  have hlt := hB.lt
  by_cases h1 : L.length < 64
  · by_cases h2 : s.size ≤ 1000
    · have e : okS L s = true := by unfold okS; rw [decide_eq_true h1, decide_eq_true h2]; rfl
      have e2 : sendL L s = insR (kb s) L := (if_pos e).trans (insR_eq hs).symm
      rw [e, e2]
      refine (rsend_ok base rb A cp L s h1 h2 h4 w hB hO).mono fun e' w' ⟨a1, ⟨A', cp', a2, a3⟩, a4⟩ => ⟨a1, ⟨A', cp', a2, a3.below (by omega), h3, fun hx => (by have := a3.own rb hx; omega), fun hx => (by have := a3.own gx hx; omega), h6⟩, a4⟩
    · have e : okS L s = false := by unfold okS; rw [decide_eq_false h2, Bool.and_false]
      have e2 : sendL L s = L := if_neg (by rw [e]; simp)
      rw [e, e2]
      exact (rsend_long rb A cp L s h1 (by omega) w hB).mono fun e' w' ⟨a1, a2⟩ => ⟨a1, ⟨A, cp, hB.kept a2 id, hO.kept a2 (fun _ _ h => h), h3, h4, h5, h6⟩, a2.mono (fun _ _ h => h.elim)⟩
  · have e : okS L s = false := by unfold okS; rw [decide_eq_false h1, Bool.false_and]
    have e2 : sendL L s = L := if_neg (by rw [e]; simp)
    rw [e, e2]
    exact (rsend_full rb A cp L s (by omega) w hB).mono fun e' w' ⟨a1, a2⟩ => ⟨a1, ⟨A, cp, hB.kept a2 id, hO.kept a2 (fun _ _ h => h), h3, h4, h5, h6⟩, a2.mono (fun _ _ h => h.elim)⟩
theorem rtn_s1 (i : Int) (rb : Nat) (L : List (List UInt8)) (A : Option Addr) (cp : Nat) (w : World) : Res.prune [0, 1, 4, 5, 10, 11] [] (exec Try.prog (bodyOf Try.f18) 38 12 [⟨false, 0, []⟩, ⟨false, 0, []⟩, ⟨false, 0, []⟩, ⟨false, 0, []⟩] [.code []] ⟨[(0, .pointer (some ⟨rb, 0, none⟩)), (1, .int .i64 i)], [⟨rb, 49, false, [.slice A L.length cp]⟩], [], w.heap.size⟩) = some ⟨[], dupR [], [.ops [1, 0] [2, 3, 4, 5, 6, 7], .code [1, 1]], ⟨[(0, .pointer (some ⟨rb, 0, none⟩)), (1, .int .i64 i), (4, .string ⟨#[]⟩), (5, .bool false), (10, .pointer (some ⟨rb, 0, none⟩)), (11, .int .i64 i)], [⟨rb, 49, false, [.slice A L.length cp]⟩], [], w.heap.size⟩⟩ := by kernel_rfl
theorem rtn_c2 (i : Int) (rb : Nat) : callAt Try.prog (opsOf (getCode (bodyOf Try.f18) [1, 0])) [(0, .pointer (some ⟨rb, 0, none⟩)), (1, .int .i64 i), (4, .string ⟨#[]⟩), (5, .bool false), (10, .pointer (some ⟨rb, 0, none⟩)), (11, .int .i64 i)] 2 = some (23, [.pointer (some ⟨rb, 0, none⟩), .int .i64 i], some 12, []) := by kernel_rfl
theorem rtn_s3 (i : Int) (rb : Nat) (L : List (List UInt8)) (A : Option Addr) (cp : Nat) (z2 : Nat) : Res.prune [4, 5] [] (exec Try.prog (bodyOf Try.f18) 38 23 [⟨false, 0, []⟩, ⟨false, 0, []⟩, ⟨false, 0, []⟩, ⟨false, 0, []⟩, ⟨false, 0, []⟩, ⟨false, 0, []⟩, ⟨false, 0, []⟩, ⟨false, 0, []⟩, ⟨false, 0, []⟩, ⟨false, 0, []⟩, ⟨false, 0, []⟩] [.ops [1, 0] [3, 4, 5, 6, 7], .code [1, 1]] ⟨[(12, .tuple #[.string ⟨#[]⟩, .bool false]), (0, .pointer (some ⟨rb, 0, none⟩)), (1, .int .i64 i), (4, .string ⟨#[]⟩), (5, .bool false), (10, .pointer (some ⟨rb, 0, none⟩)), (11, .int .i64 i)], [⟨rb, 49, false, [.slice A L.length cp]⟩], [], z2⟩) = some ⟨[false = false], dupR [], [.code [1, 1, 1, 1]], ⟨[(4, .string ⟨#[]⟩), (5, .bool false)], [⟨rb, 49, false, [.slice A L.length cp]⟩], [], z2⟩⟩ := by kernel_rfl
theorem rtn_r4 (rb : Nat) (L : List (List UInt8)) (A : Option Addr) (cp : Nat) : resL Try.prog [] [⟨rb, 49, false, [.slice A L.length cp]⟩] [(4, .string ⟨#[]⟩), (5, .bool false)] Try.f18.results.toList [] = some ([.string ⟨#[]⟩, .bool false], dupR []) := by kernel_rfl
set_option maxRecDepth 100000 in
set_option maxHeartbeats 4000000 in
theorem rtake_none (base rb : Nat) (A : Option Addr) (cp : Nat) (L : List (List UInt8)) (i : Int) (hl : L.length ≤ 64) (ho : lookR L i = none) (w : World) (hp : Blk w rb 49 [.slice A L.length cp]) (hO : OwnL w (base) 9 A L.length cp L) :
    Calls Try.prog 18 #[.pointer (some ⟨rb, 0, none⟩), .int .i64 i] w (RetK (lookV none) w) := by
  refine calls_of_holds (S := (fun _ => False)) (l := [.pointer (some ⟨rb, 0, none⟩), .int .i64 i]) (n := 38) Try.func18 (body_of (by kernel_rfl)) rfl (by simp) (MemOk.start (bk := [⟨rb, 49, false, [.slice A L.length cp]⟩]) (wn := []) (by simpa using hp) (by simp) (by simp) (by simp)) ?_
  refine holds_go _ _ (rtn_s1 i rb L A cp w) trivial ?_
  refine holds_callP (.tuple #[.string ⟨#[]⟩, .bool false]) (rtn_c2 i rb) trivial rfl (fun wx hm => by have h := rlook_any base rb A cp L i hl wx (hm.at_ 0 rfl) (hO.kept hm.kept (fun _ _ h => h)); rw [ho] at h; exact h) fun z2 hz2 => ?_
  replace hz2 : w.heap.size ≤ z2 := hz2
  refine holds_go _ _ (rtn_s3 i rb L A cp z2) ⟨rfl, trivial⟩ ?_
  refine holds_ret [] (by kernel_rfl) (rtn_r4 rb L A cp) ?_
  intro wx hm
  exact ⟨rfl, hm.kept⟩

theorem rts_s1 (i : Int) (rb : Nat) (L : List (List UInt8)) (A : Option Addr) (cp : Nat) (w : World) : Res.prune [0, 1, 4, 5, 10, 11] [] (exec Try.prog (bodyOf Try.f18) 38 12 [⟨false, 0, []⟩, ⟨false, 0, []⟩, ⟨false, 0, []⟩, ⟨false, 0, []⟩] [.code []] ⟨[(0, .pointer (some ⟨rb, 0, none⟩)), (1, .int .i64 i)], [⟨rb, 49, true, [.slice A L.length cp]⟩], [], w.heap.size⟩) = some ⟨[], dupR [], [.ops [1, 0] [2, 3, 4, 5, 6, 7], .code [1, 1]], ⟨[(0, .pointer (some ⟨rb, 0, none⟩)), (1, .int .i64 i), (4, .string ⟨#[]⟩), (5, .bool false), (10, .pointer (some ⟨rb, 0, none⟩)), (11, .int .i64 i)], [⟨rb, 49, true, [.slice A L.length cp]⟩], [], w.heap.size⟩⟩ := by kernel_rfl
theorem rts_c2 (i : Int) (rb : Nat) : callAt Try.prog (opsOf (getCode (bodyOf Try.f18) [1, 0])) [(0, .pointer (some ⟨rb, 0, none⟩)), (1, .int .i64 i), (4, .string ⟨#[]⟩), (5, .bool false), (10, .pointer (some ⟨rb, 0, none⟩)), (11, .int .i64 i)] 2 = some (23, [.pointer (some ⟨rb, 0, none⟩), .int .i64 i], some 12, []) := by kernel_rfl
theorem rts_s3 (i : Int) (rb : Nat) (x : List UInt8) (L : List (List UInt8)) (cp : Nat) (g : Nat) (z2 : Nat) : Res.prune [0, 1, 4, 5, 6, 7, 8, 16, 20, 21] [] (exec Try.prog (bodyOf Try.f18) 38 27 [⟨false, 0, []⟩, ⟨false, 0, []⟩, ⟨false, 0, []⟩, ⟨false, 0, []⟩, ⟨false, 0, []⟩, ⟨false, 0, []⟩, ⟨true, 0, []⟩, ⟨false, 0, []⟩, ⟨false, 0, []⟩, ⟨false, 0, []⟩, ⟨false, 0, []⟩, ⟨false, 0, []⟩, ⟨false, 0, [⟨false, 0, 0, 1⟩]⟩, ⟨false, 0, []⟩] [.ops [1, 0] [3, 4, 5, 6, 7], .code [1, 1]] ⟨[(12, .tuple #[.string (bs x), .bool true]), (0, .pointer (some ⟨rb, 0, none⟩)), (1, .int .i64 i), (4, .string ⟨#[]⟩), (5, .bool false), (10, .pointer (some ⟨rb, 0, none⟩)), (11, .int .i64 i)], [⟨rb, 49, true, [.slice (some ⟨g, 0, none⟩) L.length cp]⟩], [], z2⟩) = some ⟨[true = true], dupR [(rb, 0, 1)], [.ops [1, 1, 0, 1, 0, 1, 0] [6, 7, 8], .code [1, 1, 0, 1, 0, 1, 1], .code [1, 1, 1]], ⟨[(0, .pointer (some ⟨rb, 0, none⟩)), (1, .int .i64 i), (4, .string ⟨#[]⟩), (5, .bool false), (6, .string (bs x)), (7, .bool true), (8, .slice none 0 0), (16, .slice none 0 0), (20, .slice (some ⟨g, 0, none⟩) L.length cp), (21, .int .i64 i)], [⟨rb, 49, true, [.slice (some ⟨g, 0, none⟩) L.length cp]⟩], [], z2⟩⟩ := by kernel_rfl
theorem rts_s5 (i : Int) (rb : Nat) (x : List UInt8) (L : List (List UInt8)) (cp : Nat) (g : Nat) (z2 : Nat) : Res.prune [0, 1, 4, 5, 6, 7, 8, 16, 22] [] (exec Try.prog (bodyOf Try.f18) 38 3 [] [.ops [1, 1, 0, 1, 0, 1, 0] [7, 8], .code [1, 1, 0, 1, 0, 1, 1], .code [1, 1, 1]] ⟨[(22, .slice (some ⟨g, 0, none⟩) (Int.toNat i) cp), (0, .pointer (some ⟨rb, 0, none⟩)), (1, .int .i64 i), (4, .string ⟨#[]⟩), (5, .bool false), (6, .string (bs x)), (7, .bool true), (8, .slice none 0 0), (16, .slice none 0 0), (20, .slice (some ⟨g, 0, none⟩) L.length cp), (21, .int .i64 i)], [⟨rb, 49, true, [.slice (some ⟨g, 0, none⟩) L.length cp]⟩], [], z2⟩) = some ⟨[], dupR [], [.ops [1, 1, 0, 1, 0, 1, 0] [7, 8], .code [1, 1, 0, 1, 0, 1, 1], .code [1, 1, 1]], ⟨[(0, .pointer (some ⟨rb, 0, none⟩)), (1, .int .i64 i), (4, .string ⟨#[]⟩), (5, .bool false), (6, .string (bs x)), (7, .bool true), (8, .slice none 0 0), (16, .slice none 0 0), (22, .slice (some ⟨g, 0, none⟩) (Int.toNat i) cp)], [⟨rb, 49, true, [.slice (some ⟨g, 0, none⟩) L.length cp]⟩], [], z2⟩⟩ := by kernel_rfl
theorem rts_s7 (i : Int) (rb : Nat) (x : List UInt8) (L : List (List UInt8)) (cp : Nat) (g : Nat) (A1 : Option Addr) (cp1 : Nat) (W1 : World) : Res.prune [4, 5, 6, 7, 24, 25, 29, 31] [] (exec Try.prog (bodyOf Try.f18) 38 14 [⟨false, 0, []⟩, ⟨false, 0, []⟩, ⟨false, 0, []⟩, ⟨false, 0, []⟩, ⟨false, 0, []⟩, ⟨false, 0, []⟩, ⟨false, 0, [⟨false, 0, 0, 1⟩]⟩, ⟨false, 0, []⟩, ⟨false, 1, []⟩] [.ops [1, 1, 0, 1, 0, 1, 0] [8], .code [1, 1, 0, 1, 0, 1, 1], .code [1, 1, 1]] ⟨[(23, .slice A1 (0 + (Int.toNat i)) cp1), (0, .pointer (some ⟨rb, 0, none⟩)), (1, .int .i64 i), (4, .string ⟨#[]⟩), (5, .bool false), (6, .string (bs x)), (7, .bool true), (8, .slice none 0 0), (16, .slice none 0 0), (22, .slice (some ⟨g, 0, none⟩) (Int.toNat i) cp)], [⟨rb, 49, true, [.slice (some ⟨g, 0, none⟩) L.length cp]⟩], [], W1.heap.size⟩) = some ⟨[inR .i64 ((i + 1))], dupR [(rb, 0, 1)], [.ops [1, 1, 0, 1, 0, 1, 1] [8, 9, 10, 11, 12], .code [1, 1, 1]], ⟨[(4, .string ⟨#[]⟩), (5, .bool false), (6, .string (bs x)), (7, .bool true), (24, .pointer (some ⟨rb, 0, none⟩)), (25, .slice A1 (0 + (Int.toNat i)) cp1), (29, .slice (some ⟨g, 0, none⟩) L.length cp), (31, .int .i64 (i + 1))], [⟨rb, 49, true, [.slice (some ⟨g, 0, none⟩) L.length cp]⟩], [], W1.heap.size⟩⟩ := by kernel_rfl
theorem rts_s9 (i : Int) (rb : Nat) (x : List UInt8) (L : List (List UInt8)) (cp : Nat) (g : Nat) (A1 : Option Addr) (cp1 : Nat) (W1 : World) : Res.prune [4, 5, 6, 7, 24, 25, 32] [] (exec Try.prog (bodyOf Try.f18) 38 3 [] [.ops [1, 1, 0, 1, 0, 1, 1] [9, 10, 11, 12], .code [1, 1, 1]] ⟨[(32, (.slice (some (sfrom g cp (Int.toNat (i + 1)))) (L.length - (Int.toNat (i + 1))) (cp - (Int.toNat (i + 1))))), (4, .string ⟨#[]⟩), (5, .bool false), (6, .string (bs x)), (7, .bool true), (24, .pointer (some ⟨rb, 0, none⟩)), (25, .slice A1 (0 + (Int.toNat i)) cp1), (29, .slice (some ⟨g, 0, none⟩) L.length cp), (31, .int .i64 (i + 1))], [⟨rb, 49, true, [.slice (some ⟨g, 0, none⟩) L.length cp]⟩], [], W1.heap.size⟩) = some ⟨[], dupR [], [.ops [1, 1, 0, 1, 0, 1, 1] [9, 10, 11, 12], .code [1, 1, 1]], ⟨[(4, .string ⟨#[]⟩), (5, .bool false), (6, .string (bs x)), (7, .bool true), (24, .pointer (some ⟨rb, 0, none⟩)), (25, .slice A1 (0 + (Int.toNat i)) cp1), (32, (.slice (some (sfrom g cp (Int.toNat (i + 1)))) (L.length - (Int.toNat (i + 1))) (cp - (Int.toNat (i + 1)))))], [⟨rb, 49, true, [.slice (some ⟨g, 0, none⟩) L.length cp]⟩], [], W1.heap.size⟩⟩ := by kernel_rfl
theorem rts_s11 (i : Int) (rb : Nat) (x : List UInt8) (L : List (List UInt8)) (cp : Nat) (g : Nat) (A1 : Option Addr) (cp1 : Nat) (A2 : Option Addr) (cp2 : Nat) (W2 : World) : Res.prune [4, 5] [] (exec Try.prog (bodyOf Try.f18) 38 14 [⟨false, 0, []⟩, ⟨false, 0, []⟩, ⟨false, 0, [⟨false, 0, 0, 1⟩]⟩, ⟨false, 0, []⟩, ⟨false, 0, []⟩, ⟨false, 0, []⟩, ⟨false, 0, []⟩] [.ops [1, 1, 0, 1, 0, 1, 1] [10, 11, 12], .code [1, 1, 1]] ⟨[(33, .slice A2 (0 + (Int.toNat i) + (L.length - (Int.toNat (i + 1)))) cp2), (4, .string ⟨#[]⟩), (5, .bool false), (6, .string (bs x)), (7, .bool true), (24, .pointer (some ⟨rb, 0, none⟩)), (25, .slice A1 (0 + (Int.toNat i)) cp1), (32, (.slice (some (sfrom g cp (Int.toNat (i + 1)))) (L.length - (Int.toNat (i + 1))) (cp - (Int.toNat (i + 1)))))], [⟨rb, 49, true, [.slice (some ⟨g, 0, none⟩) L.length cp]⟩], [], W2.heap.size⟩) = some ⟨[], dupR [(rb, 0, 1)], [.code [1, 1, 1, 1]], ⟨[(4, .string (bs x)), (5, .bool true)], [⟨rb, 49, true, [.slice A2 (0 + (Int.toNat i) + (L.length - (Int.toNat (i + 1)))) cp2]⟩], [], W2.heap.size⟩⟩ := by kernel_rfl
theorem rts_r12 (i : Int) (rb : Nat) (x : List UInt8) (L : List (List UInt8)) (A2 : Option Addr) (cp2 : Nat) : resL Try.prog [] [⟨rb, 49, true, [.slice A2 (0 + (Int.toNat i) + (L.length - (Int.toNat (i + 1)))) cp2]⟩] [(4, .string (bs x)), (5, .bool true)] Try.f18.results.toList [] = some ([.string (bs x), .bool true], dupR []) := by kernel_rfl
set_option maxRecDepth 100000 in
set_option maxHeartbeats 4000000 in
theorem rtake_some (base rb : Nat) (A : Option Addr) (cp : Nat) (L : List (List UInt8)) (i : Int) (hl : L.length ≤ 64) (x : List UInt8) (ho : lookR L i = some x) (hno : ¬ ownA A rb) (w : World) (hp : Blk w rb 49 [.slice A L.length cp]) (hO : OwnL w (base) 9 A L.length cp L) :
    Calls Try.prog 18 #[.pointer (some ⟨rb, 0, none⟩), .int .i64 i] w (fun e w' => e = .returned (lookV (some x)) ∧ (∃ A' cp', Blk w' rb 49 [.slice A' (L.eraseIdx (Int.toNat i)).length cp'] ∧ OwnL w' (w.heap.size) 9 A' ((L.eraseIdx (Int.toNat i)).length) cp' (L.eraseIdx (Int.toNat i))) ∧ Kept (fun x => x = rb) w w') := by
  refine calls_of_holds (S := (fun x => x = rb)) (l := [.pointer (some ⟨rb, 0, none⟩), .int .i64 i]) (n := 38) Try.func18 (body_of (by kernel_rfl)) rfl (by simp) (MemOk.start (bk := [⟨rb, 49, true, [.slice A L.length cp]⟩]) (wn := []) (by simpa using hp) (by simp) (by simp) (by simp)) ?_
  have hrb := hp.lt
  have hAo := hO.own
  have hlk := lookR_lt ho
  have hx2 : L[Int.toNat i]? = some x := by
    unfold lookR at ho
    rwa [if_neg (by omega)] at ho
  refine holds_go _ _ (rts_s1 i rb L A cp w) trivial ?_
  refine holds_callP (.tuple #[.string (bs x), .bool true]) (rts_c2 i rb) trivial rfl (fun wx hm => by have h := rlook_any base rb A cp L i hl wx (hm.at_ 0 rfl) (hO.kept hm.kept (fun x hx e => hno (e ▸ hx))); rw [ho] at h; exact h) fun z2 hz2 => ?_
  replace hz2 : w.heap.size ≤ z2 := hz2
  obtain ⟨g, rfl, hg1, hg2, hcp, hc⟩ := hO.get (j := 0) (by omega)
  have hgrb : g ≠ rb := fun e => hno ⟨_, rfl, e.symm⟩
  have hN0 := OwnL.nil w w.heap.size 9
  refine holds_go _ _ (rts_s3 i rb x L cp g z2) ⟨rfl, trivial⟩ ?_
  refine holds_opR (dst := (some 22)) (x := Instr.sliceAt 22 (.slice (some ⟨g, 0, none⟩) L.length cp) none (some (.int .i64 i)) none) (.slice (some ⟨g, 0, none⟩) (Int.toNat i) cp) (by kernel_rfl) (by kernel_rfl) rfl (fun wx hm => ?_) ?_
  · exact run_sliceTo (P := Try.prog) wx 22 9 g L.length cp i (by kernel_rfl) (by kernel_rfl) ⟨by omega, by omega⟩
  refine holds_go _ _ (rts_s5 i rb x L cp g z2) trivial ?_
  have hT_ : ∀ x, x ≠ rb → ¬ (fun x => x = rb) x := fun x hx => hx
  have hOo := hN0.own
  refine holds_opV (w := w) (S' := fun x => x = rb) (dst := (some 23)) (x := Builtin.append_ #[22, 22] 22 #[.slice none 0 0, .slice (some ⟨g, 0, none⟩) (Int.toNat i) cp]) (fun yq : Option Addr × Nat => .slice yq.1 (0 + (Int.toNat i)) yq.2) [⟨rb, 49, true, [.slice (some ⟨g, 0, none⟩) L.length cp]⟩] (fun yq W_ => OwnL W_ (w.heap.size) 9 yq.1 (0 + (Int.toNat i)) yq.2 ([] ++ (L.take (Int.toNat i))) ∧ OwnL W_ (base) 9 (some ⟨g, 0, none⟩) L.length cp L) (fun yq => (23, .slice yq.1 (0 + (Int.toNat i)) yq.2) :: [(0, .pointer (some ⟨rb, 0, none⟩)), (1, .int .i64 i), (4, .string ⟨#[]⟩), (5, .bool false), (6, .string (bs x)), (7, .bool true), (8, .slice none 0 0), (16, .slice none 0 0), (22, .slice (some ⟨g, 0, none⟩) (Int.toNat i) cp)]) (by kernel_rfl) (by kernel_rfl) (fun _ => rfl) (fun wx hm => ?_) (fun yq W1 hX hmW1 => ?_)
  · have hsz := hm.size
    have hszk := hm.kept.size
    have hO_ := hN0.kept hm.kept (fun x hx => hT_ x (by have := hOo x hx; omega))
    obtain ⟨A', cp', w', h1, h2, h3⟩ := run_appendL (P := Try.prog) wx w.heap.size 22 22 9 none 0 0 ([]) ⟨g, 0, none⟩ (Int.toNat i) cp (L.take (Int.toNat i)) (by kernel_rfl) (by kernel_rfl) hO_ (by rw [List.length_take]; omega) (fun j x hx => by
      have hj : L[j]? = some x := by
        rw [List.getElem?_take] at hx
        split at hx
        · exact hx
        · cases hx
      rw [add_norm, ← Nat.mul_one j]
      have hq := (hO.kept hm.kept (fun x hx e => hno (e ▸ hx))).get (j := 0) (by omega)
      obtain ⟨g', hg', _, _, _, hc'⟩ := hq
      simp only [Option.some.injEq, Addr.mk.injEq, and_true] at hg'
      subst hg'
      exact hc' j x hj) (by omega) (by omega)
    exact ⟨(A', cp'), w', h1, ⟨h2, (hO.kept hm.kept (fun x hx => hT_ x (fun e => hno (e ▸ hx)))).kept h3 (fun x hx e => by have := hAo x hx; have := hOo x e; omega)⟩, (hm.froze [true]).offN (fun _ h => h) h3 (fun x hx => .inr (by have := hOo x hx; omega)) (by intro b hb hx; have := hOo _ hx; simp [froze] at hb; subst hb; simp at this; omega)⟩
  clear hT_ hOo
  obtain ⟨A1, cp1⟩ := yq
  obtain ⟨hO1, hOLW1⟩ := hX
  have hszW1 := hmW1.kept.size
  refine holds_go _ _ (rts_s7 i rb x L cp g A1 cp1 W1) ⟨in64 (by omega), trivial⟩ ?_
  refine holds_opR (dst := (some 32)) (x := Instr.sliceAt 22 (.slice (some ⟨g, 0, none⟩) L.length cp) (some (.int .i64 (i + 1))) none none) ((.slice (some (sfrom g cp (Int.toNat (i + 1)))) (L.length - (Int.toNat (i + 1))) (cp - (Int.toNat (i + 1))))) (by kernel_rfl) (by kernel_rfl) rfl (fun wx hm => ?_) ?_
  · exact run_sliceFrom (P := Try.prog) wx 22 9 g L.length cp (i + 1) (by kernel_rfl) (by kernel_rfl) ⟨by omega, by omega⟩
  refine holds_go _ _ (rts_s9 i rb x L cp g A1 cp1 W1) trivial ?_
  have hT_ : ∀ x, x ≠ rb → ¬ Turned [⟨rb, 49, true, [.slice (some ⟨g, 0, none⟩) L.length cp]⟩] x := by
    rintro x hx ⟨b, hb, hr, he⟩
    simp at hb
    subst hb
    simp at he hr <;> omega
  have hOo := hO1.own
  refine holds_opV (w := w) (S' := fun x => x = rb) (dst := (some 33)) (x := Builtin.append_ #[22, 22] 22 #[.slice A1 (0 + (Int.toNat i)) cp1, (.slice (some (sfrom g cp (Int.toNat (i + 1)))) (L.length - (Int.toNat (i + 1))) (cp - (Int.toNat (i + 1))))]) (fun yq : Option Addr × Nat => .slice yq.1 (0 + (Int.toNat i) + (L.length - (Int.toNat (i + 1)))) yq.2) [⟨rb, 49, true, [.slice (some ⟨g, 0, none⟩) L.length cp]⟩] (fun yq W_ => OwnL W_ (w.heap.size) 9 yq.1 (0 + (Int.toNat i) + (L.length - (Int.toNat (i + 1)))) yq.2 ([] ++ (L.take (Int.toNat i)) ++ (L.drop (Int.toNat (i + 1))))) (fun yq => (33, .slice yq.1 (0 + (Int.toNat i) + (L.length - (Int.toNat (i + 1)))) yq.2) :: [(4, .string ⟨#[]⟩), (5, .bool false), (6, .string (bs x)), (7, .bool true), (24, .pointer (some ⟨rb, 0, none⟩)), (25, .slice A1 (0 + (Int.toNat i)) cp1), (32, (.slice (some (sfrom g cp (Int.toNat (i + 1)))) (L.length - (Int.toNat (i + 1))) (cp - (Int.toNat (i + 1)))))]) (by kernel_rfl) (by kernel_rfl) (fun _ => rfl) (fun wx hm => ?_) (fun yq W2 hX hmW2 => ?_)
  · have hsz := hm.size
    have hszk := hm.kept.size
    have hO_ := hO1.kept hm.kept (fun x hx => hT_ x (by have := hOo x hx; omega))
    obtain ⟨A', cp', w', h1, h2, h3⟩ := run_appendL (P := Try.prog) wx w.heap.size 22 22 9 A1 (0 + (Int.toNat i)) cp1 ([] ++ (L.take (Int.toNat i))) (sfrom g cp (Int.toNat (i + 1))) (L.length - (Int.toNat (i + 1))) (cp - (Int.toNat (i + 1))) (L.drop (Int.toNat (i + 1))) (by kernel_rfl) (by kernel_rfl) hO_ (by rw [List.length_drop]) (fun j x hx => by
      have hj : L[(Int.toNat (i + 1)) + j]? = some x := by rw [List.getElem?_drop] at hx; exact hx
      have hjl := (List.getElem?_eq_some_iff.1 hj).1
      have hs2 : sfrom g cp (Int.toNat (i + 1)) = ⟨g, (Int.toNat (i + 1)), none⟩ := if_neg (by omega)
      rw [hs2, add_norm, ← Nat.mul_one ((Int.toNat (i + 1)) + j), ← Nat.zero_add (((Int.toNat (i + 1)) + j) * 1)]
      have hq := (hOLW1.kept hm.kept (fun x hx => hT_ x (fun e => hno (e ▸ hx)))).get (j := 0) (by omega)
      obtain ⟨g', hg', _, _, _, hc'⟩ := hq
      simp only [Option.some.injEq, Addr.mk.injEq, and_true] at hg'
      subst hg'
      exact hc' _ x hj) (by omega) (by omega)
    exact ⟨(A', cp'), w', h1, h2, ((MemOk.back2 hmW1 hm).froze [true]).offN (fun _ h => h) h3 (fun x hx => .inr (by have := hOo x hx; omega)) (by intro b hb hx; have := hOo _ hx; simp [froze] at hb; subst hb; simp at this; omega)⟩
  clear hT_ hOo
  obtain ⟨A2, cp2⟩ := yq
  have hO2 := hX
  have ho2 := hO2.own
  have hl2 := hO2.len
  have he2 : [] ++ L.take (Int.toNat i) ++ L.drop (Int.toNat (i + 1)) = (L.eraseIdx (Int.toNat i)) := by rw [List.nil_append, List.eraseIdx_eq_take_drop_succ, show (Int.toNat (i + 1)) = Int.toNat i + 1 by omega]
  rw [he2] at hO2 hl2
  refine holds_go _ _ (rts_s11 i rb x L cp g A1 cp1 A2 cp2 W2) trivial ?_
  refine holds_ret [] (by kernel_rfl) (rts_r12 i rb x L A2 cp2) ?_
  intro wx hm
  have hB : Blk wx rb 49 [.slice A2 (0 + (Int.toNat i) + (L.length - (Int.toNat (i + 1)))) cp2] := hm.at_ 0 rfl
  have hQ := hO2.kept hm.kept (fun x hx => by
    rintro ⟨b, hb, hr, he⟩
    simp at hb
    subst hb
    have := ho2 x hx
    simp at he
    omega)
  rw [← hl2] at hB hQ
  exact ⟨rfl, ⟨A2, cp2, hB, hQ⟩, (MemOk.back2 hmW2 hm).kept⟩

theorem rtake_ref (base gx rb : Nat) (L : List (List UInt8)) (i : Int) (hl : L.length ≤ 64) (w : World) (hgx : gx < w.heap.size) (h : RefAt 49 9 w base gx rb L) :
    Calls Try.prog 18 #[.pointer (some ⟨rb, 0, none⟩), .int .i64 i] w (fun e w' => e = .returned (lookV (lookR L i)) ∧ RefAt 49 9 w' base gx rb (takeL L i) ∧ Kept (fun x => x = rb) w w') := by
  obtain ⟨A, cp, hB, hO, h3, h4, h5, h6⟩ := h
  have hlt := hB.lt
  unfold takeL
  cases ho : lookR L i with
  | none =>
    rw [if_neg (by simp)]
    exact (rtake_none base rb A cp L i hl ho w hB hO).mono fun e w' ⟨a1, a2⟩ => ⟨a1, ⟨A, cp, hB.kept a2 id, hO.kept a2 (fun _ _ h => h), h3, h4, h5, h6⟩, a2.mono (fun _ _ h => h.elim)⟩
  | some x =>
    rw [if_pos (show (some x).isSome = true from rfl)]
    refine (rtake_some base rb A cp L i hl x ho h4 w hB hO).mono fun e' w' ⟨a1, ⟨A', cp', a2, a3⟩, a4⟩ => ⟨a1, ⟨A', cp', a2, a3.below (by omega), h3, fun hx => (by have := a3.own rb hx; omega), fun hx => (by have := a3.own gx hx; omega), h6⟩, a4⟩
theorem rcps_s1 (i : Int) (rb : Nat) (w : World) : Res.prune [0, 4, 8, 9] [] (exec Try.prog (bodyOf Try.f20) 18 11 [⟨false, 0, []⟩, ⟨false, 0, []⟩, ⟨false, 0, []⟩] [.code []] ⟨[(0, .pointer (some ⟨rb, 0, none⟩)), (1, .int .i64 i)], [], [], w.heap.size⟩) = some ⟨[], dupR [], [.ops [1, 0] [2, 3, 4, 5, 6, 7], .code [1, 1]], ⟨[(0, .pointer (some ⟨rb, 0, none⟩)), (4, .bool false), (8, .pointer (some ⟨rb, 0, none⟩)), (9, .int .i64 i)], [], [], w.heap.size⟩⟩ := by kernel_rfl
theorem rcps_c2 (i : Int) (rb : Nat) : callAt Try.prog (opsOf (getCode (bodyOf Try.f20) [1, 0])) [(0, .pointer (some ⟨rb, 0, none⟩)), (4, .bool false), (8, .pointer (some ⟨rb, 0, none⟩)), (9, .int .i64 i)] 2 = some (23, [.pointer (some ⟨rb, 0, none⟩), .int .i64 i], some 10, []) := by kernel_rfl
theorem rcps_s3 (i : Int) (rb : Nat) (x : List UInt8) (z2 : Nat) : Res.prune [4, 15, 16] [] (exec Try.prog (bodyOf Try.f20) 18 21 [⟨false, 0, []⟩, ⟨false, 0, []⟩, ⟨false, 0, []⟩, ⟨false, 0, []⟩, ⟨false, 0, []⟩, ⟨false, 0, []⟩, ⟨false, 0, []⟩, ⟨false, 0, []⟩, ⟨false, 0, []⟩, ⟨false, 0, []⟩] [.ops [1, 0] [3, 4, 5, 6, 7], .code [1, 1]] ⟨[(10, .tuple #[.string (bs x), .bool true]), (0, .pointer (some ⟨rb, 0, none⟩)), (4, .bool false), (8, .pointer (some ⟨rb, 0, none⟩)), (9, .int .i64 i)], [], [], z2⟩) = some ⟨[false = false], dupR [], [.ops [1, 1, 1, 0] [2, 3], .code [1, 1, 1, 1]], ⟨[(4, .bool false), (15, .pointer (some ⟨rb, 0, none⟩)), (16, .string (bs x))], [], [], z2⟩⟩ := by kernel_rfl
theorem rcps_c4 (rb : Nat) (x : List UInt8) : callAt Try.prog (opsOf (getCode (bodyOf Try.f20) [1, 1, 1, 0])) [(4, .bool false), (15, .pointer (some ⟨rb, 0, none⟩)), (16, .string (bs x))] 2 = some (17, [.pointer (some ⟨rb, 0, none⟩), .string (bs x)], some 17, []) := by kernel_rfl
theorem rcps_s5 (rb : Nat) (x : List UInt8) (L : List (List UInt8)) (W1 : World) : Res.prune [4] [] (exec Try.prog (bodyOf Try.f20) 18 5 [⟨false, 0, []⟩] [.ops [1, 1, 1, 0] [3], .code [1, 1, 1, 1]] ⟨[(17, .bool (okS L (bs x))), (4, .bool false), (15, .pointer (some ⟨rb, 0, none⟩)), (16, .string (bs x))], [], [], W1.heap.size⟩) = some ⟨[], dupR [], [.code [1, 1, 1, 1]], ⟨[(4, .bool (okS L (bs x)))], [], [], W1.heap.size⟩⟩ := by kernel_rfl
theorem rcps_r6 (x : List UInt8) (L : List (List UInt8)) : resL Try.prog [] [] [(4, .bool (okS L (bs x)))] Try.f20.results.toList [] = some ([.bool (okS L (bs x))], dupR []) := by kernel_rfl
set_option maxRecDepth 100000 in
set_option maxHeartbeats 4000000 in
theorem rcopy_some (base gx rb : Nat) (L : List (List UInt8)) (i : Int) (hl : L.length ≤ 64) (hs : Srt L) (x : List UInt8) (ho : lookR L i = some x) (w : World) (hgx : gx < w.heap.size) (h : RefAt 49 9 w base gx rb L) :
    Calls Try.prog 20 #[.pointer (some ⟨rb, 0, none⟩), .int .i64 i] w (fun e w' => e = .returned (.bool (okS L (bs x))) ∧ RefAt 49 9 w' base gx rb (sendL L (bs x)) ∧ Kept (fun x => x = rb) w w') := by
  refine calls_of_holds (S := (fun _ => False)) (l := [.pointer (some ⟨rb, 0, none⟩), .int .i64 i]) (n := 18) Try.func20 (body_of (by kernel_rfl)) rfl (by simp) (MemOk.none w _) ?_
  refine holds_go _ _ (rcps_s1 i rb w) trivial ?_
  refine holds_callP (.tuple #[.string (bs x), .bool true]) (rcps_c2 i rb) trivial rfl (fun wx hm => by have h1 := rlook_ref base gx rb L i hl wx (h.kept hm.kept (fun _ _ _ h => h)); rw [ho] at h1; exact h1) fun z2 hz2 => ?_
  replace hz2 : w.heap.size ≤ z2 := hz2
  refine holds_go _ _ (rcps_s3 i rb x z2) ⟨rfl, trivial⟩ ?_
  refine holds_callW (w := w) (S' := (fun x => x = rb)) (Y := Nat) (fun _ => .bool (okS L (bs x))) (fun _ => []) (fun _ W_ => RefAt 49 9 W_ base gx rb (sendL L (bs x))) (fun _ => [(17, .bool (okS L (bs x))), (4, .bool false), (15, .pointer (some ⟨rb, 0, none⟩)), (16, .string (bs x))]) (rcps_c4 rb x) trivial (fun _ => rfl) (fun wx hm => ?_) (fun _ W1 hX1 hm1 => ?_)
  · refine (rsend_ref base gx rb L (bs x) hl hs wx (Nat.lt_of_lt_of_le hgx hm.kept.size) (h.kept hm.kept (fun _ _ _ h => h))).mono fun e w' ⟨h1, h2, h3⟩ => ?_
    exact ⟨0, h1, h2, hm.offN (S' := fun x => x = rb) (fun _ h => h.elim) h3 (fun x h => .inl h) (by simp)⟩
  refine holds_go _ _ (rcps_s5 rb x L W1) trivial ?_
  refine holds_ret [] (by kernel_rfl) (rcps_r6 x L) ?_
  intro wx hm
  exact ⟨rfl, (hX1.kept hm.kept (fun x _ _ => by rintro ⟨b, hb, hr, he⟩; simp at hb)), (MemOk.back2 hm1 hm).kept⟩

theorem rcpn_s1 (i : Int) (rb : Nat) (w : World) : Res.prune [0, 4, 8, 9] [] (exec Try.prog (bodyOf Try.f20) 18 11 [⟨false, 0, []⟩, ⟨false, 0, []⟩, ⟨false, 0, []⟩] [.code []] ⟨[(0, .pointer (some ⟨rb, 0, none⟩)), (1, .int .i64 i)], [], [], w.heap.size⟩) = some ⟨[], dupR [], [.ops [1, 0] [2, 3, 4, 5, 6, 7], .code [1, 1]], ⟨[(0, .pointer (some ⟨rb, 0, none⟩)), (4, .bool false), (8, .pointer (some ⟨rb, 0, none⟩)), (9, .int .i64 i)], [], [], w.heap.size⟩⟩ := by kernel_rfl
theorem rcpn_c2 (i : Int) (rb : Nat) : callAt Try.prog (opsOf (getCode (bodyOf Try.f20) [1, 0])) [(0, .pointer (some ⟨rb, 0, none⟩)), (4, .bool false), (8, .pointer (some ⟨rb, 0, none⟩)), (9, .int .i64 i)] 2 = some (23, [.pointer (some ⟨rb, 0, none⟩), .int .i64 i], some 10, []) := by kernel_rfl
theorem rcpn_s3 (i : Int) (rb : Nat) (z2 : Nat) : Res.prune [0, 4, 5] [] (exec Try.prog (bodyOf Try.f20) 18 20 [⟨false, 0, []⟩, ⟨false, 0, []⟩, ⟨false, 0, []⟩, ⟨false, 0, []⟩, ⟨false, 0, []⟩, ⟨false, 0, []⟩, ⟨false, 0, []⟩, ⟨true, 0, []⟩, ⟨false, 0, []⟩] [.ops [1, 0] [3, 4, 5, 6, 7], .code [1, 1]] ⟨[(10, .tuple #[.string ⟨#[]⟩, .bool false]), (0, .pointer (some ⟨rb, 0, none⟩)), (4, .bool false), (8, .pointer (some ⟨rb, 0, none⟩)), (9, .int .i64 i)], [], [], z2⟩) = some ⟨[true = true], dupR [], [.code [1, 1, 0, 1, 0, 1], .code [1, 1, 1]], ⟨[(0, .pointer (some ⟨rb, 0, none⟩)), (4, .bool false), (5, .string ⟨#[]⟩)], [], [], z2⟩⟩ := by kernel_rfl
theorem rcpn_r4 (rb : Nat) : resL Try.prog [] [] [(0, .pointer (some ⟨rb, 0, none⟩)), (4, .bool false), (5, .string ⟨#[]⟩)] Try.f20.results.toList [] = some ([.bool false], dupR []) := by kernel_rfl
set_option maxRecDepth 100000 in
set_option maxHeartbeats 4000000 in
theorem rcopy_none (base gx rb : Nat) (L : List (List UInt8)) (i : Int) (hl : L.length ≤ 64) (ho : lookR L i = none) (w : World) (h : RefAt 49 9 w base gx rb L) :
    Calls Try.prog 20 #[.pointer (some ⟨rb, 0, none⟩), .int .i64 i] w (RetK (.bool false) w) := by
  refine calls_of_holds (S := (fun _ => False)) (l := [.pointer (some ⟨rb, 0, none⟩), .int .i64 i]) (n := 18) Try.func20 (body_of (by kernel_rfl)) rfl (by simp) (MemOk.none w _) ?_
  refine holds_go _ _ (rcpn_s1 i rb w) trivial ?_
  refine holds_callP (.tuple #[.string ⟨#[]⟩, .bool false]) (rcpn_c2 i rb) trivial rfl (fun wx hm => by have h1 := rlook_ref base gx rb L i hl wx (h.kept hm.kept (fun _ _ _ h => h)); rw [ho] at h1; exact h1) fun z2 hz2 => ?_
  replace hz2 : w.heap.size ≤ z2 := hz2
  refine holds_go _ _ (rcpn_s3 i rb z2) ⟨rfl, trivial⟩ ?_
  refine holds_ret [] (by kernel_rfl) (rcpn_r4 rb) ?_
  intro wx hm
  exact ⟨rfl, hm.kept⟩

theorem rcopy_ref (base gx rb : Nat) (L : List (List UInt8)) (i : Int) (hl : L.length ≤ 64) (hs : Srt L) (w : World) (hgx : gx < w.heap.size) (h : RefAt 49 9 w base gx rb L) :
    Calls Try.prog 20 #[.pointer (some ⟨rb, 0, none⟩), .int .i64 i] w (fun e w' => e = .returned (.bool (copyB L i)) ∧ RefAt 49 9 w' base gx rb (copyL L i) ∧ Kept (fun x => x = rb) w w') := by
  unfold copyB copyL
  cases ho : lookR L i with
  | none => exact (rcopy_none base gx rb L i hl ho w h).mono fun e w' ⟨a1, a2⟩ => ⟨a1, h.kept a2 (fun _ _ _ h => h), a2.mono (fun _ _ h => h.elim)⟩
  | some x => exact rcopy_some base gx rb L i hl hs x ho w hgx h
theorem rdrs_s1 (i : Int) (rb : Nat) (w : World) : Res.prune [4, 8, 9] [] (exec Try.prog (bodyOf Try.f22) 14 11 [⟨false, 0, []⟩, ⟨false, 0, []⟩, ⟨false, 0, []⟩] [.code []] ⟨[(0, .pointer (some ⟨rb, 0, none⟩)), (1, .int .i64 i)], [], [], w.heap.size⟩) = some ⟨[], dupR [], [.ops [1, 0] [2, 3, 4, 5, 6, 7], .code [1, 1]], ⟨[(4, .bool false), (8, .pointer (some ⟨rb, 0, none⟩)), (9, .int .i64 i)], [], [], w.heap.size⟩⟩ := by kernel_rfl
theorem rdrs_c2 (i : Int) (rb : Nat) : callAt Try.prog (opsOf (getCode (bodyOf Try.f22) [1, 0])) [(4, .bool false), (8, .pointer (some ⟨rb, 0, none⟩)), (9, .int .i64 i)] 2 = some (18, [.pointer (some ⟨rb, 0, none⟩), .int .i64 i], some 10, []) := by kernel_rfl
theorem rdrs_s3 (i : Int) (rb : Nat) (x : List UInt8) (W1 : World) : Res.prune [4] [] (exec Try.prog (bodyOf Try.f22) 14 14 [⟨false, 0, []⟩, ⟨false, 0, []⟩, ⟨false, 0, []⟩, ⟨false, 0, []⟩, ⟨false, 0, []⟩, ⟨false, 0, []⟩, ⟨false, 0, []⟩] [.ops [1, 0] [3, 4, 5, 6, 7], .code [1, 1]] ⟨[(10, .tuple #[.string (bs x), .bool true]), (4, .bool false), (8, .pointer (some ⟨rb, 0, none⟩)), (9, .int .i64 i)], [], [], W1.heap.size⟩) = some ⟨[], dupR [], [.code [1, 1, 1]], ⟨[(4, .bool true)], [], [], W1.heap.size⟩⟩ := by kernel_rfl
theorem rdrs_r4 : resL Try.prog [] [] [(4, .bool true)] Try.f22.results.toList [] = some ([.bool true], dupR []) := by kernel_rfl
set_option maxRecDepth 100000 in
set_option maxHeartbeats 4000000 in
theorem rdrop_some (base gx rb : Nat) (L : List (List UInt8)) (i : Int) (hl : L.length ≤ 64) (x : List UInt8) (ho : lookR L i = some x) (w : World) (hgx : gx < w.heap.size) (h : RefAt 49 9 w base gx rb L) :
    Calls Try.prog 22 #[.pointer (some ⟨rb, 0, none⟩), .int .i64 i] w (fun e w' => e = .returned (.bool true) ∧ RefAt 49 9 w' base gx rb (takeL L i) ∧ Kept (fun x => x = rb) w w') := by
  refine calls_of_holds (S := (fun _ => False)) (l := [.pointer (some ⟨rb, 0, none⟩), .int .i64 i]) (n := 14) Try.func22 (body_of (by kernel_rfl)) rfl (by simp) (MemOk.none w _) ?_
  refine holds_go _ _ (rdrs_s1 i rb w) trivial ?_
  refine holds_callW (w := w) (S' := (fun x => x = rb)) (Y := Nat) (fun _ => .tuple #[.string (bs x), .bool true]) (fun _ => []) (fun _ W_ => RefAt 49 9 W_ base gx rb (takeL L i)) (fun _ => [(10, .tuple #[.string (bs x), .bool true]), (4, .bool false), (8, .pointer (some ⟨rb, 0, none⟩)), (9, .int .i64 i)]) (rdrs_c2 i rb) trivial (fun _ => rfl) (fun wx hm => ?_) (fun _ W1 hX1 hm1 => ?_)
  · refine (rtake_ref base gx rb L i hl wx (Nat.lt_of_lt_of_le hgx hm.kept.size) (h.kept hm.kept (fun _ _ _ h => h))).mono fun e w' ⟨h1, h2, h3⟩ => ?_
    rw [ho] at h1
    exact ⟨0, h1, h2, hm.offN (S' := fun x => x = rb) (fun _ h => h.elim) h3 (fun x h => .inl h) (by simp)⟩
  refine holds_go _ _ (rdrs_s3 i rb x W1) trivial ?_
  refine holds_ret [] (by kernel_rfl) (rdrs_r4) ?_
  intro wx hm
  exact ⟨rfl, (hX1.kept hm.kept (fun x _ _ => by rintro ⟨b, hb, hr, he⟩; simp at hb)), (MemOk.back2 hm1 hm).kept⟩

theorem rdrn_s1 (i : Int) (rb : Nat) (w : World) : Res.prune [4, 8, 9] [] (exec Try.prog (bodyOf Try.f22) 14 11 [⟨false, 0, []⟩, ⟨false, 0, []⟩, ⟨false, 0, []⟩] [.code []] ⟨[(0, .pointer (some ⟨rb, 0, none⟩)), (1, .int .i64 i)], [], [], w.heap.size⟩) = some ⟨[], dupR [], [.ops [1, 0] [2, 3, 4, 5, 6, 7], .code [1, 1]], ⟨[(4, .bool false), (8, .pointer (some ⟨rb, 0, none⟩)), (9, .int .i64 i)], [], [], w.heap.size⟩⟩ := by kernel_rfl
theorem rdrn_c2 (i : Int) (rb : Nat) : callAt Try.prog (opsOf (getCode (bodyOf Try.f22) [1, 0])) [(4, .bool false), (8, .pointer (some ⟨rb, 0, none⟩)), (9, .int .i64 i)] 2 = some (18, [.pointer (some ⟨rb, 0, none⟩), .int .i64 i], some 10, []) := by kernel_rfl
theorem rdrn_s3 (i : Int) (rb : Nat) (W1 : World) : Res.prune [4] [] (exec Try.prog (bodyOf Try.f22) 14 14 [⟨false, 0, []⟩, ⟨false, 0, []⟩, ⟨false, 0, []⟩, ⟨false, 0, []⟩, ⟨false, 0, []⟩, ⟨false, 0, []⟩, ⟨false, 0, []⟩] [.ops [1, 0] [3, 4, 5, 6, 7], .code [1, 1]] ⟨[(10, .tuple #[.string ⟨#[]⟩, .bool false]), (4, .bool false), (8, .pointer (some ⟨rb, 0, none⟩)), (9, .int .i64 i)], [], [], W1.heap.size⟩) = some ⟨[], dupR [], [.code [1, 1, 1]], ⟨[(4, .bool false)], [], [], W1.heap.size⟩⟩ := by kernel_rfl
theorem rdrn_r4 : resL Try.prog [] [] [(4, .bool false)] Try.f22.results.toList [] = some ([.bool false], dupR []) := by kernel_rfl
set_option maxRecDepth 100000 in
set_option maxHeartbeats 4000000 in
theorem rdrop_none (base gx rb : Nat) (L : List (List UInt8)) (i : Int) (hl : L.length ≤ 64) (ho : lookR L i = none) (w : World) (hgx : gx < w.heap.size) (h : RefAt 49 9 w base gx rb L) :
    Calls Try.prog 22 #[.pointer (some ⟨rb, 0, none⟩), .int .i64 i] w (fun e w' => e = .returned (.bool false) ∧ RefAt 49 9 w' base gx rb (takeL L i) ∧ Kept (fun x => x = rb) w w') := by
  refine calls_of_holds (S := (fun _ => False)) (l := [.pointer (some ⟨rb, 0, none⟩), .int .i64 i]) (n := 14) Try.func22 (body_of (by kernel_rfl)) rfl (by simp) (MemOk.none w _) ?_
  refine holds_go _ _ (rdrn_s1 i rb w) trivial ?_
  refine holds_callW (w := w) (S' := (fun x => x = rb)) (Y := Nat) (fun _ => .tuple #[.string ⟨#[]⟩, .bool false]) (fun _ => []) (fun _ W_ => RefAt 49 9 W_ base gx rb (takeL L i)) (fun _ => [(10, .tuple #[.string ⟨#[]⟩, .bool false]), (4, .bool false), (8, .pointer (some ⟨rb, 0, none⟩)), (9, .int .i64 i)]) (rdrn_c2 i rb) trivial (fun _ => rfl) (fun wx hm => ?_) (fun _ W1 hX1 hm1 => ?_)
  · refine (rtake_ref base gx rb L i hl wx (Nat.lt_of_lt_of_le hgx hm.kept.size) (h.kept hm.kept (fun _ _ _ h => h))).mono fun e w' ⟨h1, h2, h3⟩ => ?_
    rw [ho] at h1
    exact ⟨0, h1, h2, hm.offN (S' := fun x => x = rb) (fun _ h => h.elim) h3 (fun x h => .inl h) (by simp)⟩
  refine holds_go _ _ (rdrn_s3 i rb W1) trivial ?_
  refine holds_ret [] (by kernel_rfl) (rdrn_r4) ?_
  intro wx hm
  exact ⟨rfl, (hX1.kept hm.kept (fun x _ _ => by rintro ⟨b, hb, hr, he⟩; simp at hb)), (MemOk.back2 hm1 hm).kept⟩

theorem rdrop_ref (base gx rb : Nat) (L : List (List UInt8)) (i : Int) (hl : L.length ≤ 64) (w : World) (hgx : gx < w.heap.size) (h : RefAt 49 9 w base gx rb L) :
    Calls Try.prog 22 #[.pointer (some ⟨rb, 0, none⟩), .int .i64 i] w (fun e w' => e = .returned (.bool (lookR L i).isSome) ∧ RefAt 49 9 w' base gx rb (takeL L i) ∧ Kept (fun x => x = rb) w w') := by
  cases ho : lookR L i with
  | none => exact rdrop_none base gx rb L i hl ho w hgx h
  | some x => exact rdrop_some base gx rb L i hl x ho w hgx h
end Go.Proofs.Ythndmmondlpghaa
