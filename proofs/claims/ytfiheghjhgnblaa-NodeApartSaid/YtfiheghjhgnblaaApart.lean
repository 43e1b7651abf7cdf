/- NodeApart, walked. -/
import Derived.Test.YtfiheghjhgnblaaAwake10
namespace Go.Proofs.Ytfiheghjhgnblaa
open Go.RowKit

set_option maxRecDepth 100000 in
set_option maxHeartbeats 4000000 in
theorem pick10_n (c n v : Int) (h : pickZ c n = v) (hc : c < 0) (h1 : 1 ≤ n) (h2 : n ≤ 9223372036854775807) (h3 : -9223372036854775808 ≤ c ∧ c ≤ 9223372036854775807) (w : World) :
    Calls Try.prog 14 #[.int .i64 c, .int .i64 n] w (RetK (.int .i64 v) w) := by
  refine calls_of_holds (S := (fun _ => False)) (l := [.int .i64 c, .int .i64 n]) (n := 13) Try.func14 (body_of (by kernel_rfl)) rfl (by simp) (MemOk.none w _) ?_
  refine hgo 27 [oh0, oh0, oh0, oh1, oh0, oh2, oh2, oh0, oh0, oh0, oh2, oh0] [4] [(decide ((c : Int) < 0)) = true, inR .i64 ((c + 1)), inR .i64 ((0 - (c + 1))), (0 : Int) ≤ (0 - (c + 1)) ∧ (0 : Int) < n] [] [.code [1, 1, 1]] ⟨[(4, .int .i64 ((0 - (c + 1)) % n))], [], [], w.heap.size⟩ ⟨decide_eq_true hc, in64 (by omega), in64 (by omega), ⟨by omega, by omega⟩, trivial⟩ ?_
  refine hrt [] [.int .i64 ((0 - (c + 1)) % n)] [] ?_
  intro wx hm
  refine ⟨?_, hm.kept⟩
  subst h
  simp only [oneOf, pickZ, if_pos hc]
  congr 3
  omega

set_option maxRecDepth 100000 in
set_option maxHeartbeats 4000000 in
theorem pick10_p (c n v : Int) (h : pickZ c n = v) (hc : ¬ c < 0) (h1 : 1 ≤ n) (h2 : n ≤ 9223372036854775807) (h3 : -9223372036854775808 ≤ c ∧ c ≤ 9223372036854775807) (w : World) :
    Calls Try.prog 14 #[.int .i64 c, .int .i64 n] w (RetK (.int .i64 v) w) := by
  refine calls_of_holds (S := (fun _ => False)) (l := [.int .i64 c, .int .i64 n]) (n := 13) Try.func14 (body_of (by kernel_rfl)) rfl (by simp) (MemOk.none w _) ?_
  refine hgo 22 [oh0, oh0, oh0, oh0, oh0, oh0, oh2, oh0] [4] [(decide ((c : Int) < 0)) = false, (0 : Int) ≤ c ∧ (0 : Int) < n] [] [.code [1, 1, 1]] ⟨[(4, .int .i64 (c % n))], [], [], w.heap.size⟩ ⟨decide_eq_false (by omega), ⟨by omega, by omega⟩, trivial⟩ ?_
  refine hrt [] [.int .i64 (c % n)] [] ?_
  intro wx hm
  refine ⟨?_, hm.kept⟩
  subst h
  simp only [oneOf, pickZ, if_neg hc]

theorem pick10 (c n v : Int) (h : pickZ c n = v) (w : World) (h1 : 1 ≤ n) (h2 : n ≤ 9223372036854775807) (h3 : -9223372036854775808 ≤ c ∧ c ≤ 9223372036854775807) : Calls Try.prog 14 #[.int .i64 c, .int .i64 n] w (RetK (.int .i64 v) w) := by
  by_cases hc : c < 0
  · exact pick10_n c n v h hc h1 h2 h3 w
  · exact pick10_p c n v h hc h1 h2 h3 w
def apr_v1 (acts : Nat → Act10) (i : Nat) : List Value := [.int .i64 ((acts i).ask.kind), .int .i64 ((acts i).ask.stripe), .int .i64 ((acts i).ask.epoch), .int .i64 ((acts i).ask.seq), .int .i64 ((acts i).ask.mask), .int .i64 ((acts i).ask.node), .int .i64 ((acts i).ask.oe), .int .i64 ((acts i).ask.os), .string ((acts i).ask.block)]
def apr_v2 (acts : Nat → Act10) (i : Nat) : List Value := [.int .i64 ((acts i).what), .int .i64 ((acts i).stripe), .int .i64 ((acts i).n), .int .i64 ((acts i).ask.kind), .int .i64 ((acts i).ask.stripe), .int .i64 ((acts i).ask.epoch), .int .i64 ((acts i).ask.seq), .int .i64 ((acts i).ask.mask), .int .i64 ((acts i).ask.node), .int .i64 ((acts i).ask.oe), .int .i64 ((acts i).ask.os), .string ((acts i).ask.block), .string ((acts i).text), .slice (acts i).ka ((acts i).kn) ((acts i).kc)]
def apr_v3 (q : AskM) : List Value := [.int .i64 q.kind, .int .i64 q.stripe, .int .i64 q.epoch, .int .i64 q.seq, .int .i64 q.mask, .int .i64 q.node, .int .i64 q.oe, .int .i64 q.os, .string q.block]
def apr_v4 (B : Int) (q : AskM) : List Value := [.int .i64 q.kind, .int .i64 B, .int .i64 q.epoch, .int .i64 q.seq, .int .i64 q.mask, .int .i64 q.node, .int .i64 q.oe, .int .i64 q.os, .string q.block]
def apr_v5 (s : SayR) : List Value := [.int .i64 s.st, .int .i64 s.ep, .int .i64 s.ou, .bool s.rc.used, .int .i64 s.rc.fence, .int .i64 s.rc.de, .int .i64 s.rc.ds, .string s.rc.block, .bool s.rc.op, .int .i64 s.rc.ie, .int .i64 s.rc.is, .int .i64 s.rc.mask, .string s.rc.staged]
def apr_v6 (r : RecM) : List Value := [.bool r.used, .int .i64 r.fence, .int .i64 r.de, .int .i64 r.ds, .string r.block, .bool r.op, .int .i64 r.ie, .int .i64 r.is, .int .i64 r.mask, .string r.staged]
def apr_v7 : List Value := [.bool true, .int .i64 0, .int .i64 0, .int .i64 0, .string zeros16, .bool false, .int .i64 0, .int .i64 0, .int .i64 0, .string ⟨#[]⟩]
def apr_v8 : List Value := [.int .u8 0, .int .u8 0, .int .u8 0, .int .u8 0, .int .u8 0, .int .u8 0, .int .u8 0, .int .u8 0, .int .u8 0, .int .u8 0, .int .u8 0, .int .u8 0, .int .u8 0, .int .u8 0, .int .u8 0, .int .u8 0]
def apr_n1 : List Nat := [1, 1, 1, 1, 1, 1, 1, 0, 1, 0, 0, 1, 1]
def apr_n2 : List Nat := [1, 1, 1, 1, 1, 1, 1, 1, 0]
def apr_n3 : List Nat := [1, 1, 1, 1, 1, 1, 1, 1, 1, 1, 1, 1]
def apr_n4 : List Nat := [1, 1, 1, 1, 1, 1, 1, 1, 1]
def apr_n5 : List Nat := [1, 1, 1, 1, 1, 1, 1, 1]
def apr_n6 : Array Bool := #[true, false, false, false, false, false, false, false, false, false, false, false, false, false, false, false, false, false, false, false]
def apr_n7 : Array Bool := #[true, true, false, false, false, false, false, false, false, false, false, false, false, false, false, false, false, false, false, false]
def apr_n8 : Array Bool := #[true, true, true, false, false, false, false, false, false, false, false, false, false, false, false, false, false, false, false, false]
def apr_n9 : Array Bool := #[true, true, true, true, false, false, false, false, false, false, false, false, false, false, false, false, false, false, false, false]
def apr_n10 : Array Bool := #[true, true, true, true, true, false, false, false, false, false, false, false, false, false, false, false, false, false, false, false]
def apr_n11 : Array Bool := #[true, true, true, true, true, true, false, false, false, false, false, false, false, false, false, false, false, false, false, false]
def apr_n12 : Array Bool := #[true, true, true, true, true, true, true, false, false, false, false, false, false, false, false, false, false, false, false, false]
def apr_n13 : Array Bool := #[true, true, true, true, true, true, true, true, false, false, false, false, false, false, false, false, false, false, false, false]
def apr_n14 : Array Bool := #[true, true, true, true, true, true, true, true, false, true, false, false, false, false, false, false, false, false, false, false]
def apr_n15 : Array Bool := #[true, true, true, true, true, true, true, true, true, false, false, false, false, false, false, false, false, false, false, false]
def apr_n16 : Array Bool := #[true, true, true, true, true, true, true, true, true, true, false, false, false, false, false, false, false, false, false, false]
def apr_n17 : Array Bool := #[true, true, true, true, true, true, true, true, true, true, true, false, false, false, false, false, false, false, false, false]
def apr_n18 : Array Bool := #[true, true, true, true, true, true, true, true, true, true, true, true, false, false, false, false, false, false, false, false]
def apr_n19 : Array Bool := #[true, true, true, true, true, true, true, true, true, true, true, true, true, false, false, false, false, false, false, false]
def apr_n20 : Array Bool := #[true, true, true, true, true, true, true, true, true, true, true, true, true, false, true, false, false, false, false, false]
def apr_n21 : Array Bool := #[true, true, true, true, true, true, true, true, true, true, true, true, true, false, true, true, false, false, false, false]
def apr_n22 : Array Bool := #[true, true, true, true, true, true, true, true, true, true, true, true, true, false, true, true, true, false, false, false]
def apr_n23 : Array Bool := #[true, true, true, true, true, true, true, true, true, true, true, true, true, true, false, false, false, false, false, false]
def apr_n24 : Array Bool := #[true, true, true, true, true, true, true, true, true, true, true, true, true, true, true, false, false, false, false, false]
def apr_n25 : Array Bool := #[true, true, true, true, true, true, true, true, true, true, true, true, true, true, true, true, false, false, false, false]
def apr_n26 : Array Bool := #[true, true, true, true, true, true, true, true, true, true, true, true, true, true, true, true, true, false, false, false]
def apr_n27 : Array Bool := #[true, true, true, true, true, true, true, true, true, true, true, true, true, true, true, true, true, true, false, false]
def apr_n28 : Array Bool := #[true, true, true, true, true, true, true, true, true, true, true, true, true, true, true, true, true, true, true, false]
def apr_n29 : Array Bool := #[true, true, true, true, true, true, true, true, true, true, true, true, true, true, true, true, true, true, true, true]
@[simp] def apr_b1 (pb1 : Nat) (pb2 : Nat) (sb1 : Nat) (sb2 : Nat) (nb1 : Nat) (nb2 : Nat) : List Bk := [⟨sb1, 82, false, [(pt pb1 0), .int .i64 2]⟩, ⟨nb1, 69, false, [(pt sb1 0), .int .i64 2]⟩, ⟨sb2, 82, false, [(pt pb2 0), .int .i64 2]⟩, ⟨nb2, 69, false, [(pt sb2 0), .int .i64 2]⟩]
@[simp] def apr_b2 (pb1 : Nat) (sb1 : Nat) (nb1 : Nat) : List Bk := [⟨sb1, 82, false, [(pt pb1 0), .int .i64 2]⟩, ⟨nb1, 69, false, [(pt sb1 0), .int .i64 2]⟩]
@[simp] def apr_b3 (B : Int) (q : AskM) (pb1 : Nat) (pb2 : Nat) (sb1 : Nat) (sb2 : Nat) (nb1 : Nat) (nb2 : Nat) (z19 : Nat) : List Bk := [⟨sb1, 82, false, [(pt pb1 0), .int .i64 2]⟩, ⟨nb1, 69, false, [(pt sb1 0), .int .i64 2]⟩, ⟨sb2, 82, false, [(pt pb2 0), .int .i64 2]⟩, ⟨nb2, 69, false, [(pt sb2 0), .int .i64 2]⟩, ⟨z19, 35, true, (apr_v4 B q)⟩]
@[simp] def apr_b4 (B : Int) (q : AskM) (s : SayR) (pb1 : Nat) (pb2 : Nat) (sb1 : Nat) (sb2 : Nat) (nb1 : Nat) (nb2 : Nat) (W21 : World) (z19 : Nat) : List Bk := [⟨sb1, 82, false, [(pt pb1 0), .int .i64 2]⟩, ⟨nb1, 69, false, [(pt sb1 0), .int .i64 2]⟩, ⟨sb2, 82, false, [(pt pb2 0), .int .i64 2]⟩, ⟨nb2, 69, false, [(pt sb2 0), .int .i64 2]⟩, ⟨z19, 35, true, (apr_v4 B q)⟩, ⟨W21.heap.size, 45, true, (apr_v5 s)⟩]
@[simp] def apr_b5 (r : RecM) (pb1 : Nat) (pb2 : Nat) (sb1 : Nat) (sb2 : Nat) (nb1 : Nat) (nb2 : Nat) (z30 : Nat) (z32 : Nat) (z34 : Nat) : List Bk := [⟨sb1, 82, false, [(pt pb1 0), .int .i64 2]⟩, ⟨nb1, 69, false, [(pt sb1 0), .int .i64 2]⟩, ⟨sb2, 82, false, [(pt pb2 0), .int .i64 2]⟩, ⟨nb2, 69, false, [(pt sb2 0), .int .i64 2]⟩, ⟨z30, 43, true, (apr_v6 r)⟩, ⟨z32, 43, true, (apr_v6 r)⟩, ⟨z34, 43, true, (apr_v7)⟩]
@[simp] def apr_b6 (r : RecM) (pb1 : Nat) (pb2 : Nat) (sb1 : Nat) (sb2 : Nat) (nb1 : Nat) (nb2 : Nat) (z30 : Nat) (z32 : Nat) (z34 : Nat) : List Bk := [⟨sb1, 82, false, [(pt pb1 0), .int .i64 2]⟩, ⟨nb1, 69, false, [(pt sb1 0), .int .i64 2]⟩, ⟨sb2, 82, false, [(pt pb2 0), .int .i64 2]⟩, ⟨nb2, 69, false, [(pt sb2 0), .int .i64 2]⟩, ⟨z30, 43, true, (apr_v6 r)⟩, ⟨z32, 43, true, (apr_v6 r)⟩, ⟨z34, 43, true, (apr_v7)⟩, ⟨z34 + 1, 5, true, (apr_v8)⟩]
def ApartI (A : Option Addr) (n : Nat) (cp : Nat) (lb1 : Nat) (lb2 : Nat) (mb1 : Nat) (mb2 : Nat) (pb1 : Nat) (pb2 : Nat) (sb1 : Nat) (sb2 : Nat) (nb1 : Nat) (nb2 : Nat)  (m : Nat) (st : St) (W0 : World) : Prop :=
  ∃ (i : Nat) (M : Pl) (N : Pl) (z : Nat), m + i = 60 ∧ OnPl lb1 mb1 2 (4 + 2 * (i : Int)) M ∧ OnPl lb2 mb2 2 (4 + 2 * (i : Int)) N ∧ gotM M 0 = gotM N 0 ∧ gotM N 1 = fmtR ∧ PlatAt 64 80 W0 pb1 M ∧ PlatAt 64 80 W0 pb2 N ∧ st = ⟨[(0, .slice A n cp), (2, .bool false), (8, (pt nb1 0)), (10, (pt nb2 0)), (12, .int .i64 (i : Int))], (apr_b1 pb1 pb2 sb1 sb2 nb1 nb2), [], z⟩
def apr_36G (w : World) (pb1 : Nat) (pb2 : Nat) (sb1 : Nat) (sb2 : Nat) (nb1 : Nat) (nb2 : Nat) (W25 : World) (m : Nat) (ls : Array Bool) (st : St) : Prop := Holds [] Try.prog (bodyOf Try.f4) 143 W25 (Turned (apr_b1 pb1 pb2 sb1 sb2 nb1 nb2)) (bodyPost Try.prog Try.f4 (RetK (.bool true) w)) (.any [1, 1, 1, 1, 1, 1, 1, 1, 1, 1, 1, 0] m ls :: [.code apr_n3]) st
set_option maxRecDepth 100000 in
set_option maxHeartbeats 4000000 in
theorem apart_any (A : Option Addr) (n cp : Nat) (acts : Nat → Act10) (w : World) (HF : Acts10At w A n acts) :
    Calls Try.prog 4 #[.slice A n cp] w (RetK (.bool true) w) := by
  refine calls_of_holds (S := (fun _ => False)) (l := [.slice A n cp]) (n := 143) Try.func4 (body_of (by kernel_rfl)) rfl (by simp) (MemOk.none w _) ?_
  refine hgo 9 [oh0] [0, 2] [] [] [.ops [1, 0] [0, 1], .code [1, 1]] ⟨[(0, .slice A n cp), (2, .bool false)], [], [], w.heap.size⟩ trivial ?_
  refine hcp (.bool true) 7 [] (some 24) [] trivial rfl (fun wx hm => awake10P wx) fun z2 hz2 => ?_
  replace hz2 : w.heap.size ≤ z2 := hz2
  refine hgo 7 [oh0] [0, 2, 3] [] [] [.ops [1, 1, 0] [0, 1, 2, 3, 4, 5], .code [1, 1, 1]] ⟨[(0, .slice A n cp), (2, .bool false), (3, .bool true)], [], [], z2⟩ trivial ?_
  refine holds_callW (w := w) (S' := (fun _ => False)) (Y := Nat × Nat × Nat) (fun (⟨lb1, mb1, pb1⟩ : Nat × Nat × Nat) => .tuple #[(pt pb1 0), .int .i64 0]) (fun (⟨lb1, mb1, pb1⟩ : Nat × Nat × Nat) => []) (fun (⟨lb1, mb1, pb1⟩ : Nat × Nat × Nat) W_ => (z2 ≤ lb1 ∧ lb1 < mb1 ∧ mb1 < pb1) ∧ PlatAt 64 80 W_ pb1 (newPl lb1 mb1 2)) (fun (⟨lb1, mb1, pb1⟩ : Nat × Nat × Nat) => [(26, .tuple #[(pt pb1 0), .int .i64 0]), (0, .slice A n cp), (2, .bool false), (3, .bool true)]) (show _ = some (8, [.int .i64 2], some 26, []) by kernel_rfl) trivial (fun _ => rfl) (fun wx hm => ?_) (fun y W1 hX1 hm1 => ?_)
  · refine (new_pl 2 (by omega) wx).mono fun e w' ⟨lb', mb', pb', he, h1, h2, h3, h4, h5⟩ => ?_
    have hs : wx.heap.size = z2 := hm.size
    exact ⟨(lb', mb', pb'), he, ⟨⟨by omega, h2, h3⟩, h4⟩, (hm.same h5).2⟩
  obtain ⟨lb1, mb1, pb1⟩ := y
  obtain ⟨hz_pb1, hX1⟩ := hX1
  have hA_pb1 := on_new lb1 mb1 2
  have hP1pb1 := hX1
  have hl_hP1pb1 := on_lt hA_pb1 hP1pb1
  have hnT : ∀ xx, (xx = pb1 ∨ xx = lb1 ∨ xx = mb1) → ¬ Turned [] xx := by
    rintro xx hx2 ⟨b, hb, hr, he⟩
    simp at hb
  refine hgo 11 [oh0, oh0, oh0, oh0, oh0] [0, 2, 3, 4] [] [] [.ops [1, 1, 1, 0] [0, 1, 2, 3, 4, 5], .code [1, 1, 1, 1]] ⟨[(0, .slice A n cp), (2, .bool false), (3, .bool true), (4, (pt pb1 0))], [], [], W1.heap.size⟩ trivial ?_
  refine holds_callW (w := w) (S' := (fun _ => False)) (Y := Nat × Nat × Nat) (fun (⟨lb2, mb2, pb2⟩ : Nat × Nat × Nat) => .tuple #[(pt pb2 0), .int .i64 0]) (fun (⟨lb2, mb2, pb2⟩ : Nat × Nat × Nat) => []) (fun (⟨lb2, mb2, pb2⟩ : Nat × Nat × Nat) W_ => (W1.heap.size ≤ lb2 ∧ lb2 < mb2 ∧ mb2 < pb2) ∧ PlatAt 64 80 W_ pb2 (newPl lb2 mb2 2) ∧ PlatAt 64 80 W_ pb1 (newPl lb1 mb1 2)) (fun (⟨lb2, mb2, pb2⟩ : Nat × Nat × Nat) => [(30, .tuple #[(pt pb2 0), .int .i64 0]), (0, .slice A n cp), (2, .bool false), (3, .bool true), (4, (pt pb1 0))]) (show _ = some (8, [.int .i64 2], some 30, []) by kernel_rfl) trivial (fun _ => rfl) (fun wx hm => ?_) (fun y W2 hX2 hm2 => ?_)
  · refine (new_pl 2 (by omega) wx).mono fun e w' ⟨lb', mb', pb', he, h1, h2, h3, h4, h5⟩ => ?_
    have hs : wx.heap.size = W1.heap.size := hm.size
    exact ⟨(lb', mb', pb'), he, ⟨⟨by omega, h2, h3⟩, h4, (hP1pb1.kept hm.kept (fun xx hx => hnT xx (by have := on_mine hA_pb1 hx; omega))).kept h5 (fun _ _ h => h)⟩, ((MemOk.back2 hm1 hm).same h5).2⟩
  clear hnT
  obtain ⟨lb2, mb2, pb2⟩ := y
  obtain ⟨hz_pb2, hX2⟩ := hX2
  have hA_pb2 := on_new lb2 mb2 2
  obtain ⟨hP2pb2, hP2pb1⟩ := hX2
  have hl_hP2pb2 := on_lt hA_pb2 hP2pb2
  have hl_hP2pb1 := on_lt hA_pb1 hP2pb1
  have hnT : ∀ xx, (xx = pb2 ∨ xx = lb2 ∨ xx = mb2 ∨ xx = pb1 ∨ xx = lb1 ∨ xx = mb1) → ¬ Turned [] xx := by
    rintro xx hx2 ⟨b, hb, hr, he⟩
    simp at hb
  refine hgo 12 [oh0, oh0, oh0, oh0, oh0, oh0] [0, 2, 3, 6, 34] [] [] [.ops [1, 1, 1, 1, 0] [1, 2, 3, 4, 5, 6], .code [1, 1, 1, 1, 1]] ⟨[(0, .slice A n cp), (2, .bool false), (3, .bool true), (6, (pt pb2 0)), (34, (pt pb1 0))], [], [], W2.heap.size⟩ trivial ?_
  refine holds_callW (w := w) (S' := (fun _ => False)) (Y := Nat × Nat) (fun (⟨sb1, nb1⟩ : Nat × Nat) => .tuple #[(pt nb1 0), .int .i64 0]) (fun (⟨sb1, nb1⟩ : Nat × Nat) => (apr_b2 pb1 sb1 nb1)) (fun (⟨sb1, nb1⟩ : Nat × Nat) W_ => (W2.heap.size ≤ sb1 ∧ sb1 < nb1) ∧ PlatAt 64 80 W_ pb2 (newPl lb2 mb2 2) ∧ PlatAt 64 80 W_ pb1 (newPl lb1 mb1 2)) (fun (⟨sb1, nb1⟩ : Nat × Nat) => [(35, .tuple #[(pt nb1 0), .int .i64 0]), (0, .slice A n cp), (2, .bool false), (3, .bool true), (6, (pt pb2 0)), (34, (pt pb1 0))]) (show _ = some (9, [(pt pb1 0), .int .i64 2], some 35, []) by kernel_rfl) trivial (fun _ => rfl) (fun wx hm => ?_) (fun y W3 hX3 hm3 => ?_)
  · refine (nodeNew_st (newPl lb1 mb1 2) pb1 2 (by omega) (by rw [hA_pb1.n]; omega) wx (hP2pb1.kept hm.kept (fun xx hx => hnT xx (by have := on_mine hA_pb1 hx; omega)))).mono fun e w' ⟨sb', nb', he, h1, h2, h3, h4, h5⟩ => ?_
    have hs : wx.heap.size = W2.heap.size := hm.size
    exact ⟨(sb', nb'), he, ⟨⟨by omega, h2⟩, (hP2pb2.kept hm.kept (fun xx hx => hnT xx (by have := on_mine hA_pb2 hx; omega))).kept h5 (fun _ _ h => h), (hP2pb1.kept hm.kept (fun xx hx => hnT xx (by have := on_mine hA_pb1 hx; omega))).kept h5 (fun _ _ h => h)⟩, ((MemOk.back2 hm2 hm).add h5 [⟨sb', 82, false, _⟩, ⟨nb', 69, false, _⟩] ⟨h3, h4, trivial⟩ (by simp; omega) (by simp; omega)).2⟩
  clear hnT
  obtain ⟨sb1, nb1⟩ := y
  obtain ⟨hz_nb1, hX3⟩ := hX3
  obtain ⟨hP3pb2, hP3pb1⟩ := hX3
  have hl_hP3pb2 := on_lt hA_pb2 hP3pb2
  have hl_hP3pb1 := on_lt hA_pb1 hP3pb1
  have hgb3_0 : sb1 < W3.heap.size := (hm3.at_ 0 rfl).lt
  have hgb3_1 : nb1 < W3.heap.size := (hm3.at_ 1 rfl).lt
  have hnT : ∀ xx, (xx = pb2 ∨ xx = lb2 ∨ xx = mb2 ∨ xx = pb1 ∨ xx = lb1 ∨ xx = mb1) → ¬ Turned (apr_b2 pb1 sb1 nb1) xx := by
    rintro xx hx2 ⟨b, hb, hr, he⟩
    simp at hb
    rcases hb with rfl | rfl <;> simp at he hr <;> omega
  refine hgo 12 [oh0, oh0, oh0, oh0, oh0, oh0] [0, 2, 3, 8, 39] [] [] [.ops [1, 1, 1, 1, 1, 0] [1, 2, 3, 4, 5, 6], .code [1, 1, 1, 1, 1, 1]] ⟨[(0, .slice A n cp), (2, .bool false), (3, .bool true), (8, (pt nb1 0)), (39, (pt pb2 0))], (apr_b2 pb1 sb1 nb1), [], W3.heap.size⟩ trivial ?_
  refine holds_callW (w := w) (S' := (fun _ => False)) (Y := Nat × Nat) (fun (⟨sb2, nb2⟩ : Nat × Nat) => .tuple #[(pt nb2 0), .int .i64 0]) (fun (⟨sb2, nb2⟩ : Nat × Nat) => (apr_b1 pb1 pb2 sb1 sb2 nb1 nb2)) (fun (⟨sb2, nb2⟩ : Nat × Nat) W_ => (W3.heap.size ≤ sb2 ∧ sb2 < nb2) ∧ PlatAt 64 80 W_ pb2 (newPl lb2 mb2 2) ∧ PlatAt 64 80 W_ pb1 (newPl lb1 mb1 2)) (fun (⟨sb2, nb2⟩ : Nat × Nat) => [(40, .tuple #[(pt nb2 0), .int .i64 0]), (0, .slice A n cp), (2, .bool false), (3, .bool true), (8, (pt nb1 0)), (39, (pt pb2 0))]) (show _ = some (9, [(pt pb2 0), .int .i64 2], some 40, []) by kernel_rfl) trivial (fun _ => rfl) (fun wx hm => ?_) (fun y W4 hX4 hm4 => ?_)
  · refine (nodeNew_st (newPl lb2 mb2 2) pb2 2 (by omega) (by rw [hA_pb2.n]; omega) wx (hP3pb2.kept hm.kept (fun xx hx => hnT xx (by have := on_mine hA_pb2 hx; omega)))).mono fun e w' ⟨sb', nb', he, h1, h2, h3, h4, h5⟩ => ?_
    have hs : wx.heap.size = W3.heap.size := hm.size
    exact ⟨(sb', nb'), he, ⟨⟨by omega, h2⟩, (hP3pb2.kept hm.kept (fun xx hx => hnT xx (by have := on_mine hA_pb2 hx; omega))).kept h5 (fun _ _ h => h), (hP3pb1.kept hm.kept (fun xx hx => hnT xx (by have := on_mine hA_pb1 hx; omega))).kept h5 (fun _ _ h => h)⟩, ((MemOk.back2 hm3 hm).add h5 [⟨sb', 82, false, _⟩, ⟨nb', 69, false, _⟩] ⟨h3, h4, trivial⟩ (by simp; omega) (by simp; omega)).2⟩
  clear hnT
  obtain ⟨sb2, nb2⟩ := y
  obtain ⟨hz_nb2, hX4⟩ := hX4
  obtain ⟨hP4pb2, hP4pb1⟩ := hX4
  have hl_hP4pb2 := on_lt hA_pb2 hP4pb2
  have hl_hP4pb1 := on_lt hA_pb1 hP4pb1
  have hgb4_0 : sb1 < W4.heap.size := (hm4.at_ 0 rfl).lt
  have hgb4_1 : nb1 < W4.heap.size := (hm4.at_ 1 rfl).lt
  have hgb4_2 : sb2 < W4.heap.size := (hm4.at_ 2 rfl).lt
  have hgb4_3 : nb2 < W4.heap.size := (hm4.at_ 3 rfl).lt
  have hnT : ∀ xx, (xx = pb2 ∨ xx = lb2 ∨ xx = mb2 ∨ xx = pb1 ∨ xx = lb1 ∨ xx = mb1) → ¬ Turned (apr_b1 pb1 pb2 sb1 sb2 nb1 nb2) xx := by
    rintro xx hx2 ⟨b, hb, hr, he⟩
    simp at hb
    rcases hb with rfl | rfl | rfl | rfl <;> simp at he hr <;> omega
  refine hgo 24 [oh0, oh0, oh0, oh0, oh0, oh0, oh0, oh0, oh0, oh0, ⟨false, 3, []⟩, oh0, oh0, oh0, ⟨false, 3, []⟩, oh0, oh0] [0, 2, 8, 10, 53, 54] [false = false, false = false, false = false, false = false, false = false, false = false, false = false] [] [.ops [1, 1, 1, 1, 1, 1, 0, 0] [12, 13, 14, 15, 16, 17, 18, 19], .code [1, 1, 1, 1, 1, 1, 0, 1], .code [1, 1, 1, 1, 1, 1, 1]] ⟨[(0, .slice A n cp), (2, .bool false), (8, (pt nb1 0)), (10, (pt nb2 0)), (53, .bool false), (54, (pt nb1 0))], (apr_b1 pb1 pb2 sb1 sb2 nb1 nb2), [], W4.heap.size⟩ ⟨rfl, rfl, rfl, rfl, rfl, rfl, rfl, trivial⟩ ?_
  obtain ⟨hA_f1, hK_f1, hG_f1⟩ := on_fmt hA_pb1 hP4pb1.ok (by omega) 2 (by omega)
  have hnB : ∀ b ∈ ((apr_b1 pb1 pb2 sb1 sb2 nb1 nb2) : List Bk), ¬ (b.g = pb2 ∨ b.g = lb2 ∨ b.g = mb2 ∨ b.g = pb1 ∨ b.g = lb1 ∨ b.g = mb1) := by
    intro b hb hx2
    simp at hb
    rcases hb with rfl | rfl | rfl | rfl <;> simp at hx2 <;> omega
  refine holds_callW (w := w) (S' := (fun _ => False)) (Y := Nat) (fun _ => .int .i64 0) (fun _ => (apr_b1 pb1 pb2 sb1 sb2 nb1 nb2)) (fun _ W_ => PlatAt 64 80 W_ pb2 (newPl lb2 mb2 2) ∧ PlatAt 64 80 W_ pb1 (fmtPl (newPl lb1 mb1 2) 2)) (fun _ => [(55, .int .i64 0), (0, .slice A n cp), (2, .bool false), (8, (pt nb1 0)), (10, (pt nb2 0)), (53, .bool false), (54, (pt nb1 0))]) (show _ = some (10, [(pt nb1 0)], some 55, [false = false]) by kernel_rfl) ⟨rfl, trivial⟩ (fun _ => rfl) (fun wx hm => ?_) (fun _ W5 hX5 hm5 => ?_)
  · refine (nodeFormat_pl (newPl lb1 mb1 2) pb1 sb1 nb1 2 lb1 mb1 0 (by omega) hA_pb1 (by omega) (fun h => by have := on_mine hA_pb1 h; omega) (fun h => by have := on_mine hA_pb1 h; omega) (by omega) wx (hP4pb1.kept hm.kept (fun xx hx => hnT xx (by have := on_mine hA_pb1 hx; omega))) (hm.at_ 0 rfl) (hm.at_ 1 rfl)).mono fun e w' ⟨h1, h2, h3⟩ => ?_
    exact ⟨0, h1, ⟨(hP4pb2.kept hm.kept (fun xx hx => hnT xx (by have := on_mine hA_pb2 hx; omega))).kept h3 (fun x hx e => by have h8 := on_mine hA_pb2 hx; have h9 := on_mine hA_pb1 e; omega), h2⟩, (MemOk.back2 hm4 hm).off (fun _ h => h) h3 (fun x h => .inr (by have := on_mine hA_pb1 h; omega)) (fun b hb h => hnB b hb (by have := on_mine hA_pb1 h; omega))⟩
  clear hnT hnB
  obtain ⟨hP5pb2, hP5pb1⟩ := hX5
  have hl_hP5pb2 := on_lt hA_pb2 hP5pb2
  have hl_hP5pb1 := on_lt hA_f1 hP5pb1
  have hgb5_0 : sb1 < W5.heap.size := (hm5.at_ 0 rfl).lt
  have hgb5_1 : nb1 < W5.heap.size := (hm5.at_ 1 rfl).lt
  have hgb5_2 : sb2 < W5.heap.size := (hm5.at_ 2 rfl).lt
  have hgb5_3 : nb2 < W5.heap.size := (hm5.at_ 3 rfl).lt
  have hnT : ∀ xx, (xx = pb2 ∨ xx = lb2 ∨ xx = mb2 ∨ xx = pb1 ∨ xx = lb1 ∨ xx = mb1) → ¬ Turned (apr_b1 pb1 pb2 sb1 sb2 nb1 nb2) xx := by
    rintro xx hx2 ⟨b, hb, hr, he⟩
    simp at hb
    rcases hb with rfl | rfl | rfl | rfl <;> simp at he hr <;> omega
  refine hgo 7 [oh0, ⟨false, 3, []⟩, oh0, oh0] [0, 2, 8, 10, 58, 59] [false = false, false = false, false = false] [] [.ops [1, 1, 1, 1, 1, 1, 0, 0] [17, 18, 19], .code [1, 1, 1, 1, 1, 1, 0, 1], .code [1, 1, 1, 1, 1, 1, 1]] ⟨[(0, .slice A n cp), (2, .bool false), (8, (pt nb1 0)), (10, (pt nb2 0)), (58, .bool false), (59, (pt nb2 0))], (apr_b1 pb1 pb2 sb1 sb2 nb1 nb2), [], W5.heap.size⟩ ⟨rfl, rfl, rfl, trivial⟩ ?_
  obtain ⟨hA_f2, hK_f2, hG_f2⟩ := on_fmt hA_pb2 hP5pb2.ok (by omega) 2 (by omega)
  have hnB : ∀ b ∈ ((apr_b1 pb1 pb2 sb1 sb2 nb1 nb2) : List Bk), ¬ (b.g = pb2 ∨ b.g = lb2 ∨ b.g = mb2 ∨ b.g = pb1 ∨ b.g = lb1 ∨ b.g = mb1) := by
    intro b hb hx2
    simp at hb
    rcases hb with rfl | rfl | rfl | rfl <;> simp at hx2 <;> omega
  refine holds_callW (w := w) (S' := (fun _ => False)) (Y := Nat) (fun _ => .int .i64 0) (fun _ => (apr_b1 pb1 pb2 sb1 sb2 nb1 nb2)) (fun _ W_ => PlatAt 64 80 W_ pb2 (fmtPl (newPl lb2 mb2 2) 2) ∧ PlatAt 64 80 W_ pb1 (fmtPl (newPl lb1 mb1 2) 2)) (fun _ => [(60, .int .i64 0), (0, .slice A n cp), (2, .bool false), (8, (pt nb1 0)), (10, (pt nb2 0)), (58, .bool false), (59, (pt nb2 0))]) (show _ = some (10, [(pt nb2 0)], some 60, [false = false]) by kernel_rfl) ⟨rfl, trivial⟩ (fun _ => rfl) (fun wx hm => ?_) (fun _ W6 hX6 hm6 => ?_)
  · refine (nodeFormat_pl (newPl lb2 mb2 2) pb2 sb2 nb2 2 lb2 mb2 0 (by omega) hA_pb2 (by omega) (fun h => by have := on_mine hA_pb2 h; omega) (fun h => by have := on_mine hA_pb2 h; omega) (by omega) wx (hP5pb2.kept hm.kept (fun xx hx => hnT xx (by have := on_mine hA_pb2 hx; omega))) (hm.at_ 2 rfl) (hm.at_ 3 rfl)).mono fun e w' ⟨h1, h2, h3⟩ => ?_
    exact ⟨0, h1, ⟨h2, (hP5pb1.kept hm.kept (fun xx hx => hnT xx (by have := on_mine hA_f1 hx; omega))).kept h3 (fun x hx e => by have h8 := on_mine hA_f1 hx; have h9 := on_mine hA_pb2 e; omega)⟩, (MemOk.back2 hm5 hm).off (fun _ h => h) h3 (fun x h => .inr (by have := on_mine hA_pb2 h; omega)) (fun b hb h => hnB b hb (by have := on_mine hA_pb2 h; omega))⟩
  clear hnT hnB
  obtain ⟨hP6pb2, hP6pb1⟩ := hX6
  have hl_hP6pb2 := on_lt hA_f2 hP6pb2
  have hl_hP6pb1 := on_lt hA_f1 hP6pb1
  have hgb6_0 : sb1 < W6.heap.size := (hm6.at_ 0 rfl).lt
  have hgb6_1 : nb1 < W6.heap.size := (hm6.at_ 1 rfl).lt
  have hgb6_2 : sb2 < W6.heap.size := (hm6.at_ 2 rfl).lt
  have hgb6_3 : nb2 < W6.heap.size := (hm6.at_ 3 rfl).lt
  have hnT : ∀ xx, (xx = pb2 ∨ xx = lb2 ∨ xx = mb2 ∨ xx = pb1 ∨ xx = lb1 ∨ xx = mb1) → ¬ Turned (apr_b1 pb1 pb2 sb1 sb2 nb1 nb2) xx := by
    rintro xx hx2 ⟨b, hb, hr, he⟩
    simp at hb
    rcases hb with rfl | rfl | rfl | rfl <;> simp at he hr <;> omega
  refine hgo 14 [oh0, ⟨false, 3, []⟩, oh0, oh0] [0, 2, 8, 10, 12] [false = false, false = false, false = false] [] [.code [1, 1, 1, 1, 1, 1, 1, 0, 1, 0], .blk 0, .code apr_n5] ⟨[(0, .slice A n cp), (2, .bool false), (8, (pt nb1 0)), (10, (pt nb2 0)), (12, .int .i64 0)], (apr_b1 pb1 pb2 sb1 sb2 nb1 nb2), [], W6.heap.size⟩ ⟨rfl, rfl, rfl, trivial⟩ ?_
  have hg1 : gotM (fmtPl (newPl lb1 mb1 2) 2) 0 = gotM (fmtPl (newPl lb2 mb2 2) 2) 0 := by
    rw [hG_f1 0 (by omega), hG_f2 0 (by omega)]
    rfl
  have hg2 : gotM (fmtPl (newPl lb2 mb2 2) 2) 1 = fmtR := by
    rw [hG_f2 1 (by omega)]
    rfl
  refine holds_loopW (w := w) (S' := fun _ => False) (ApartI A n cp lb1 lb2 mb1 mb2 pb1 pb2 sb1 sb2 nb1 nb2) 60 (by kernel_rfl) (fun W0 hm => ⟨⟨0, fmtPl (newPl lb1 mb1 2) 2, fmtPl (newPl lb2 mb2 2) 2, _, rfl, hA_f1, hA_f2, hg1, hg2, (hP6pb1.kept hm.kept (fun xx hx => hnT xx (by have := on_mine hA_f1 hx; omega))), (hP6pb2.kept hm.kept (fun xx hx => hnT xx (by have := on_mine hA_f2 hx; omega))), rfl⟩, MemOk.back2 hm6 hm⟩) ?_
  clear hnT hA_f1 hK_f1 hG_f1 hA_f2 hK_f2 hG_f2 hg1 hg2
  rintro m _ W20 ⟨i, M, N, z, hmi, hA, hB, hg1, hg2, hP20pb1, hP20pb2, rfl⟩ hm20 J hJ
  have hl_hP20pb2 := on_lt hB hP20pb2
  have hl_hP20pb1 := on_lt hA hP20pb1
  have hgb20_0 : sb1 < W20.heap.size := (hm20.at_ 0 rfl).lt
  have hgb20_1 : nb1 < W20.heap.size := (hm20.at_ 1 rfl).lt
  have hgb20_2 : sb2 < W20.heap.size := (hm20.at_ 2 rfl).lt
  have hgb20_3 : nb2 < W20.heap.size := (hm20.at_ 3 rfl).lt
  have hnT : ∀ xx, (xx = pb2 ∨ xx = lb2 ∨ xx = mb2 ∨ xx = pb1 ∨ xx = lb1 ∨ xx = mb1) → ¬ Turned (apr_b1 pb1 pb2 sb1 sb2 nb1 nb2) xx := by
    rintro xx hx2 ⟨b, hb, hr, he⟩
    simp at hb
    rcases hb with rfl | rfl | rfl | rfl <;> simp at he hr <;> omega
  have hw1 := hm20.kept.size
  suffices HX : ∀ W25, PlatAt 64 80 W25 pb2 N ∧ PlatAt 64 80 W25 pb1 M → MemOk w (fun _ => False) (apr_b1 pb1 pb2 sb1 sb2 nb1 nb2) [] W25.heap.size W25 → Holds [] Try.prog (bodyOf Try.f4) 143 W25 (Turned (apr_b1 pb1 pb2 sb1 sb2 nb1 nb2)) (bodyPost Try.prog Try.f4 (RetK (.bool true) w)) [.ops apr_n2 [0, 1, 2, 3, 4, 5, 6, 7], .code apr_n4] ⟨[(2, .bool false), (8, (pt nb1 0)), (10, (pt nb2 0))], (apr_b1 pb1 pb2 sb1 sb2 nb1 nb2), [], W25.heap.size⟩ by
    by_cases h1 : i < n
    rotate_left
    · skip
      refine hgo 19 [oh0, oh0, oh0, oh0, oh0, oh0, oh0, ⟨false, 3, []⟩, oh0] [2, 8, 10] [(decide (((i : Int) : Int) < (n : Int))) = false, (decide (((i : Int) : Int) < (n : Int))) = false, (decide (((i : Int) : Int) < (n : Int))) = false, false = false] [] [.ops apr_n2 [0, 1, 2, 3, 4, 5, 6, 7], .code apr_n4] ⟨[(2, .bool false), (8, (pt nb1 0)), (10, (pt nb2 0))], (apr_b1 pb1 pb2 sb1 sb2 nb1 nb2), [], W20.heap.size⟩ ⟨decide_eq_false (by omega), decide_eq_false (by omega), decide_eq_false (by omega), rfl, trivial⟩ ?_
      exact holds_ground [true, true, true, true] rfl (fun W hm hmW => HX W ⟨(hP20pb2.kept hm.kept (fun xx hx => hnT xx (by have := on_mine hB hx; omega))), (hP20pb1.kept hm.kept (fun xx hx => hnT xx (by have := on_mine hA hx; omega)))⟩ (MemOk.back2 hm20 hmW))
    by_cases h2 : i < 60
    rotate_left
    · skip
      refine hgo 19 [oh0, oh0, oh0, oh0, oh0, oh1, oh1, oh3, oh0] [2, 8, 10] [(decide (((i : Int) : Int) < (n : Int))) = true, (decide (((i : Int) : Int) < (n : Int))) = true, (decide (((i : Int) : Int) < (n : Int))) = true, (decide (((i : Int) : Int) < 60)) = false] [] [.ops apr_n2 [0, 1, 2, 3, 4, 5, 6, 7], .code apr_n4] ⟨[(2, .bool false), (8, (pt nb1 0)), (10, (pt nb2 0))], (apr_b1 pb1 pb2 sb1 sb2 nb1 nb2), [], W20.heap.size⟩ ⟨decide_eq_true (by omega), decide_eq_true (by omega), decide_eq_true (by omega), decide_eq_false (by omega), trivial⟩ ?_
      exact holds_ground [true, true, true, true] rfl (fun W hm hmW => HX W ⟨(hP20pb2.kept hm.kept (fun xx hx => hnT xx (by have := on_mine hB hx; omega))), (hP20pb1.kept hm.kept (fun xx hx => hnT xx (by have := on_mine hA hx; omega)))⟩ (MemOk.back2 hm20 hmW))
    obtain ⟨ha, b, o, rfl, hb, hc⟩ := HF i h1
    have hnb : ∀ x, x < w.heap.size → ¬ Turned (apr_b1 pb1 pb2 sb1 sb2 nb1 nb2) x := by
      rintro x hx ⟨b, hb, hr, he⟩
      simp at hb
      rcases hb with rfl | rfl | rfl | rfl <;> simp at he hr
    refine holds_wins [⟨b, o + i * 14, (acts i).cells⟩] (fun _ x hx => ?_) ?_
    · simp only [List.mem_singleton] at hx
      subst hx
      exact ⟨hnb _ hb, win_kept hb hc rfl hm20.kept id⟩
    obtain ⟨q, hq⟩ : ∃ q, fitF (acts i).ask = q := ⟨_, rfl⟩
    obtain ⟨B, hBp⟩ : ∃ B, pickZ (acts i).stripe 2 = B := ⟨_, rfl⟩
    have hBb := pickZ_bd (acts i).stripe 2 (by omega)
    rw [hBp] at hBb
    have hqok := qs_ok (hq ▸ fitF_ok (acts i).ask) (k := B) (by omega)
    obtain ⟨r, hr⟩ : ∃ r, gotM M B = r := ⟨_, rfl⟩
    obtain ⟨⟨x, s⟩, hxs⟩ : ∃ xs, applyM r (qs q B) = xs := ⟨_, rfl⟩
    obtain ⟨hA2, hO2, hS2, hG2⟩ := on_serv hA hP20pb1.ok hqok
    have hs2 : servS M (qs q B) = s := by
      rw [hS2]
      show (applyM (gotM M B) _).2 = _
      rw [hr, hxs]
    have hb2 : behM M (qs q B) = x := by
      unfold behM
      show (applyM (gotM M B) _).1 = _
      rw [hr, hxs]
    have hGB : ∀ j, 0 ≤ j ∧ j < 2 → gotM (servPl M (qs q B)) j = if j = B then x else gotM M j := fun j hj => by
      rw [hG2 j hj, hb2]
      rfl
    refine hgo 26 [oh0, oh0, oh0, oh0, oh0, oh1, oh1, oh3, oh1, oh0, oh0, oh2, oh0, ⟨false, 0, [⟨true, 0, 3, 9⟩]⟩] [0, 2, 8, 10, 12, 77] [(decide (((i : Int) : Int) < (n : Int))) = true, (decide (((i : Int) : Int) < (n : Int))) = true, (decide (((i : Int) : Int) < (n : Int))) = true, (decide (((i : Int) : Int) < 60)) = true, (0 : Int) ≤ (i : Int) ∧ (i : Int) < ((n : Nat) : Int)] [(b, o + i * 14 + 3, 9)] [.ops [1, 1, 1, 1, 1, 1, 1, 0, 1, 0, 0, 1, 0, 0, 0] [5, 6, 7], .code [1, 1, 1, 1, 1, 1, 1, 0, 1, 0, 0, 1, 0, 0, 1], .blk 1, .code apr_n1, .inv J, .blk 0, .code apr_n5] ⟨[(0, .slice (some ⟨b, o, none⟩) n cp), (2, .bool false), (8, (pt nb1 0)), (10, (pt nb2 0)), (12, .int .i64 (i : Int)), (77, .agg (List.toArray (apr_v1 acts i)))], (apr_b1 pb1 pb2 sb1 sb2 nb1 nb2), [⟨b, o + i * 14, (apr_v2 acts i)⟩], W20.heap.size⟩ ⟨decide_eq_true (by omega), decide_eq_true (by omega), decide_eq_true (by omega), decide_eq_true (by omega), ⟨by omega, by omega⟩, trivial⟩ ?_
    refine hcp (.agg (List.toArray (apr_v3 q))) 11 [.agg (List.toArray (apr_v1 acts i))] (some 78) [] trivial rfl (fun wx hm => fitP (acts i).ask q hq wx ha.ask) fun z19 hz19 => ?_
    replace hz19 : W20.heap.size ≤ z19 := hz19
    refine hgo 13 [oh0, ⟨false, 0, [⟨false, 4, 0, 9⟩]⟩, oh0, oh0, oh2, oh0, ⟨false, 0, [⟨true, 0, 1, 1⟩]⟩] [0, 2, 8, 10, 12, 13, 83] [(0 : Int) ≤ (i : Int) ∧ (i : Int) < ((n : Nat) : Int)] [(z19, 0, 9), (b, o + i * 14 + 1, 1)] [.ops [1, 1, 1, 1, 1, 1, 1, 0, 1, 0, 0, 1, 0, 0, 1, 0] [5, 6, 7], .code [1, 1, 1, 1, 1, 1, 1, 0, 1, 0, 0, 1, 0, 0, 1, 1], .blk 1, .code apr_n1, .inv J, .blk 0, .code apr_n5] ⟨[(0, .slice (some ⟨b, o, none⟩) n cp), (2, .bool false), (8, (pt nb1 0)), (10, (pt nb2 0)), (12, .int .i64 (i : Int)), (13, (pt z19 0)), (83, .int .i64 ((acts i).stripe))], [⟨sb1, 82, false, [(pt pb1 0), .int .i64 2]⟩, ⟨nb1, 69, false, [(pt sb1 0), .int .i64 2]⟩, ⟨sb2, 82, false, [(pt pb2 0), .int .i64 2]⟩, ⟨nb2, 69, false, [(pt sb2 0), .int .i64 2]⟩, ⟨z19, 35, true, (apr_v3 q)⟩], [⟨b, o + i * 14, (apr_v2 acts i)⟩], z19 + 1⟩ ⟨⟨by omega, by omega⟩, trivial⟩ ?_
    refine hcp (.int .i64 B) 14 [.int .i64 ((acts i).stripe), .int .i64 2] (some 84) [] trivial rfl (fun wx hm => pick10 _ _ _ hBp wx (by omega) (by omega) ha.stripe) fun z21 hz21 => ?_
    replace hz21 : z19 + 1 ≤ z21 := hz21
    refine hgo 10 [oh0, ⟨false, 0, [⟨false, 4, 1, 1⟩]⟩, oh0, ⟨false, 0, [⟨false, 4, 0, 9⟩]⟩] [0, 2, 8, 10, 12, 13, 87, 88] [] [(z19, 1, 1), (z19, 0, 9)] [.ops [1, 1, 1, 1, 1, 1, 1, 0, 1, 0, 0, 1, 0, 0, 1, 1, 0] [2, 3, 4, 5, 6, 7, 8], .code [1, 1, 1, 1, 1, 1, 1, 0, 1, 0, 0, 1, 0, 0, 1, 1, 1], .blk 1, .code apr_n1, .inv J, .blk 0, .code apr_n5] ⟨[(0, .slice (some ⟨b, o, none⟩) n cp), (2, .bool false), (8, (pt nb1 0)), (10, (pt nb2 0)), (12, .int .i64 (i : Int)), (13, (pt z19 0)), (87, (pt nb1 0)), (88, .agg (List.toArray (apr_v4 B q)))], (apr_b3 B q pb1 pb2 sb1 sb2 nb1 nb2 z19), [⟨b, o + i * 14, (apr_v2 acts i)⟩], z21⟩ trivial ?_
    have hnB : ∀ b ∈ ((apr_b3 B q pb1 pb2 sb1 sb2 nb1 nb2 z19) : List Bk), ¬ (b.g = pb2 ∨ b.g = lb2 ∨ b.g = mb2 ∨ b.g = pb1 ∨ b.g = lb1 ∨ b.g = mb1) := by
      intro b hb hx2
      simp at hb
      rcases hb with rfl | rfl | rfl | rfl | rfl <;> simp at hx2 <;> omega
    refine holds_callW (w := w) (S' := (fun _ => False)) (Y := Nat) (fun _ => .tuple #[.agg (List.toArray (apr_v5 s)), .bool true]) (fun _ => (apr_b3 B q pb1 pb2 sb1 sb2 nb1 nb2 z19)) (fun _ W_ => PlatAt 64 80 W_ pb2 N ∧ PlatAt 64 80 W_ pb1 (servPl M (qs q B))) (fun _ => [(89, .tuple #[.agg (List.toArray (apr_v5 s)), .bool true]), (0, .slice (some ⟨b, o, none⟩) n cp), (2, .bool false), (8, (pt nb1 0)), (10, (pt nb2 0)), (12, .int .i64 (i : Int)), (13, (pt z19 0)), (87, (pt nb1 0)), (88, .agg (List.toArray (apr_v4 B q)))]) (show _ = some (12, [(pt nb1 0), .agg (List.toArray (apr_v4 B q))], some 89, []) by kernel_rfl) trivial (fun _ => rfl) (fun wx hm => ?_) (fun _ W21 hX21 hm21 => ?_)
    · refine (serve_pl M pb1 sb1 nb1 2 (qs q B) hqok (by exact hBb.2) (by rw [hA.n]; exact hBb.2) hA.off (by have := hA.acts; omega) (fun h => by have := on_mine hA h; omega) (fun h => by have := on_mine hA h; omega) (by omega) wx (hP20pb1.kept hm.kept (fun xx hx => hnT xx (by have := on_mine hA hx; omega))) (hm.at_ 0 rfl) (hm.at_ 1 rfl)).mono fun e w' ⟨h1, h2, h3⟩ => ?_
      rw [hO2, hs2] at h1
      exact ⟨0, h1, ⟨(hP20pb2.kept hm.kept (fun xx hx => hnT xx (by have := on_mine hB hx; omega))).kept h3 (fun x hx e => by have h8 := on_mine hB hx; have h9 := on_mine hA e; omega), h2⟩, (MemOk.back2 hm20 hm).off (fun _ h => h) h3 (fun x h => .inr (by have := on_mine hA h; omega)) (fun b hb h => hnB b hb (by have := on_mine hA h; omega))⟩
    clear hnT hnB
    obtain ⟨hP21pb2, hP21pb1⟩ := hX21
    have hl_hP21pb2 := on_lt hB hP21pb2
    have hl_hP21pb1 := on_lt hA2 hP21pb1
    have hgb21_0 : sb1 < W21.heap.size := (hm21.at_ 0 rfl).lt
    have hgb21_1 : nb1 < W21.heap.size := (hm21.at_ 1 rfl).lt
    have hgb21_2 : sb2 < W21.heap.size := (hm21.at_ 2 rfl).lt
    have hgb21_3 : nb2 < W21.heap.size := (hm21.at_ 3 rfl).lt
    have hgb21_4 : z19 < W21.heap.size := (hm21.at_ 4 rfl).lt
    have hnT : ∀ xx, (xx = pb2 ∨ xx = lb2 ∨ xx = mb2 ∨ xx = pb1 ∨ xx = lb1 ∨ xx = mb1) → ¬ Turned (apr_b3 B q pb1 pb2 sb1 sb2 nb1 nb2 z19) xx := by
      rintro xx hx2 ⟨b, hb, hr, he⟩
      simp at hb
      rcases hb with rfl | rfl | rfl | rfl | rfl <;> simp at he hr <;> omega
    refine hgo 16 [oh0, oh0, oh0, oh0, ⟨false, 0, [⟨false, 5, 0, 13⟩]⟩, oh0, oh0, ⟨false, 0, [⟨false, 4, 1, 1⟩]⟩, oh0] [0, 2, 8, 10, 12, 13, 14, 15, 94] [] [(W21.heap.size, 0, 13), (z19, 1, 1)] [.code [1, 1, 1, 1, 1, 1, 1, 0, 1, 0, 0, 1, 0, 0, 1, 1, 1, 1], .blk 1, .code apr_n1, .inv J, .blk 0, .code apr_n5] ⟨[(0, .slice (some ⟨b, o, none⟩) n cp), (2, .bool false), (8, (pt nb1 0)), (10, (pt nb2 0)), (12, .int .i64 (i : Int)), (13, (pt z19 0)), (14, (pt W21.heap.size 0)), (15, .bool true), (94, .bool (B == 0))], (apr_b4 B q s pb1 pb2 sb1 sb2 nb1 nb2 W21 z19), [], W21.heap.size + 1⟩ trivial ?_
    by_cases hB0 : B = 0
    · skip
      refine hgo 8 [oh1, oh0, ⟨false, 0, [⟨false, 4, 0, 9⟩]⟩] [0, 2, 8, 10, 12, 14, 15, 96, 97] [(B == 0) = true] [(z19, 0, 9)] [.ops [1, 1, 1, 1, 1, 1, 1, 0, 1, 0, 0, 1, 0, 0, 1, 1, 1, 1, 0, 0] [2, 3, 4, 5, 6, 7, 8], .code [1, 1, 1, 1, 1, 1, 1, 0, 1, 0, 0, 1, 0, 0, 1, 1, 1, 1, 0, 1], .blk 1, .code apr_n1, .inv J, .blk 0, .code apr_n5] ⟨[(0, .slice (some ⟨b, o, none⟩) n cp), (2, .bool false), (8, (pt nb1 0)), (10, (pt nb2 0)), (12, .int .i64 (i : Int)), (14, (pt W21.heap.size 0)), (15, .bool true), (96, (pt nb2 0)), (97, .agg (List.toArray (apr_v4 B q)))], (apr_b4 B q s pb1 pb2 sb1 sb2 nb1 nb2 W21 z19), [], W21.heap.size + 1⟩ ⟨by simp [hB0], trivial⟩ ?_
      have hg3 : gotM N B = r := by rw [hB0, ← hg1, ← hB0]; exact hr
      obtain ⟨hB2, hO3, hS3, hG3⟩ := on_serv hB hP21pb2.ok hqok
      have hs3 : servS N (qs q B) = s := by
        rw [hS3]
        show (applyM (gotM N B) _).2 = _
        rw [hg3, hxs]
      have hb3 : behM N (qs q B) = x := by
        unfold behM
        show (applyM (gotM N B) _).1 = _
        rw [hg3, hxs]
      have hGC : ∀ j, 0 ≤ j ∧ j < 2 → gotM (servPl N (qs q B)) j = if j = B then x else gotM N j := fun j hj => by
        rw [hG3 j hj, hb3]
        rfl
      have hnB : ∀ b ∈ ((apr_b4 B q s pb1 pb2 sb1 sb2 nb1 nb2 W21 z19) : List Bk), ¬ (b.g = pb2 ∨ b.g = lb2 ∨ b.g = mb2 ∨ b.g = pb1 ∨ b.g = lb1 ∨ b.g = mb1) := by
        intro b hb hx2
        simp at hb
        rcases hb with rfl | rfl | rfl | rfl | rfl | rfl <;> simp at hx2 <;> omega
      refine holds_callW (w := w) (S' := (fun _ => False)) (Y := Nat) (fun _ => .tuple #[.agg (List.toArray (apr_v5 s)), .bool true]) (fun _ => (apr_b4 B q s pb1 pb2 sb1 sb2 nb1 nb2 W21 z19)) (fun _ W_ => PlatAt 64 80 W_ pb2 (servPl N (qs q B)) ∧ PlatAt 64 80 W_ pb1 (servPl M (qs q B))) (fun _ => [(98, .tuple #[.agg (List.toArray (apr_v5 s)), .bool true]), (0, .slice (some ⟨b, o, none⟩) n cp), (2, .bool false), (8, (pt nb1 0)), (10, (pt nb2 0)), (12, .int .i64 (i : Int)), (14, (pt W21.heap.size 0)), (15, .bool true), (96, (pt nb2 0)), (97, .agg (List.toArray (apr_v4 B q)))]) (show _ = some (12, [(pt nb2 0), .agg (List.toArray (apr_v4 B q))], some 98, []) by kernel_rfl) trivial (fun _ => rfl) (fun wx hm => ?_) (fun _ W22 hX22 hm22 => ?_)
      · refine (serve_pl N pb2 sb2 nb2 2 (qs q B) hqok (by exact hBb.2) (by rw [hB.n]; exact hBb.2) hB.off (by have := hB.acts; omega) (fun h => by have := on_mine hB h; omega) (fun h => by have := on_mine hB h; omega) (by omega) wx (hP21pb2.kept hm.kept (fun xx hx => hnT xx (by have := on_mine hB hx; omega))) (hm.at_ 2 rfl) (hm.at_ 3 rfl)).mono fun e w' ⟨h1, h2, h3⟩ => ?_
        rw [hO3, hs3] at h1
        exact ⟨0, h1, ⟨h2, (hP21pb1.kept hm.kept (fun xx hx => hnT xx (by have := on_mine hA2 hx; omega))).kept h3 (fun x hx e => by have h8 := on_mine hA2 hx; have h9 := on_mine hB e; omega)⟩, (MemOk.back2 hm21 hm).off (fun _ h => h) h3 (fun x h => .inr (by have := on_mine hB h; omega)) (fun b hb h => hnB b hb (by have := on_mine hB h; omega))⟩
      clear hnT hnB
      obtain ⟨hP22pb2, hP22pb1⟩ := hX22
      have hl_hP22pb2 := on_lt hB2 hP22pb2
      have hl_hP22pb1 := on_lt hA2 hP22pb1
      have hgb22_0 : sb1 < W22.heap.size := (hm22.at_ 0 rfl).lt
      have hgb22_1 : nb1 < W22.heap.size := (hm22.at_ 1 rfl).lt
      have hgb22_2 : sb2 < W22.heap.size := (hm22.at_ 2 rfl).lt
      have hgb22_3 : nb2 < W22.heap.size := (hm22.at_ 3 rfl).lt
      have hgb22_4 : z19 < W22.heap.size := (hm22.at_ 4 rfl).lt
      have hgb22_5 : W21.heap.size < W22.heap.size := (hm22.at_ 5 rfl).lt
      have hnT : ∀ xx, (xx = pb2 ∨ xx = lb2 ∨ xx = mb2 ∨ xx = pb1 ∨ xx = lb1 ∨ xx = mb1) → ¬ Turned (apr_b4 B q s pb1 pb2 sb1 sb2 nb1 nb2 W21 z19) xx := by
        rintro xx hx2 ⟨b, hb, hr, he⟩
        simp at hb
        rcases hb with rfl | rfl | rfl | rfl | rfl | rfl <;> simp at he hr <;> omega
      refine hgo 29 [oh0, oh0, oh0, oh0, ⟨false, 0, [⟨false, 6, 0, 13⟩]⟩, oh0, ⟨false, 0, [⟨false, 5, 0, 13⟩]⟩, ⟨false, 0, [⟨false, 6, 0, 13⟩]⟩, oh2, oh0, oh0, oh0, oh0, ⟨false, 3, []⟩, oh0, oh0, oh2, oh0] [0, 2, 8, 10, 12] [True, (!((((s.st : Int) == s.st) && (((s.ep : Int) == s.ep) && (((s.ou : Int) == s.ou) && (((s.rc.used == s.rc.used) && (((s.rc.fence : Int) == s.rc.fence) && ((((s.rc.de : Int) == s.rc.de) && (((s.rc.ds : Int) == s.rc.ds) && true)) && (((s.rc.block : ByteArray) == s.rc.block) && ((s.rc.op == s.rc.op) && ((((s.rc.ie : Int) == s.rc.ie) && (((s.rc.is : Int) == s.rc.is) && true)) && (((s.rc.mask : Int) == s.rc.mask) && (((s.rc.staged : ByteArray) == s.rc.staged) && true)))))))) && true)))))) = false, (!((((s.st : Int) == s.st) && (((s.ep : Int) == s.ep) && (((s.ou : Int) == s.ou) && (((s.rc.used == s.rc.used) && (((s.rc.fence : Int) == s.rc.fence) && ((((s.rc.de : Int) == s.rc.de) && (((s.rc.ds : Int) == s.rc.ds) && true)) && (((s.rc.block : ByteArray) == s.rc.block) && ((s.rc.op == s.rc.op) && ((((s.rc.ie : Int) == s.rc.ie) && (((s.rc.is : Int) == s.rc.is) && true)) && (((s.rc.mask : Int) == s.rc.mask) && (((s.rc.staged : ByteArray) == s.rc.staged) && true)))))))) && true)))))) = false, (!((((s.st : Int) == s.st) && (((s.ep : Int) == s.ep) && (((s.ou : Int) == s.ou) && (((s.rc.used == s.rc.used) && (((s.rc.fence : Int) == s.rc.fence) && ((((s.rc.de : Int) == s.rc.de) && (((s.rc.ds : Int) == s.rc.ds) && true)) && (((s.rc.block : ByteArray) == s.rc.block) && ((s.rc.op == s.rc.op) && ((((s.rc.ie : Int) == s.rc.ie) && (((s.rc.is : Int) == s.rc.is) && true)) && (((s.rc.mask : Int) == s.rc.mask) && (((s.rc.staged : ByteArray) == s.rc.staged) && true)))))))) && true)))))) = false, (!((((s.st : Int) == s.st) && (((s.ep : Int) == s.ep) && (((s.ou : Int) == s.ou) && (((s.rc.used == s.rc.used) && (((s.rc.fence : Int) == s.rc.fence) && ((((s.rc.de : Int) == s.rc.de) && (((s.rc.ds : Int) == s.rc.ds) && true)) && (((s.rc.block : ByteArray) == s.rc.block) && ((s.rc.op == s.rc.op) && ((((s.rc.ie : Int) == s.rc.ie) && (((s.rc.is : Int) == s.rc.is) && true)) && (((s.rc.mask : Int) == s.rc.mask) && (((s.rc.staged : ByteArray) == s.rc.staged) && true)))))))) && true)))))) = false, false = false, inR .i64 (((i : Int) + 1))] [(W22.heap.size, 0, 13), (W21.heap.size, 0, 13), (W22.heap.size, 0, 13)] [.inv J, .blk 0, .code apr_n5] ⟨[(0, .slice (some ⟨b, o, none⟩) n cp), (2, .bool false), (8, (pt nb1 0)), (10, (pt nb2 0)), (12, .int .i64 ((i : Int) + 1))], [⟨sb1, 82, false, [(pt pb1 0), .int .i64 2]⟩, ⟨nb1, 69, false, [(pt sb1 0), .int .i64 2]⟩, ⟨sb2, 82, false, [(pt pb2 0), .int .i64 2]⟩, ⟨nb2, 69, false, [(pt sb2 0), .int .i64 2]⟩, ⟨z19, 35, true, (apr_v4 B q)⟩, ⟨W21.heap.size, 45, true, (apr_v5 s)⟩, ⟨W22.heap.size, 45, true, (apr_v5 s)⟩], [], W22.heap.size + 1⟩ ⟨trivial, (by rw [show ((((s.st : Int) == s.st) && (((s.ep : Int) == s.ep) && (((s.ou : Int) == s.ou) && (((s.rc.used == s.rc.used) && (((s.rc.fence : Int) == s.rc.fence) && ((((s.rc.de : Int) == s.rc.de) && (((s.rc.ds : Int) == s.rc.ds) && true)) && (((s.rc.block : ByteArray) == s.rc.block) && ((s.rc.op == s.rc.op) && ((((s.rc.ie : Int) == s.rc.ie) && (((s.rc.is : Int) == s.rc.is) && true)) && (((s.rc.mask : Int) == s.rc.mask) && (((s.rc.staged : ByteArray) == s.rc.staged) && true)))))))) && true))))) = true from by simp [bytes_beq]]; rfl), (by rw [show ((((s.st : Int) == s.st) && (((s.ep : Int) == s.ep) && (((s.ou : Int) == s.ou) && (((s.rc.used == s.rc.used) && (((s.rc.fence : Int) == s.rc.fence) && ((((s.rc.de : Int) == s.rc.de) && (((s.rc.ds : Int) == s.rc.ds) && true)) && (((s.rc.block : ByteArray) == s.rc.block) && ((s.rc.op == s.rc.op) && ((((s.rc.ie : Int) == s.rc.ie) && (((s.rc.is : Int) == s.rc.is) && true)) && (((s.rc.mask : Int) == s.rc.mask) && (((s.rc.staged : ByteArray) == s.rc.staged) && true)))))))) && true))))) = true from by simp [bytes_beq]]; rfl), (by rw [show ((((s.st : Int) == s.st) && (((s.ep : Int) == s.ep) && (((s.ou : Int) == s.ou) && (((s.rc.used == s.rc.used) && (((s.rc.fence : Int) == s.rc.fence) && ((((s.rc.de : Int) == s.rc.de) && (((s.rc.ds : Int) == s.rc.ds) && true)) && (((s.rc.block : ByteArray) == s.rc.block) && ((s.rc.op == s.rc.op) && ((((s.rc.ie : Int) == s.rc.ie) && (((s.rc.is : Int) == s.rc.is) && true)) && (((s.rc.mask : Int) == s.rc.mask) && (((s.rc.staged : ByteArray) == s.rc.staged) && true)))))))) && true))))) = true from by simp [bytes_beq]]; rfl), (by rw [show ((((s.st : Int) == s.st) && (((s.ep : Int) == s.ep) && (((s.ou : Int) == s.ou) && (((s.rc.used == s.rc.used) && (((s.rc.fence : Int) == s.rc.fence) && ((((s.rc.de : Int) == s.rc.de) && (((s.rc.ds : Int) == s.rc.ds) && true)) && (((s.rc.block : ByteArray) == s.rc.block) && ((s.rc.op == s.rc.op) && ((((s.rc.ie : Int) == s.rc.ie) && (((s.rc.is : Int) == s.rc.is) && true)) && (((s.rc.mask : Int) == s.rc.mask) && (((s.rc.staged : ByteArray) == s.rc.staged) && true)))))))) && true))))) = true from by simp [bytes_beq]]; rfl), rfl, in64 (by omega), trivial⟩ ?_
      refine holds_wins [] (fun _ _ h => by cases h) ?_
      refine holds_prune [0, 2, 8, 10, 12] [true, true, true, true, false, false, false] ?_
      intro a w4 hf hm
      exact hJ (m - 1) _ a w4 (by omega) ⟨i + 1, servPl M (qs q B), servPl N (qs q B), W22.heap.size + 1, by omega, hA2.le (by omega), hB2.le (by omega), by rw [hGB 0 (by omega), hGC 0 (by omega), if_pos hB0.symm, if_pos hB0.symm], by rw [hGC 1 (by omega), if_neg (by omega)]; exact hg2, (hP22pb1.kept hm.kept (fun xx hx => hnT xx (by have := on_mine hA2 hx; omega))), (hP22pb2.kept hm.kept (fun xx hx => hnT xx (by have := on_mine hB2 hx; omega))), by rw [← cast_succ i]; rfl⟩ hf (MemOk.back2 hm22 hm)
    · skip
      refine hgo 11 [oh0, oh0, oh2, oh0] [0, 2, 8, 10, 12] [(B == 0) = false, inR .i64 (((i : Int) + 1))] [] [.inv J, .blk 0, .code apr_n5] ⟨[(0, .slice (some ⟨b, o, none⟩) n cp), (2, .bool false), (8, (pt nb1 0)), (10, (pt nb2 0)), (12, .int .i64 ((i : Int) + 1))], (apr_b4 B q s pb1 pb2 sb1 sb2 nb1 nb2 W21 z19), [], W21.heap.size + 1⟩ ⟨by simp [hB0], in64 (by omega), trivial⟩ ?_
      refine holds_wins [] (fun _ _ h => by cases h) ?_
      refine holds_prune [0, 2, 8, 10, 12] [true, true, true, true, false, false] ?_
      intro a w4 hf hm
      exact hJ (m - 1) _ a w4 (by omega) ⟨i + 1, servPl M (qs q B), N, W21.heap.size + 1, by omega, hA2.le (by omega), hB.le (by omega), by rw [hGB 0 (by omega), if_neg (by omega)]; exact hg1, hg2, (hP21pb1.kept hm.kept (fun xx hx => hnT xx (by have := on_mine hA2 hx; omega))), (hP21pb2.kept hm.kept (fun xx hx => hnT xx (by have := on_mine hB hx; omega))), by rw [← cast_succ i]; rfl⟩ hf (MemOk.back2 hm21 hm)
  clear hnT hP20pb1 hP20pb2 hm20 hJ hw1
  clear hl_hP20pb1 hl_hP20pb2 hgb20_0 hgb20_1 hgb20_2 hgb20_3
  intro W25 hX25 hm25
  obtain ⟨hP25pb2, hP25pb1⟩ := hX25
  have hl_hP25pb2 := on_lt hB hP25pb2
  have hl_hP25pb1 := on_lt hA hP25pb1
  have hgb25_0 : sb1 < W25.heap.size := (hm25.at_ 0 rfl).lt
  have hgb25_1 : nb1 < W25.heap.size := (hm25.at_ 1 rfl).lt
  have hgb25_2 : sb2 < W25.heap.size := (hm25.at_ 2 rfl).lt
  have hgb25_3 : nb2 < W25.heap.size := (hm25.at_ 3 rfl).lt
  have hnT : ∀ xx, (xx = pb2 ∨ xx = lb2 ∨ xx = mb2 ∨ xx = pb1 ∨ xx = lb1 ∨ xx = mb1) → ¬ Turned (apr_b1 pb1 pb2 sb1 sb2 nb1 nb2) xx := by
    rintro xx hx2 ⟨b, hb, hr, he⟩
    simp at hb
    rcases hb with rfl | rfl | rfl | rfl <;> simp at he hr <;> omega
  obtain ⟨r, hr⟩ : ∃ r, gotM M 0 = r := ⟨_, rfl⟩
  rw [hr] at hg1
  refine hgo 4 [oh0] [2, 10, 110] [] [] [.ops apr_n2 [1, 2, 3, 4, 5, 6, 7], .code apr_n4] ⟨[(2, .bool false), (10, (pt nb2 0)), (110, (pt nb1 0))], (apr_b1 pb1 pb2 sb1 sb2 nb1 nb2), [], W25.heap.size⟩ trivial ?_
  refine hcp (.tuple #[.agg (List.toArray (apr_v6 r)), .bool true]) 15 [(pt nb1 0), .int .i64 0] (some 111) [] trivial rfl (fun wx hm => by have h := record_pl M pb1 sb1 nb1 2 0 (by omega) (by rw [hA.n]; omega) hA.off (by omega) wx (hP25pb1.kept hm.kept (fun xx hx => hnT xx (by have := on_mine hA hx; omega))) (hm.at_ 0 rfl) (hm.at_ 1 rfl); rw [hr] at h; exact h) fun z30 hz30 => ?_
  replace hz30 : W25.heap.size ≤ z30 := hz30
  refine hgo 13 [oh0, oh0, oh0, oh0, ⟨false, 0, [⟨false, 4, 0, 10⟩]⟩, oh0, oh0] [2, 10, 18, 19, 115] [] [(z30, 0, 10)] [.ops [1, 1, 1, 1, 1, 1, 1, 1, 1, 0] [1, 2, 3, 4, 5, 6, 7], .code [1, 1, 1, 1, 1, 1, 1, 1, 1, 1]] ⟨[(2, .bool false), (10, (pt nb2 0)), (18, (pt z30 0)), (19, .bool true), (115, (pt nb2 0))], [⟨sb1, 82, false, [(pt pb1 0), .int .i64 2]⟩, ⟨nb1, 69, false, [(pt sb1 0), .int .i64 2]⟩, ⟨sb2, 82, false, [(pt pb2 0), .int .i64 2]⟩, ⟨nb2, 69, false, [(pt sb2 0), .int .i64 2]⟩, ⟨z30, 43, true, (apr_v6 r)⟩], [], z30 + 1⟩ trivial ?_
  refine hcp (.tuple #[.agg (List.toArray (apr_v6 r)), .bool true]) 15 [(pt nb2 0), .int .i64 0] (some 116) [] trivial rfl (fun wx hm => by have h := record_pl N pb2 sb2 nb2 2 0 (by omega) (by rw [hB.n]; omega) hB.off (by omega) wx (hP25pb2.kept hm.kept (fun xx hx => hnT xx (by have := on_mine hB hx; omega))) (hm.at_ 2 rfl) (hm.at_ 3 rfl); rw [← hg1] at h; exact h) fun z32 hz32 => ?_
  replace hz32 : z30 + 1 ≤ z32 := hz32
  refine hgo 13 [oh0, oh0, oh0, oh0, ⟨false, 0, [⟨false, 5, 0, 10⟩]⟩, oh0, oh0] [2, 18, 19, 20, 21, 120] [] [(z32, 0, 10)] [.ops [1, 1, 1, 1, 1, 1, 1, 1, 1, 1, 0] [1, 2, 3, 4, 5, 6, 7], .code [1, 1, 1, 1, 1, 1, 1, 1, 1, 1, 1]] ⟨[(2, .bool false), (18, (pt z30 0)), (19, .bool true), (20, (pt z32 0)), (21, .bool true), (120, (pt nb2 0))], [⟨sb1, 82, false, [(pt pb1 0), .int .i64 2]⟩, ⟨nb1, 69, false, [(pt sb1 0), .int .i64 2]⟩, ⟨sb2, 82, false, [(pt pb2 0), .int .i64 2]⟩, ⟨nb2, 69, false, [(pt sb2 0), .int .i64 2]⟩, ⟨z30, 43, true, (apr_v6 r)⟩, ⟨z32, 43, true, (apr_v6 r)⟩], [], z32 + 1⟩ trivial ?_
  refine hcp (.tuple #[.agg (List.toArray (apr_v7)), .bool true]) 15 [(pt nb2 0), .int .i64 1] (some 121) [] trivial rfl (fun wx hm => by have h := record_pl N pb2 sb2 nb2 2 1 (by omega) (by rw [hB.n]; omega) hB.off (by omega) wx (hP25pb2.kept hm.kept (fun xx hx => hnT xx (by have := on_mine hB hx; omega))) (hm.at_ 2 rfl) (hm.at_ 3 rfl); rw [hg2] at h; exact h) fun z34 hz34 => ?_
  replace hz34 : z32 + 1 ≤ z34 := hz34
  refine hgo 11 [oh0, oh0, oh0, oh0, ⟨false, 0, [⟨false, 6, 0, 10⟩]⟩, oh0] [2, 18, 19, 20, 21, 22, 23] [] [(z34, 0, 10)] [.code [1, 1, 1, 1, 1, 1, 1, 1, 1, 1, 1, 0], .code apr_n3] ⟨[(2, .bool false), (18, (pt z30 0)), (19, .bool true), (20, (pt z32 0)), (21, .bool true), (22, (pt z34 0)), (23, .bool true)], (apr_b5 r pb1 pb2 sb1 sb2 nb1 nb2 z30 z32 z34), [], z34 + 1⟩ trivial ?_
  suffices HZ36 : Holds [] Try.prog (bodyOf Try.f4) 143 W25 (Turned (apr_b1 pb1 pb2 sb1 sb2 nb1 nb2)) (bodyPost Try.prog Try.f4 (RetK (.bool true) w)) [.code apr_n3] ⟨[(2, .bool (((zeros16 : ByteArray) == zeros16) && true))], (apr_b6 r pb1 pb2 sb1 sb2 nb1 nb2 z30 z32 z34), [], z34 + 2⟩ by
    have A36_0 : apr_36G w pb1 pb2 sb1 sb2 nb1 nb2 W25 0 apr_n29 ⟨[(2, .bool (((zeros16 : ByteArray) == zeros16) && true))], (apr_b6 r pb1 pb2 sb1 sb2 nb1 nb2 z30 z32 z34), [], z34 + 2⟩ := by
      exact holds_done (by kernel_rfl) HZ36
    have A36_1 : apr_36G w pb1 pb2 sb1 sb2 nb1 nb2 W25 1 apr_n28 ⟨[(2, .bool false), (142, .bool (((zeros16 : ByteArray) == zeros16) && true))], (apr_b6 r pb1 pb2 sb1 sb2 nb1 nb2 z30 z32 z34), [], z34 + 2⟩ := by
      exact holds_anyAll (l := [19]) (by kernel_rfl) (by simp) ⟨eop apr_n29 oh0 [2] [] [] ⟨[(2, .bool (((zeros16 : ByteArray) == zeros16) && true))], (apr_b6 r pb1 pb2 sb1 sb2 nb1 nb2 z30 z32 z34), [], z34 + 2⟩ trivial A36_0, trivial⟩
    have A36_2 : apr_36G w pb1 pb2 sb1 sb2 nb1 nb2 W25 2 apr_n27 ⟨[(2, .bool false), (136, .bool (recB r r)), (141, .bool (((zeros16 : ByteArray) == zeros16) && true))], (apr_b6 r pb1 pb2 sb1 sb2 nb1 nb2 z30 z32 z34), [], z34 + 2⟩ := by
      exact holds_anyAll (l := [18]) (by kernel_rfl) (by simp) ⟨eop apr_n28 oh3 [2, 142] [(recB r r) = true] [] ⟨[(2, .bool false), (142, .bool (((zeros16 : ByteArray) == zeros16) && true))], (apr_b6 r pb1 pb2 sb1 sb2 nb1 nb2 z30 z32 z34), [], z34 + 2⟩ ⟨(recB_iff r r).2 rfl, trivial⟩ A36_1, trivial⟩
    have A36_3 : apr_36G w pb1 pb2 sb1 sb2 nb1 nb2 W25 3 apr_n26 ⟨[(2, .bool false), (136, .bool (recB r r)), (137, .agg (List.toArray (apr_v7))), (140, .agg (List.toArray (apr_v7)))], (apr_b6 r pb1 pb2 sb1 sb2 nb1 nb2 z30 z32 z34), [], z34 + 2⟩ := by
      exact holds_anyAll (l := [17]) (by kernel_rfl) (by simp) ⟨eop apr_n27 ⟨true, 1, []⟩ [2, 136, 141] [(recB r r) = true, True] [] ⟨[(2, .bool false), (136, .bool (recB r r)), (141, .bool (((zeros16 : ByteArray) == zeros16) && true))], (apr_b6 r pb1 pb2 sb1 sb2 nb1 nb2 z30 z32 z34), [], z34 + 2⟩ ⟨(recB_iff r r).2 rfl, trivial, trivial⟩ A36_2, trivial⟩
    have A36_4 : apr_36G w pb1 pb2 sb1 sb2 nb1 nb2 W25 4 apr_n25 ⟨[(2, .bool false), (136, .bool (recB r r)), (137, .agg (List.toArray (apr_v7))), (139, .string zeros16)], (apr_b6 r pb1 pb2 sb1 sb2 nb1 nb2 z30 z32 z34), [], z34 + 2⟩ := by
      exact holds_anyAll (l := [16]) (by kernel_rfl) (by simp) ⟨eop apr_n26 oh1 [2, 136, 137, 140] [(recB r r) = true] [] ⟨[(2, .bool false), (136, .bool (recB r r)), (137, .agg (List.toArray (apr_v7))), (140, .agg (List.toArray (apr_v7)))], (apr_b6 r pb1 pb2 sb1 sb2 nb1 nb2 z30 z32 z34), [], z34 + 2⟩ ⟨(recB_iff r r).2 rfl, trivial⟩ A36_3, trivial⟩
    have A36_5 : apr_36G w pb1 pb2 sb1 sb2 nb1 nb2 W25 4 apr_n22 ⟨[(2, .bool false), (22, (pt z34 0)), (136, .bool (recB r r)), (140, .agg (List.toArray (apr_v7)))], (apr_b6 r pb1 pb2 sb1 sb2 nb1 nb2 z30 z32 z34), [], z34 + 2⟩ := by
      exact holds_anyAll (l := [13]) (by kernel_rfl) (by simp) ⟨eop apr_n26 ⟨true, 0, [⟨false, 6, 0, 10⟩]⟩ [2, 136, 137, 140] [(recB r r) = true] [(z34, 0, 10)] ⟨[(2, .bool false), (136, .bool (recB r r)), (137, .agg (List.toArray (apr_v7))), (140, .agg (List.toArray (apr_v7)))], (apr_b6 r pb1 pb2 sb1 sb2 nb1 nb2 z30 z32 z34), [], z34 + 2⟩ ⟨(recB_iff r r).2 rfl, trivial⟩ A36_3, trivial⟩
    have A36_6 : apr_36G w pb1 pb2 sb1 sb2 nb1 nb2 W25 5 apr_n24 ⟨[(2, .bool false), (136, .bool (recB r r)), (137, .agg (List.toArray (apr_v7))), (138, .slice (some ⟨z34 + 1, 0, none⟩) 16 16)], (apr_b6 r pb1 pb2 sb1 sb2 nb1 nb2 z30 z32 z34), [], z34 + 2⟩ := by
      exact holds_anyAll (l := [15]) (by kernel_rfl) (by simp) ⟨edge_opR (x := convert 53 9 (.slice (some ⟨z34 + 1, 0, none⟩) 16 16)) (ob := (recB r r) = true) (dst := some 139) apr_n25 (.string zeros16) [2, 136, 137, 139] (by kernel_rfl) (by kernel_rfl) ((recB_iff r r).2 rfl) (by kernel_rfl) rfl rfl (fun wx hm => by exact run_bytesAt (P := Try.prog) wx 53 9 5 _ _ _ _ _ (List.replicate 16 0) [] [] (by kernel_rfl) (by kernel_rfl) (by kernel_rfl) (hm.at_ 7 rfl) rfl rfl byts16) A36_4, trivial⟩
    have A36_7 : apr_36G w pb1 pb2 sb1 sb2 nb1 nb2 W25 5 apr_n21 ⟨[(2, .bool false), (22, (pt z34 0)), (136, .bool (recB r r)), (139, .string zeros16)], (apr_b6 r pb1 pb2 sb1 sb2 nb1 nb2 z30 z32 z34), [], z34 + 2⟩ := by
      exact holds_anyAll (l := [13, 16]) (by kernel_rfl) (by simp) ⟨eop apr_n25 ⟨true, 0, [⟨false, 6, 0, 10⟩]⟩ [2, 136, 137, 139] [(recB r r) = true] [(z34, 0, 10)] ⟨[(2, .bool false), (136, .bool (recB r r)), (137, .agg (List.toArray (apr_v7))), (139, .string zeros16)], (apr_b6 r pb1 pb2 sb1 sb2 nb1 nb2 z30 z32 z34), [], z34 + 2⟩ ⟨(recB_iff r r).2 rfl, trivial⟩ A36_4, eop apr_n22 oh1 [2, 22, 136, 140] [(recB r r) = true] [] ⟨[(2, .bool false), (22, (pt z34 0)), (136, .bool (recB r r)), (140, .agg (List.toArray (apr_v7)))], (apr_b6 r pb1 pb2 sb1 sb2 nb1 nb2 z30 z32 z34), [], z34 + 2⟩ ⟨(recB_iff r r).2 rfl, trivial⟩ A36_5, trivial⟩
    have A36_8 : apr_36G w pb1 pb2 sb1 sb2 nb1 nb2 W25 6 apr_n23 ⟨[(2, .bool false), (136, .bool (recB r r)), (137, .agg (List.toArray (apr_v7)))], (apr_b5 r pb1 pb2 sb1 sb2 nb1 nb2 z30 z32 z34), [], z34 + 1⟩ := by
      exact holds_anyAll (l := [14]) (by kernel_rfl) (by simp) ⟨eop apr_n24 oh1 [2, 136, 137, 138] [(recB r r) = true] [] ⟨[(2, .bool false), (136, .bool (recB r r)), (137, .agg (List.toArray (apr_v7))), (138, .slice (some ⟨z34 + 1, 0, none⟩) 16 16)], (apr_b6 r pb1 pb2 sb1 sb2 nb1 nb2 z30 z32 z34), [], z34 + 2⟩ ⟨(recB_iff r r).2 rfl, trivial⟩ A36_6, trivial⟩
    have A36_9 : apr_36G w pb1 pb2 sb1 sb2 nb1 nb2 W25 6 apr_n20 ⟨[(2, .bool false), (22, (pt z34 0)), (136, .bool (recB r r)), (138, .slice (some ⟨z34 + 1, 0, none⟩) 16 16)], (apr_b6 r pb1 pb2 sb1 sb2 nb1 nb2 z30 z32 z34), [], z34 + 2⟩ := by
      exact holds_anyAll (l := [13, 15]) (by kernel_rfl) (by simp) ⟨eop apr_n24 ⟨true, 0, [⟨false, 6, 0, 10⟩]⟩ [2, 136, 137, 138] [(recB r r) = true] [(z34, 0, 10)] ⟨[(2, .bool false), (136, .bool (recB r r)), (137, .agg (List.toArray (apr_v7))), (138, .slice (some ⟨z34 + 1, 0, none⟩) 16 16)], (apr_b6 r pb1 pb2 sb1 sb2 nb1 nb2 z30 z32 z34), [], z34 + 2⟩ ⟨(recB_iff r r).2 rfl, trivial⟩ A36_6, edge_opR (x := convert 53 9 (.slice (some ⟨z34 + 1, 0, none⟩) 16 16)) (ob := (recB r r) = true) (dst := some 139) apr_n21 (.string zeros16) [2, 22, 136, 139] (by kernel_rfl) (by kernel_rfl) ((recB_iff r r).2 rfl) (by kernel_rfl) rfl rfl (fun wx hm => by exact run_bytesAt (P := Try.prog) wx 53 9 5 _ _ _ _ _ (List.replicate 16 0) [] [] (by kernel_rfl) (by kernel_rfl) (by kernel_rfl) (hm.at_ 7 rfl) rfl rfl byts16) A36_7, trivial⟩
    have A36_10 : apr_36G w pb1 pb2 sb1 sb2 nb1 nb2 W25 7 apr_n19 ⟨[(2, .bool false), (22, (pt z34 0)), (136, .bool (recB r r))], (apr_b5 r pb1 pb2 sb1 sb2 nb1 nb2 z30 z32 z34), [], z34 + 1⟩ := by
      exact holds_anyAll (l := [13, 14]) (by kernel_rfl) (by simp) ⟨eop apr_n23 ⟨true, 0, [⟨false, 6, 0, 10⟩]⟩ [2, 136, 137] [(recB r r) = true] [(z34, 0, 10)] ⟨[(2, .bool false), (136, .bool (recB r r)), (137, .agg (List.toArray (apr_v7)))], (apr_b5 r pb1 pb2 sb1 sb2 nb1 nb2 z30 z32 z34), [], z34 + 1⟩ ⟨(recB_iff r r).2 rfl, trivial⟩ A36_8, eop apr_n20 oh1 [2, 22, 136, 138] [(recB r r) = true] [] ⟨[(2, .bool false), (22, (pt z34 0)), (136, .bool (recB r r)), (138, .slice (some ⟨z34 + 1, 0, none⟩) 16 16)], (apr_b6 r pb1 pb2 sb1 sb2 nb1 nb2 z30 z32 z34), [], z34 + 2⟩ ⟨(recB_iff r r).2 rfl, trivial⟩ A36_9, trivial⟩
    have A36_11 : apr_36G w pb1 pb2 sb1 sb2 nb1 nb2 W25 8 apr_n18 ⟨[(2, .bool false), (22, (pt z34 0)), (135, .bool (recB r r))], (apr_b5 r pb1 pb2 sb1 sb2 nb1 nb2 z30 z32 z34), [], z34 + 1⟩ := by
      exact holds_anyAll (l := [12]) (by kernel_rfl) (by simp) ⟨eop apr_n19 oh0 [2, 22, 136] [] [] ⟨[(2, .bool false), (22, (pt z34 0)), (136, .bool (recB r r))], (apr_b5 r pb1 pb2 sb1 sb2 nb1 nb2 z30 z32 z34), [], z34 + 1⟩ trivial A36_10, trivial⟩
    have A36_12 : apr_36G w pb1 pb2 sb1 sb2 nb1 nb2 W25 9 apr_n17 ⟨[(2, .bool false), (22, (pt z34 0)), (131, .bool true), (134, .bool (recB r r))], (apr_b5 r pb1 pb2 sb1 sb2 nb1 nb2 z30 z32 z34), [], z34 + 1⟩ := by
      exact holds_anyAll (l := [11]) (by kernel_rfl) (by simp) ⟨eop apr_n18 oh3 [2, 22, 135] [true = true] [] ⟨[(2, .bool false), (22, (pt z34 0)), (135, .bool (recB r r))], (apr_b5 r pb1 pb2 sb1 sb2 nb1 nb2 z30 z32 z34), [], z34 + 1⟩ ⟨rfl, trivial⟩ A36_11, trivial⟩
    have A36_13 : apr_36G w pb1 pb2 sb1 sb2 nb1 nb2 W25 10 apr_n16 ⟨[(2, .bool false), (22, (pt z34 0)), (131, .bool true), (132, .agg (List.toArray (apr_v6 r))), (133, .agg (List.toArray (apr_v6 r)))], (apr_b5 r pb1 pb2 sb1 sb2 nb1 nb2 z30 z32 z34), [], z34 + 1⟩ := by
      exact holds_anyAll (l := [10]) (by kernel_rfl) (by simp) ⟨eop apr_n17 ⟨true, 1, []⟩ [2, 22, 131, 134] [true = true, True] [] ⟨[(2, .bool false), (22, (pt z34 0)), (131, .bool true), (134, .bool (recB r r))], (apr_b5 r pb1 pb2 sb1 sb2 nb1 nb2 z30 z32 z34), [], z34 + 1⟩ ⟨rfl, trivial, trivial⟩ A36_12, trivial⟩
    have A36_14 : apr_36G w pb1 pb2 sb1 sb2 nb1 nb2 W25 11 apr_n15 ⟨[(2, .bool false), (20, (pt z32 0)), (22, (pt z34 0)), (131, .bool true), (132, .agg (List.toArray (apr_v6 r)))], (apr_b5 r pb1 pb2 sb1 sb2 nb1 nb2 z30 z32 z34), [], z34 + 1⟩ := by
      exact holds_anyAll (l := [9]) (by kernel_rfl) (by simp) ⟨eop apr_n16 ⟨true, 0, [⟨false, 5, 0, 10⟩]⟩ [2, 22, 131, 132, 133] [true = true] [(z32, 0, 10)] ⟨[(2, .bool false), (22, (pt z34 0)), (131, .bool true), (132, .agg (List.toArray (apr_v6 r))), (133, .agg (List.toArray (apr_v6 r)))], (apr_b5 r pb1 pb2 sb1 sb2 nb1 nb2 z30 z32 z34), [], z34 + 1⟩ ⟨rfl, trivial⟩ A36_13, trivial⟩
    have A36_15 : apr_36G w pb1 pb2 sb1 sb2 nb1 nb2 W25 11 apr_n14 ⟨[(2, .bool false), (18, (pt z30 0)), (22, (pt z34 0)), (131, .bool true), (133, .agg (List.toArray (apr_v6 r)))], (apr_b5 r pb1 pb2 sb1 sb2 nb1 nb2 z30 z32 z34), [], z34 + 1⟩ := by
      exact holds_anyAll (l := [8]) (by kernel_rfl) (by simp) ⟨eop apr_n16 ⟨true, 0, [⟨false, 4, 0, 10⟩]⟩ [2, 22, 131, 132, 133] [true = true] [(z30, 0, 10)] ⟨[(2, .bool false), (22, (pt z34 0)), (131, .bool true), (132, .agg (List.toArray (apr_v6 r))), (133, .agg (List.toArray (apr_v6 r)))], (apr_b5 r pb1 pb2 sb1 sb2 nb1 nb2 z30 z32 z34), [], z34 + 1⟩ ⟨rfl, trivial⟩ A36_13, trivial⟩
    have A36_16 : apr_36G w pb1 pb2 sb1 sb2 nb1 nb2 W25 12 apr_n13 ⟨[(2, .bool false), (18, (pt z30 0)), (20, (pt z32 0)), (22, (pt z34 0)), (131, .bool true)], (apr_b5 r pb1 pb2 sb1 sb2 nb1 nb2 z30 z32 z34), [], z34 + 1⟩ := by
      exact holds_anyAll (l := [8, 9]) (by kernel_rfl) (by simp) ⟨eop apr_n15 ⟨true, 0, [⟨false, 4, 0, 10⟩]⟩ [2, 20, 22, 131, 132] [true = true] [(z30, 0, 10)] ⟨[(2, .bool false), (20, (pt z32 0)), (22, (pt z34 0)), (131, .bool true), (132, .agg (List.toArray (apr_v6 r)))], (apr_b5 r pb1 pb2 sb1 sb2 nb1 nb2 z30 z32 z34), [], z34 + 1⟩ ⟨rfl, trivial⟩ A36_14, eop apr_n14 ⟨true, 0, [⟨false, 5, 0, 10⟩]⟩ [2, 18, 22, 131, 133] [true = true] [(z32, 0, 10)] ⟨[(2, .bool false), (18, (pt z30 0)), (22, (pt z34 0)), (131, .bool true), (133, .agg (List.toArray (apr_v6 r)))], (apr_b5 r pb1 pb2 sb1 sb2 nb1 nb2 z30 z32 z34), [], z34 + 1⟩ ⟨rfl, trivial⟩ A36_15, trivial⟩
    have A36_17 : apr_36G w pb1 pb2 sb1 sb2 nb1 nb2 W25 13 apr_n12 ⟨[(2, .bool false), (18, (pt z30 0)), (20, (pt z32 0)), (22, (pt z34 0)), (130, .bool true)], (apr_b5 r pb1 pb2 sb1 sb2 nb1 nb2 z30 z32 z34), [], z34 + 1⟩ := by
      exact holds_anyAll (l := [7]) (by kernel_rfl) (by simp) ⟨eop apr_n13 oh0 [2, 18, 20, 22, 131] [] [] ⟨[(2, .bool false), (18, (pt z30 0)), (20, (pt z32 0)), (22, (pt z34 0)), (131, .bool true)], (apr_b5 r pb1 pb2 sb1 sb2 nb1 nb2 z30 z32 z34), [], z34 + 1⟩ trivial A36_16, trivial⟩
    have A36_18 : apr_36G w pb1 pb2 sb1 sb2 nb1 nb2 W25 14 apr_n11 ⟨[(2, .bool false), (18, (pt z30 0)), (20, (pt z32 0)), (22, (pt z34 0)), (128, .bool true), (129, .bool true)], (apr_b5 r pb1 pb2 sb1 sb2 nb1 nb2 z30 z32 z34), [], z34 + 1⟩ := by
      exact holds_anyAll (l := [6]) (by kernel_rfl) (by simp) ⟨eop apr_n12 oh3 [2, 18, 20, 22, 130] [true = true] [] ⟨[(2, .bool false), (18, (pt z30 0)), (20, (pt z32 0)), (22, (pt z34 0)), (130, .bool true)], (apr_b5 r pb1 pb2 sb1 sb2 nb1 nb2 z30 z32 z34), [], z34 + 1⟩ ⟨rfl, trivial⟩ A36_17, trivial⟩
    have A36_19 : apr_36G w pb1 pb2 sb1 sb2 nb1 nb2 W25 15 apr_n10 ⟨[(2, .bool false), (18, (pt z30 0)), (20, (pt z32 0)), (22, (pt z34 0)), (23, .bool true), (128, .bool true)], (apr_b5 r pb1 pb2 sb1 sb2 nb1 nb2 z30 z32 z34), [], z34 + 1⟩ := by
      exact holds_anyAll (l := [5]) (by kernel_rfl) (by simp) ⟨eop apr_n11 oh1 [2, 18, 20, 22, 128, 129] [true = true] [] ⟨[(2, .bool false), (18, (pt z30 0)), (20, (pt z32 0)), (22, (pt z34 0)), (128, .bool true), (129, .bool true)], (apr_b5 r pb1 pb2 sb1 sb2 nb1 nb2 z30 z32 z34), [], z34 + 1⟩ ⟨rfl, trivial⟩ A36_18, trivial⟩
    have A36_20 : apr_36G w pb1 pb2 sb1 sb2 nb1 nb2 W25 16 apr_n9 ⟨[(2, .bool false), (18, (pt z30 0)), (20, (pt z32 0)), (22, (pt z34 0)), (23, .bool true), (127, .bool true)], (apr_b5 r pb1 pb2 sb1 sb2 nb1 nb2 z30 z32 z34), [], z34 + 1⟩ := by
      exact holds_anyAll (l := [4]) (by kernel_rfl) (by simp) ⟨eop apr_n10 oh0 [2, 18, 20, 22, 23, 128] [] [] ⟨[(2, .bool false), (18, (pt z30 0)), (20, (pt z32 0)), (22, (pt z34 0)), (23, .bool true), (128, .bool true)], (apr_b5 r pb1 pb2 sb1 sb2 nb1 nb2 z30 z32 z34), [], z34 + 1⟩ trivial A36_19, trivial⟩
    have A36_21 : apr_36G w pb1 pb2 sb1 sb2 nb1 nb2 W25 17 apr_n8 ⟨[(2, .bool false), (18, (pt z30 0)), (20, (pt z32 0)), (22, (pt z34 0)), (23, .bool true), (125, .bool true), (126, .bool true)], (apr_b5 r pb1 pb2 sb1 sb2 nb1 nb2 z30 z32 z34), [], z34 + 1⟩ := by
      exact holds_anyAll (l := [3]) (by kernel_rfl) (by simp) ⟨eop apr_n9 oh3 [2, 18, 20, 22, 23, 127] [true = true] [] ⟨[(2, .bool false), (18, (pt z30 0)), (20, (pt z32 0)), (22, (pt z34 0)), (23, .bool true), (127, .bool true)], (apr_b5 r pb1 pb2 sb1 sb2 nb1 nb2 z30 z32 z34), [], z34 + 1⟩ ⟨rfl, trivial⟩ A36_20, trivial⟩
    have A36_22 : apr_36G w pb1 pb2 sb1 sb2 nb1 nb2 W25 18 apr_n7 ⟨[(2, .bool false), (18, (pt z30 0)), (20, (pt z32 0)), (21, .bool true), (22, (pt z34 0)), (23, .bool true), (125, .bool true)], (apr_b5 r pb1 pb2 sb1 sb2 nb1 nb2 z30 z32 z34), [], z34 + 1⟩ := by
      exact holds_anyAll (l := [2]) (by kernel_rfl) (by simp) ⟨eop apr_n8 oh1 [2, 18, 20, 22, 23, 125, 126] [true = true] [] ⟨[(2, .bool false), (18, (pt z30 0)), (20, (pt z32 0)), (22, (pt z34 0)), (23, .bool true), (125, .bool true), (126, .bool true)], (apr_b5 r pb1 pb2 sb1 sb2 nb1 nb2 z30 z32 z34), [], z34 + 1⟩ ⟨rfl, trivial⟩ A36_21, trivial⟩
    have A36_23 : apr_36G w pb1 pb2 sb1 sb2 nb1 nb2 W25 19 apr_n6 ⟨[(2, .bool false), (18, (pt z30 0)), (20, (pt z32 0)), (21, .bool true), (22, (pt z34 0)), (23, .bool true), (124, .bool true)], (apr_b5 r pb1 pb2 sb1 sb2 nb1 nb2 z30 z32 z34), [], z34 + 1⟩ := by
      exact holds_anyAll (l := [1]) (by kernel_rfl) (by simp) ⟨eop apr_n7 oh0 [2, 18, 20, 21, 22, 23, 125] [] [] ⟨[(2, .bool false), (18, (pt z30 0)), (20, (pt z32 0)), (21, .bool true), (22, (pt z34 0)), (23, .bool true), (125, .bool true)], (apr_b5 r pb1 pb2 sb1 sb2 nb1 nb2 z30 z32 z34), [], z34 + 1⟩ trivial A36_22, trivial⟩
    have A36_24 : apr_36G w pb1 pb2 sb1 sb2 nb1 nb2 W25 20 #[false, false, false, false, false, false, false, false, false, false, false, false, false, false, false, false, false, false, false, false] ⟨[(2, .bool false), (18, (pt z30 0)), (19, .bool true), (20, (pt z32 0)), (21, .bool true), (22, (pt z34 0)), (23, .bool true)], (apr_b5 r pb1 pb2 sb1 sb2 nb1 nb2 z30 z32 z34), [], z34 + 1⟩ := by
      exact holds_anyAll (l := [0]) (by kernel_rfl) (by simp) ⟨eop apr_n6 oh0 [2, 18, 20, 21, 22, 23, 124] [] [] ⟨[(2, .bool false), (18, (pt z30 0)), (20, (pt z32 0)), (21, .bool true), (22, (pt z34 0)), (23, .bool true), (124, .bool true)], (apr_b5 r pb1 pb2 sb1 sb2 nb1 nb2 z30 z32 z34), [], z34 + 1⟩ trivial A36_23, trivial⟩
    exact holds_anyStart (by kernel_rfl) (by kernel_rfl) (by kernel_rfl) (by kernel_rfl) A36_24
  refine hgo 3 [] [2] [] [] [.code apr_n3] ⟨[(2, .bool (((zeros16 : ByteArray) == zeros16) && true))], (apr_b6 r pb1 pb2 sb1 sb2 nb1 nb2 z30 z32 z34), [], z34 + 2⟩ trivial ?_
  refine hrt [] [.bool (((zeros16 : ByteArray) == zeros16) && true)] [] ?_
  intro wx hm
  exact ⟨ret_bool (by simp [bytes_beq]), (MemOk.back2 hm25 hm).kept⟩

end Go.Proofs.Ytfiheghjhgnblaa
