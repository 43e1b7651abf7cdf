/- NodeTwice, walked. -/
import Derived.Test.YtfiheghjhgnblaaAwake10
namespace Go.Proofs.Ytfiheghjhgnblaa
open Go.RowKit

def twi_v1 (acts : Nat → Act10) (i : Nat) : List Value := [.int .i64 ((acts i).ask.kind), .int .i64 ((acts i).ask.stripe), .int .i64 ((acts i).ask.epoch), .int .i64 ((acts i).ask.seq), .int .i64 ((acts i).ask.mask), .int .i64 ((acts i).ask.node), .int .i64 ((acts i).ask.oe), .int .i64 ((acts i).ask.os), .string ((acts i).ask.block)]
def twi_v2 (acts : Nat → Act10) (i : Nat) : List Value := [.int .i64 ((acts i).what), .int .i64 ((acts i).stripe), .int .i64 ((acts i).n), .int .i64 ((acts i).ask.kind), .int .i64 ((acts i).ask.stripe), .int .i64 ((acts i).ask.epoch), .int .i64 ((acts i).ask.seq), .int .i64 ((acts i).ask.mask), .int .i64 ((acts i).ask.node), .int .i64 ((acts i).ask.oe), .int .i64 ((acts i).ask.os), .string ((acts i).ask.block), .string ((acts i).text), .slice (acts i).ka ((acts i).kn) ((acts i).kc)]
def twi_v3 (q : AskM) : List Value := [.int .i64 q.kind, .int .i64 0, .int .i64 q.epoch, .int .i64 q.seq, .int .i64 q.mask, .int .i64 q.node, .int .i64 q.oe, .int .i64 q.os, .string q.block]
def twi_v4 (s : SayR) : List Value := [.int .i64 s.st, .int .i64 s.ep, .int .i64 s.ou, .bool s.rc.used, .int .i64 s.rc.fence, .int .i64 s.rc.de, .int .i64 s.rc.ds, .string s.rc.block, .bool s.rc.op, .int .i64 s.rc.ie, .int .i64 s.rc.is, .int .i64 s.rc.mask, .string s.rc.staged]
def twi_v5 (t : SayR) : List Value := [.int .i64 t.st, .int .i64 t.ep, .int .i64 t.ou, .bool t.rc.used, .int .i64 t.rc.fence, .int .i64 t.rc.de, .int .i64 t.rc.ds, .string t.rc.block, .bool t.rc.op, .int .i64 t.rc.ie, .int .i64 t.rc.is, .int .i64 t.rc.mask, .string t.rc.staged]
def twi_n1 : List Nat := [1, 1, 1, 1, 1, 0, 1, 0, 0, 1, 0, 0, 1, 1, 1, 1, 1, 0]
def twi_n2 : List Nat := [1, 1, 1, 1, 1, 0, 1, 0, 0, 1, 0, 0, 1, 1, 1, 1, 1, 1]
def twi_n3 : List Nat := [1, 1, 1, 1, 1, 0, 1, 0, 0, 1, 1]
@[simp] def twi_b1 (pb : Nat) (sb : Nat) (nb : Nat) : List Bk := [⟨sb, 82, false, [(pt pb 0), .int .i64 1]⟩, ⟨nb, 69, false, [(pt sb 0), .int .i64 1]⟩]
@[simp] def twi_b2 (q : AskM) (pb : Nat) (sb : Nat) (nb : Nat) (z15 : Nat) : List Bk := [⟨sb, 82, false, [(pt pb 0), .int .i64 1]⟩, ⟨nb, 69, false, [(pt sb 0), .int .i64 1]⟩, ⟨z15, 35, true, (twi_v3 q)⟩]
@[simp] def twi_b3 (q : AskM) (s : SayR) (pb : Nat) (sb : Nat) (nb : Nat) (W11 : World) (z15 : Nat) : List Bk := [⟨sb, 82, false, [(pt pb 0), .int .i64 1]⟩, ⟨nb, 69, false, [(pt sb 0), .int .i64 1]⟩, ⟨z15, 35, true, (twi_v3 q)⟩, ⟨W11.heap.size, 45, true, (twi_v4 s)⟩]
@[simp] def twi_b4 (q : AskM) (s : SayR) (t : SayR) (pb : Nat) (sb : Nat) (nb : Nat) (W11 : World) (W12 : World) (z15 : Nat) : List Bk := [⟨sb, 82, false, [(pt pb 0), .int .i64 1]⟩, ⟨nb, 69, false, [(pt sb 0), .int .i64 1]⟩, ⟨z15, 35, true, (twi_v3 q)⟩, ⟨W11.heap.size, 45, true, (twi_v4 s)⟩, ⟨W12.heap.size, 45, true, (twi_v5 t)⟩]
def TwiceI (A : Option Addr) (n : Nat) (cp : Nat) (lb : Nat) (mb : Nat) (pb : Nat) (sb : Nat) (nb : Nat)  (m : Nat) (st : St) (W0 : World) : Prop :=
  ∃ (i : Nat) (M : Pl) (z : Nat), m + i = 40 ∧ OnPl lb mb 1 (2 + 2 * (i : Int)) M ∧ PlatAt 64 80 W0 pb M ∧ st = ⟨[(0, .slice A n cp), (2, .bool false), (4, (pt pb 0)), (6, (pt nb 0)), (8, .int .i64 (i : Int))], (twi_b1 pb sb nb), [], z⟩
set_option maxRecDepth 100000 in
set_option maxHeartbeats 4000000 in
theorem twice_any (A : Option Addr) (n cp : Nat) (acts : Nat → Act10) (w : World) (HF : Acts10At w A n acts) :
    Calls Try.prog 3 #[.slice A n cp] w (RetK (.bool true) w) := by
  refine calls_of_holds (S := (fun _ => False)) (l := [.slice A n cp]) (n := 100) Try.func3 (body_of (by kernel_rfl)) rfl (by simp) (MemOk.none w _) ?_
  refine hgo 9 [oh0] [0, 2] [] [] [.ops [1, 0] [0, 1], .code [1, 1]] ⟨[(0, .slice A n cp), (2, .bool false)], [], [], w.heap.size⟩ trivial ?_
  refine hcp (.bool true) 7 [] (some 15) [] trivial rfl (fun wx hm => awake10P wx) fun z2 hz2 => ?_
  replace hz2 : w.heap.size ≤ z2 := hz2
  refine hgo 7 [oh0] [0, 2, 3] [] [] [.ops [1, 1, 0] [0, 1, 2, 3, 4, 5], .code [1, 1, 1]] ⟨[(0, .slice A n cp), (2, .bool false), (3, .bool true)], [], [], z2⟩ trivial ?_
  refine holds_callW (w := w) (S' := (fun _ => False)) (Y := Nat × Nat × Nat) (fun (⟨lb, mb, pb⟩ : Nat × Nat × Nat) => .tuple #[(pt pb 0), .int .i64 0]) (fun (⟨lb, mb, pb⟩ : Nat × Nat × Nat) => []) (fun (⟨lb, mb, pb⟩ : Nat × Nat × Nat) W_ => (z2 ≤ lb ∧ lb < mb ∧ mb < pb) ∧ PlatAt 64 80 W_ pb (newPl lb mb 1)) (fun (⟨lb, mb, pb⟩ : Nat × Nat × Nat) => [(17, .tuple #[(pt pb 0), .int .i64 0]), (0, .slice A n cp), (2, .bool false), (3, .bool true)]) (show _ = some (8, [.int .i64 1], some 17, []) by kernel_rfl) trivial (fun _ => rfl) (fun wx hm => ?_) (fun y W1 hX1 hm1 => ?_)
  · refine (new_pl 1 (by omega) wx).mono fun e w' ⟨lb', mb', pb', he, h1, h2, h3, h4, h5⟩ => ?_
    have hs : wx.heap.size = z2 := hm.size
    exact ⟨(lb', mb', pb'), he, ⟨⟨by omega, h2, h3⟩, h4⟩, (hm.same h5).2⟩
  obtain ⟨lb, mb, pb⟩ := y
  obtain ⟨hz_pb, hX1⟩ := hX1
  have hA_pb := on_new lb mb 1
  have hP1pb := hX1
  have hl_hP1pb := on_lt hA_pb hP1pb
  have hnT : ∀ xx, (xx = pb ∨ xx = lb ∨ xx = mb) → ¬ Turned [] xx := by
    rintro xx hx2 ⟨b, hb, hr, he⟩
    simp at hb
  refine hgo 12 [oh0, oh0, oh0, oh0, oh0, oh0] [0, 2, 3, 4, 21] [] [] [.ops [1, 1, 1, 0] [1, 2, 3, 4, 5, 6], .code [1, 1, 1, 1]] ⟨[(0, .slice A n cp), (2, .bool false), (3, .bool true), (4, (pt pb 0)), (21, (pt pb 0))], [], [], W1.heap.size⟩ trivial ?_
  refine holds_callW (w := w) (S' := (fun _ => False)) (Y := Nat × Nat) (fun (⟨sb, nb⟩ : Nat × Nat) => .tuple #[(pt nb 0), .int .i64 0]) (fun (⟨sb, nb⟩ : Nat × Nat) => (twi_b1 pb sb nb)) (fun (⟨sb, nb⟩ : Nat × Nat) W_ => (W1.heap.size ≤ sb ∧ sb < nb) ∧ PlatAt 64 80 W_ pb (newPl lb mb 1)) (fun (⟨sb, nb⟩ : Nat × Nat) => [(22, .tuple #[(pt nb 0), .int .i64 0]), (0, .slice A n cp), (2, .bool false), (3, .bool true), (4, (pt pb 0)), (21, (pt pb 0))]) (show _ = some (9, [(pt pb 0), .int .i64 1], some 22, []) by kernel_rfl) trivial (fun _ => rfl) (fun wx hm => ?_) (fun y W2 hX2 hm2 => ?_)
  · refine (nodeNew_st (newPl lb mb 1) pb 1 (by omega) (by rw [hA_pb.n]; omega) wx (hP1pb.kept hm.kept (fun xx hx => hnT xx (by have := on_mine hA_pb hx; omega)))).mono fun e w' ⟨sb', nb', he, h1, h2, h3, h4, h5⟩ => ?_
    have hs : wx.heap.size = W1.heap.size := hm.size
    exact ⟨(sb', nb'), he, ⟨⟨by omega, h2⟩, (hP1pb.kept hm.kept (fun xx hx => hnT xx (by have := on_mine hA_pb hx; omega))).kept h5 (fun _ _ h => h)⟩, ((MemOk.back2 hm1 hm).add h5 [⟨sb', 82, false, _⟩, ⟨nb', 69, false, _⟩] ⟨h3, h4, trivial⟩ (by simp; omega) (by simp; omega)).2⟩
  clear hnT
  obtain ⟨sb, nb⟩ := y
  obtain ⟨hz_nb, hX2⟩ := hX2
  have hP2pb := hX2
  have hl_hP2pb := on_lt hA_pb hP2pb
  have hgb2_0 : sb < W2.heap.size := (hm2.at_ 0 rfl).lt
  have hgb2_1 : nb < W2.heap.size := (hm2.at_ 1 rfl).lt
  have hnT : ∀ xx, (xx = pb ∨ xx = lb ∨ xx = mb) → ¬ Turned (twi_b1 pb sb nb) xx := by
    rintro xx hx2 ⟨b, hb, hr, he⟩
    simp at hb
    rcases hb with rfl | rfl <;> simp at he hr <;> omega
  refine hgo 24 [oh0, oh0, oh0, oh0, oh0, oh0, oh0, oh0, oh0, oh0, ⟨false, 3, []⟩, oh0, oh0, oh0, ⟨false, 3, []⟩, oh0, oh0] [0, 2, 4, 6, 35, 36] [false = false, false = false, false = false, false = false, false = false, false = false, false = false] [] [.ops [1, 1, 1, 1, 0, 0] [12, 13, 14], .code [1, 1, 1, 1, 0, 1], .code [1, 1, 1, 1, 1]] ⟨[(0, .slice A n cp), (2, .bool false), (4, (pt pb 0)), (6, (pt nb 0)), (35, .bool false), (36, (pt nb 0))], (twi_b1 pb sb nb), [], W2.heap.size⟩ ⟨rfl, rfl, rfl, rfl, rfl, rfl, rfl, trivial⟩ ?_
  obtain ⟨hA_f, hK_f, hG_f⟩ := on_fmt hA_pb hP2pb.ok (by omega) 1 (by omega)
  have hnB : ∀ b ∈ ((twi_b1 pb sb nb) : List Bk), ¬ (b.g = pb ∨ b.g = lb ∨ b.g = mb) := by
    intro b hb hx2
    simp at hb
    rcases hb with rfl | rfl <;> simp at hx2 <;> omega
  refine holds_callW (w := w) (S' := (fun _ => False)) (Y := Nat) (fun _ => .int .i64 0) (fun _ => (twi_b1 pb sb nb)) (fun _ W_ => PlatAt 64 80 W_ pb (fmtPl (newPl lb mb 1) 1)) (fun _ => [(37, .int .i64 0), (0, .slice A n cp), (2, .bool false), (4, (pt pb 0)), (6, (pt nb 0)), (35, .bool false), (36, (pt nb 0))]) (show _ = some (10, [(pt nb 0)], some 37, [false = false]) by kernel_rfl) ⟨rfl, trivial⟩ (fun _ => rfl) (fun wx hm => ?_) (fun _ W3 hX3 hm3 => ?_)
  · refine (nodeFormat_pl (newPl lb mb 1) pb sb nb 1 lb mb 0 (by omega) hA_pb (by omega) (fun h => by have := on_mine hA_pb h; omega) (fun h => by have := on_mine hA_pb h; omega) (by omega) wx (hP2pb.kept hm.kept (fun xx hx => hnT xx (by have := on_mine hA_pb hx; omega))) (hm.at_ 0 rfl) (hm.at_ 1 rfl)).mono fun e w' ⟨h1, h2, h3⟩ => ?_
    exact ⟨0, h1, h2, (MemOk.back2 hm2 hm).off (fun _ h => h) h3 (fun x h => .inr (by have := on_mine hA_pb h; omega)) (fun b hb h => hnB b hb (by have := on_mine hA_pb h; omega))⟩
  clear hnT hnB
  have hP3pb := hX3
  have hl_hP3pb := on_lt hA_f hP3pb
  have hgb3_0 : sb < W3.heap.size := (hm3.at_ 0 rfl).lt
  have hgb3_1 : nb < W3.heap.size := (hm3.at_ 1 rfl).lt
  have hnT : ∀ xx, (xx = pb ∨ xx = lb ∨ xx = mb) → ¬ Turned (twi_b1 pb sb nb) xx := by
    rintro xx hx2 ⟨b, hb, hr, he⟩
    simp at hb
    rcases hb with rfl | rfl <;> simp at he hr <;> omega
  refine hgo 14 [oh0, ⟨false, 3, []⟩, oh0, oh0] [0, 2, 4, 6, 8] [false = false, false = false, false = false] [] [.code [1, 1, 1, 1, 1, 0, 1, 0], .blk 0, .code [1, 1, 1, 1, 1, 1]] ⟨[(0, .slice A n cp), (2, .bool false), (4, (pt pb 0)), (6, (pt nb 0)), (8, .int .i64 0)], (twi_b1 pb sb nb), [], W3.heap.size⟩ ⟨rfl, rfl, rfl, trivial⟩ ?_
  refine holds_loopW (w := w) (S' := fun _ => False) (TwiceI A n cp lb mb pb sb nb) 40 (by kernel_rfl) (fun W0 hm => ⟨⟨0, fmtPl (newPl lb mb 1) 1, _, rfl, hA_f, (hP3pb.kept hm.kept (fun xx hx => hnT xx (by have := on_mine hA_f hx; omega))), rfl⟩, MemOk.back2 hm3 hm⟩) ?_
  clear hnT hA_f hK_f hG_f
  rintro m _ W10 ⟨i, M, z, hmi, hA, hP10pb, rfl⟩ hm10 J hJ
  have hl_hP10pb := on_lt hA hP10pb
  have hgb10_0 : sb < W10.heap.size := (hm10.at_ 0 rfl).lt
  have hgb10_1 : nb < W10.heap.size := (hm10.at_ 1 rfl).lt
  have hnT : ∀ xx, (xx = pb ∨ xx = lb ∨ xx = mb) → ¬ Turned (twi_b1 pb sb nb) xx := by
    rintro xx hx2 ⟨b, hb, hr, he⟩
    simp at hb
    rcases hb with rfl | rfl <;> simp at he hr <;> omega
  have hw1 := hm10.kept.size
  by_cases h1 : i < n
  rotate_left
  · skip
    refine hgo 21 [oh0, oh0, oh0, oh0, oh0, oh0, oh0, ⟨false, 3, []⟩, oh0, oh0] [2] [(decide (((i : Int) : Int) < (n : Int))) = false, (decide (((i : Int) : Int) < (n : Int))) = false, (decide (((i : Int) : Int) < (n : Int))) = false, false = false] [] [.code [1, 1, 1, 1, 1, 1, 1]] ⟨[(2, .bool true)], (twi_b1 pb sb nb), [], W10.heap.size⟩ ⟨decide_eq_false (by omega), decide_eq_false (by omega), decide_eq_false (by omega), rfl, trivial⟩ ?_
    refine hrt [] [.bool true] [] ?_
    intro wx hm
    exact ⟨rfl, (MemOk.back2 hm10 hm).kept⟩
  by_cases h2 : i < 40
  rotate_left
  · skip
    refine hgo 21 [oh0, oh0, oh0, oh0, oh0, oh1, oh1, oh3, oh0, oh0] [2] [(decide (((i : Int) : Int) < (n : Int))) = true, (decide (((i : Int) : Int) < (n : Int))) = true, (decide (((i : Int) : Int) < (n : Int))) = true, (decide (((i : Int) : Int) < 40)) = false] [] [.code [1, 1, 1, 1, 1, 1, 1]] ⟨[(2, .bool true)], (twi_b1 pb sb nb), [], W10.heap.size⟩ ⟨decide_eq_true (by omega), decide_eq_true (by omega), decide_eq_true (by omega), decide_eq_false (by omega), trivial⟩ ?_
    refine hrt [] [.bool true] [] ?_
    intro wx hm
    exact ⟨rfl, (MemOk.back2 hm10 hm).kept⟩
  obtain ⟨ha, b, o, rfl, hb, hc⟩ := HF i h1
  have hnb : ∀ x, x < w.heap.size → ¬ Turned (twi_b1 pb sb nb) x := by
    rintro x hx ⟨b, hb, hr, he⟩
    simp at hb
    rcases hb with rfl | rfl <;> simp at he hr
  refine holds_wins [⟨b, o + i * 14, (acts i).cells⟩] (fun _ x hx => ?_) ?_
  · simp only [List.mem_singleton] at hx
    subst hx
    exact ⟨hnb _ hb, win_kept hb hc rfl hm10.kept id⟩
  obtain ⟨q, hq⟩ : ∃ q, fitF (acts i).ask = q := ⟨_, rfl⟩
  have hqok := qs_ok (hq ▸ fitF_ok (acts i).ask) (k := 0) (by omega)
  obtain ⟨r, hr⟩ : ∃ r, gotM M 0 = r := ⟨_, rfl⟩
  obtain ⟨⟨x, s⟩, hxs⟩ : ∃ xs, applyM r (qs q 0) = xs := ⟨_, rfl⟩
  obtain ⟨t, hts, hst⟩ := twice hqok.kind.1 hxs
  have hep := ep_twice hqok.kind.1 hxs hts
  obtain ⟨hA2, hO2, hS2, hG2⟩ := on_serv hA hP10pb.ok hqok
  have hs2 : servS M (qs q 0) = s := by
    rw [hS2]
    show (applyM (gotM M 0) _).2 = _
    rw [hr, hxs]
  have hr2 : gotM (servPl M (qs q 0)) 0 = x := by
    rw [hG2 0 (by omega), if_pos (show (0 : Int) = (qs q 0).stripe from rfl)]
    unfold behM
    show (applyM (gotM M 0) _).1 = _
    rw [hr, hxs]
  refine hgo 26 [oh0, oh0, oh0, oh0, oh0, oh1, oh1, oh3, oh1, oh0, oh0, oh2, oh0, ⟨false, 0, [⟨true, 0, 3, 9⟩]⟩] [0, 2, 4, 6, 8, 54] [(decide (((i : Int) : Int) < (n : Int))) = true, (decide (((i : Int) : Int) < (n : Int))) = true, (decide (((i : Int) : Int) < (n : Int))) = true, (decide (((i : Int) : Int) < 40)) = true, (0 : Int) ≤ (i : Int) ∧ (i : Int) < ((n : Nat) : Int)] [(b, o + i * 14 + 3, 9)] [.ops [1, 1, 1, 1, 1, 0, 1, 0, 0, 1, 0, 0, 0] [5, 6, 7], .code [1, 1, 1, 1, 1, 0, 1, 0, 0, 1, 0, 0, 1], .blk 1, .code twi_n3, .inv J, .blk 0, .code [1, 1, 1, 1, 1, 1]] ⟨[(0, .slice (some ⟨b, o, none⟩) n cp), (2, .bool false), (4, (pt pb 0)), (6, (pt nb 0)), (8, .int .i64 (i : Int)), (54, .agg (List.toArray (twi_v1 acts i)))], (twi_b1 pb sb nb), [⟨b, o + i * 14, (twi_v2 acts i)⟩], W10.heap.size⟩ ⟨decide_eq_true (by omega), decide_eq_true (by omega), decide_eq_true (by omega), decide_eq_true (by omega), ⟨by omega, by omega⟩, trivial⟩ ?_
  refine hcp (.agg #[.int .i64 q.kind, .int .i64 q.stripe, .int .i64 q.epoch, .int .i64 q.seq, .int .i64 q.mask, .int .i64 q.node, .int .i64 q.oe, .int .i64 q.os, .string q.block]) 11 [.agg (List.toArray (twi_v1 acts i))] (some 55) [] trivial rfl (fun wx hm => fitP (acts i).ask q hq wx ha.ask) fun z15 hz15 => ?_
  replace hz15 : W10.heap.size ≤ z15 := hz15
  refine hgo 15 [oh0, ⟨false, 0, [⟨false, 2, 0, 9⟩]⟩, oh0, ⟨false, 0, [⟨false, 2, 1, 1⟩]⟩, oh0, ⟨false, 0, [⟨false, 2, 0, 9⟩]⟩] [0, 2, 4, 6, 8, 9, 58, 59] [] [(z15, 0, 9), (z15, 1, 1), (z15, 0, 9)] [.ops [1, 1, 1, 1, 1, 0, 1, 0, 0, 1, 0, 0, 1, 1, 0] [2, 3, 4, 5, 6, 7, 8], .code [1, 1, 1, 1, 1, 0, 1, 0, 0, 1, 0, 0, 1, 1, 1], .blk 1, .code twi_n3, .inv J, .blk 0, .code [1, 1, 1, 1, 1, 1]] ⟨[(0, .slice (some ⟨b, o, none⟩) n cp), (2, .bool false), (4, (pt pb 0)), (6, (pt nb 0)), (8, .int .i64 (i : Int)), (9, (pt z15 0)), (58, (pt nb 0)), (59, .agg (List.toArray (twi_v3 q)))], (twi_b2 q pb sb nb z15), [⟨b, o + i * 14, (twi_v2 acts i)⟩], z15 + 1⟩ trivial ?_
  have hnB : ∀ b ∈ ((twi_b2 q pb sb nb z15) : List Bk), ¬ (b.g = pb ∨ b.g = lb ∨ b.g = mb) := by
    intro b hb hx2
    simp at hb
    rcases hb with rfl | rfl | rfl <;> simp at hx2 <;> omega
  refine holds_callW (w := w) (S' := (fun _ => False)) (Y := Nat) (fun _ => .tuple #[.agg (List.toArray (twi_v4 s)), .bool true]) (fun _ => (twi_b2 q pb sb nb z15)) (fun _ W_ => PlatAt 64 80 W_ pb (servPl M (qs q 0))) (fun _ => [(60, .tuple #[.agg (List.toArray (twi_v4 s)), .bool true]), (0, .slice (some ⟨b, o, none⟩) n cp), (2, .bool false), (4, (pt pb 0)), (6, (pt nb 0)), (8, .int .i64 (i : Int)), (9, (pt z15 0)), (58, (pt nb 0)), (59, .agg (List.toArray (twi_v3 q)))]) (show _ = some (12, [(pt nb 0), .agg (List.toArray (twi_v3 q))], some 60, []) by kernel_rfl) trivial (fun _ => rfl) (fun wx hm => ?_) (fun _ W11 hX11 hm11 => ?_)
  · refine (serve_pl M pb sb nb 1 (qs q 0) hqok (by show (0 : Int) < 1; omega) (by rw [hA.n]; show (0 : Int) < 1; omega) hA.off (by have := hA.acts; omega) (fun h => by have := on_mine hA h; omega) (fun h => by have := on_mine hA h; omega) (by omega) wx (hP10pb.kept hm.kept (fun xx hx => hnT xx (by have := on_mine hA hx; omega))) (hm.at_ 0 rfl) (hm.at_ 1 rfl)).mono fun e w' ⟨h1, h2, h3⟩ => ?_
    rw [hO2, hs2] at h1
    exact ⟨0, h1, h2, (MemOk.back2 hm10 hm).off (fun _ h => h) h3 (fun x h => .inr (by have := on_mine hA h; omega)) (fun b hb h => hnB b hb (by have := on_mine hA h; omega))⟩
  clear hnT hnB
  have hP11pb := hX11
  have hl_hP11pb := on_lt hA2 hP11pb
  have hgb11_0 : sb < W11.heap.size := (hm11.at_ 0 rfl).lt
  have hgb11_1 : nb < W11.heap.size := (hm11.at_ 1 rfl).lt
  have hgb11_2 : z15 < W11.heap.size := (hm11.at_ 2 rfl).lt
  have hnT : ∀ xx, (xx = pb ∨ xx = lb ∨ xx = mb) → ¬ Turned (twi_b2 q pb sb nb z15) xx := by
    rintro xx hx2 ⟨b, hb, hr, he⟩
    simp at hb
    rcases hb with rfl | rfl | rfl <;> simp at he hr <;> omega
  refine hgo 13 [oh0, oh0, oh0, oh0, ⟨false, 0, [⟨false, 3, 0, 13⟩]⟩, oh0, oh0] [0, 2, 4, 6, 8, 9, 10, 11, 63] [] [(W11.heap.size, 0, 13)] [.ops [1, 1, 1, 1, 1, 0, 1, 0, 0, 1, 0, 0, 1, 1, 1, 0] [1, 2], .code [1, 1, 1, 1, 1, 0, 1, 0, 0, 1, 0, 0, 1, 1, 1, 1], .blk 1, .code twi_n3, .inv J, .blk 0, .code [1, 1, 1, 1, 1, 1]] ⟨[(0, .slice (some ⟨b, o, none⟩) n cp), (2, .bool false), (4, (pt pb 0)), (6, (pt nb 0)), (8, .int .i64 (i : Int)), (9, (pt z15 0)), (10, (pt W11.heap.size 0)), (11, .bool true), (63, (pt pb 0))], (twi_b3 q s pb sb nb W11 z15), [], W11.heap.size + 1⟩ trivial ?_
  refine hcp (.int .i64 ((servPl M (qs q 0)).acts)) 13 [(pt pb 0)] (some 64) [] trivial rfl (fun wx hm => acts_pl (servPl M (qs q 0)) pb wx (hP11pb.kept hm.kept (fun xx hx => hnT xx (by have := on_mine hA2 hx; omega)))) fun z19 hz19 => ?_
  replace hz19 : W11.heap.size + 1 ≤ z19 := hz19
  refine hgo 9 [oh0, oh0, ⟨false, 0, [⟨false, 2, 0, 9⟩]⟩] [0, 2, 4, 6, 8, 10, 11, 12, 66, 67] [] [(z15, 0, 9)] [.ops [1, 1, 1, 1, 1, 0, 1, 0, 0, 1, 0, 0, 1, 1, 1, 1, 0] [2, 3, 4, 5, 6, 7, 8], .code [1, 1, 1, 1, 1, 0, 1, 0, 0, 1, 0, 0, 1, 1, 1, 1, 1], .blk 1, .code twi_n3, .inv J, .blk 0, .code [1, 1, 1, 1, 1, 1]] ⟨[(0, .slice (some ⟨b, o, none⟩) n cp), (2, .bool false), (4, (pt pb 0)), (6, (pt nb 0)), (8, .int .i64 (i : Int)), (10, (pt W11.heap.size 0)), (11, .bool true), (12, .int .i64 ((servPl M (qs q 0)).acts)), (66, (pt nb 0)), (67, .agg (List.toArray (twi_v3 q)))], (twi_b3 q s pb sb nb W11 z15), [], z19⟩ trivial ?_
  obtain ⟨hA3, hO3, hS3, hG3⟩ := on_serv hA2 hP11pb.ok hqok
  have hs3 : servS (servPl M (qs q 0)) (qs q 0) = t := by
    rw [hS3]
    show (applyM (gotM (servPl M (qs q 0)) 0) _).2 = _
    rw [hr2, hts]
  have hM3 : servPl (servPl M (qs q 0)) (qs q 0) = servPl M (qs q 0) := by
    have e : recB (behM (servPl M (qs q 0)) (qs q 0)) (gotM (servPl M (qs q 0)) (qs q 0).stripe) = true := by
      refine (recB_iff _ _).2 ?_
      unfold behM
      show (applyM (gotM (servPl M (qs q 0)) 0) _).1 = gotM (servPl M (qs q 0)) 0
      rw [hr2, hts]
    exact serv_same e
  have hnB : ∀ b ∈ ((twi_b3 q s pb sb nb W11 z15) : List Bk), ¬ (b.g = pb ∨ b.g = lb ∨ b.g = mb) := by
    intro b hb hx2
    simp at hb
    rcases hb with rfl | rfl | rfl | rfl <;> simp at hx2 <;> omega
  refine holds_callW (w := w) (S' := (fun _ => False)) (Y := Nat) (fun _ => .tuple #[.agg (List.toArray (twi_v5 t)), .bool true]) (fun _ => (twi_b3 q s pb sb nb W11 z15)) (fun _ W_ => PlatAt 64 80 W_ pb (servPl M (qs q 0))) (fun _ => [(68, .tuple #[.agg (List.toArray (twi_v5 t)), .bool true]), (0, .slice (some ⟨b, o, none⟩) n cp), (2, .bool false), (4, (pt pb 0)), (6, (pt nb 0)), (8, .int .i64 (i : Int)), (10, (pt W11.heap.size 0)), (11, .bool true), (12, .int .i64 ((servPl M (qs q 0)).acts)), (66, (pt nb 0)), (67, .agg (List.toArray (twi_v3 q)))]) (show _ = some (12, [(pt nb 0), .agg (List.toArray (twi_v3 q))], some 68, []) by kernel_rfl) trivial (fun _ => rfl) (fun wx hm => ?_) (fun _ W12 hX12 hm12 => ?_)
  · refine (serve_pl (servPl M (qs q 0)) pb sb nb 1 (qs q 0) hqok (by show (0 : Int) < 1; omega) (by rw [hA2.n]; show (0 : Int) < 1; omega) hA2.off (by have := hA2.acts; omega) (fun h => by have := on_mine hA2 h; omega) (fun h => by have := on_mine hA2 h; omega) (by omega) wx (hP11pb.kept hm.kept (fun xx hx => hnT xx (by have := on_mine hA2 hx; omega))) (hm.at_ 0 rfl) (hm.at_ 1 rfl)).mono fun e w' ⟨h1, h2, h3⟩ => ?_
    rw [hO3, hs3] at h1
    rw [hM3] at h2
    exact ⟨0, h1, h2, (MemOk.back2 hm11 hm).off (fun _ h => h) h3 (fun x h => .inr (by have := on_mine hA2 h; omega)) (fun b hb h => hnB b hb (by have := on_mine hA2 h; omega))⟩
  clear hnT hnB
  have hP12pb := hX12
  have hl_hP12pb := on_lt hA2 hP12pb
  have hgb12_0 : sb < W12.heap.size := (hm12.at_ 0 rfl).lt
  have hgb12_1 : nb < W12.heap.size := (hm12.at_ 1 rfl).lt
  have hgb12_2 : z15 < W12.heap.size := (hm12.at_ 2 rfl).lt
  have hgb12_3 : W11.heap.size < W12.heap.size := (hm12.at_ 3 rfl).lt
  have hnT : ∀ xx, (xx = pb ∨ xx = lb ∨ xx = mb) → ¬ Turned (twi_b3 q s pb sb nb W11 z15) xx := by
    rintro xx hx2 ⟨b, hb, hr, he⟩
    simp at hb
    rcases hb with rfl | rfl | rfl | rfl <;> simp at he hr <;> omega
  refine hgo 20 [oh0, oh0, oh0, oh0, ⟨false, 0, [⟨false, 4, 0, 13⟩]⟩, oh0, oh0, oh0, oh0, oh0, oh0, ⟨false, 3, []⟩, oh0, oh0] [0, 2, 4, 6, 8, 10, 12, 13, 77, 78] [false = false, false = false, false = false, false = false] [(W12.heap.size, 0, 13)] [.ops twi_n1 [8, 9, 10, 11, 12, 13, 14, 15, 16, 17, 18, 19, 20, 21, 22, 23, 24, 25, 26, 27, 28], .code twi_n2, .blk 1, .code twi_n3, .inv J, .blk 0, .code [1, 1, 1, 1, 1, 1]] ⟨[(0, .slice (some ⟨b, o, none⟩) n cp), (2, .bool false), (4, (pt pb 0)), (6, (pt nb 0)), (8, .int .i64 (i : Int)), (10, (pt W11.heap.size 0)), (12, .int .i64 ((servPl M (qs q 0)).acts)), (13, (pt W12.heap.size 0)), (77, .bool false), (78, (pt pb 0))], (twi_b4 q s t pb sb nb W11 W12 z15), [], W12.heap.size + 1⟩ ⟨rfl, rfl, rfl, rfl, trivial⟩ ?_
  refine hcp (.int .i64 ((servPl M (qs q 0)).acts)) 13 [(pt pb 0)] (some 79) [false = false] ⟨rfl, trivial⟩ rfl (fun wx hm => acts_pl (servPl M (qs q 0)) pb wx (hP12pb.kept hm.kept (fun xx hx => hnT xx (by have := on_mine hA2 hx; omega)))) fun z23 hz23 => ?_
  replace hz23 : W12.heap.size + 1 ≤ z23 := hz23
  refine hgo 11 [oh0, oh0, ⟨false, 3, []⟩, oh0, oh0, ⟨false, 0, [⟨false, 3, 0, 1⟩]⟩, oh0, oh0] [0, 2, 4, 6, 8, 10, 13, 83, 87] [false = false, false = false, false = false, (((servPl M (qs q 0)).acts) != ((servPl M (qs q 0)).acts)) = false, (((servPl M (qs q 0)).acts) != ((servPl M (qs q 0)).acts)) = false, (((servPl M (qs q 0)).acts) != ((servPl M (qs q 0)).acts)) = false, (((servPl M (qs q 0)).acts) != ((servPl M (qs q 0)).acts)) = false] [(W11.heap.size, 0, 1)] [.ops twi_n1 [17, 18, 19, 20, 21, 22, 23, 24, 25, 26, 27, 28], .code twi_n2, .blk 1, .code twi_n3, .inv J, .blk 0, .code [1, 1, 1, 1, 1, 1]] ⟨[(0, .slice (some ⟨b, o, none⟩) n cp), (2, .bool false), (4, (pt pb 0)), (6, (pt nb 0)), (8, .int .i64 (i : Int)), (10, (pt W11.heap.size 0)), (13, (pt W12.heap.size 0)), (83, .bool (((servPl M (qs q 0)).acts) != ((servPl M (qs q 0)).acts))), (87, .bool (s.st == 1))], (twi_b4 q s t pb sb nb W11 W12 z15), [], z23⟩ ⟨rfl, rfl, rfl, by simp, by simp, by simp, by simp, trivial⟩ ?_
  by_cases hs1 : s.st = 1
  · skip
    refine hgo 24 [oh1, ⟨true, 0, [⟨false, 4, 0, 1⟩]⟩, oh1, oh3, ⟨false, 3, []⟩, oh0, oh0, ⟨false, 0, [⟨false, 3, 1, 1⟩]⟩, oh0, ⟨false, 0, [⟨false, 4, 1, 1⟩]⟩, oh0, ⟨false, 3, []⟩, oh0, oh0, oh2, oh0] [0, 2, 4, 6, 8] [(s.st == 1) = true, (s.st == 1) = true, (s.st == 1) = true, (((servPl M (qs q 0)).acts) != ((servPl M (qs q 0)).acts)) = false, (s.st == 1) = true, (((servPl M (qs q 0)).acts) != ((servPl M (qs q 0)).acts)) = false, (t.st != 1) = false, (t.st != 1) = false, (t.st != 1) = false, (t.st != 1) = false, (t.st != 1) = false, (t.st != 1) = false, (s.ep != t.ep) = false, inR .i64 (((i : Int) + 1))] [(W12.heap.size, 0, 1), (W11.heap.size, 1, 1), (W12.heap.size, 1, 1)] [.inv J, .blk 0, .code [1, 1, 1, 1, 1, 1]] ⟨[(0, .slice (some ⟨b, o, none⟩) n cp), (2, .bool false), (4, (pt pb 0)), (6, (pt nb 0)), (8, .int .i64 ((i : Int) + 1))], (twi_b4 q s t pb sb nb W11 W12 z15), [], z23⟩ ⟨by simp [hs1], by simp [hs1], by simp [hs1], by simp, by simp [hs1], by simp, by simp [hst hs1], by simp [hst hs1], by simp [hst hs1], by simp [hst hs1], by simp [hst hs1], by simp [hst hs1], by simp [hep], in64 (by omega), trivial⟩ ?_
    refine holds_wins [] (fun _ _ h => by cases h) ?_
    refine holds_prune [0, 2, 4, 6, 8] [true, true, false, false, false] ?_
    intro a w4 hf hm
    exact hJ (m - 1) _ a w4 (by omega) ⟨i + 1, servPl M (qs q 0), z23, by omega, hA2.le (by omega), (hP12pb.kept hm.kept (fun xx hx => hnT xx (by have := on_mine hA2 hx; omega))), by rw [← cast_succ i]; rfl⟩ hf (MemOk.back2 hm12 hm)
  · skip
    refine hgo 24 [oh0, oh0, oh0, ⟨false, 3, []⟩, ⟨false, 3, []⟩, oh0, oh0, ⟨false, 0, [⟨false, 3, 1, 1⟩]⟩, oh0, ⟨false, 0, [⟨false, 4, 1, 1⟩]⟩, oh0, ⟨false, 3, []⟩, oh0, oh0, oh2, oh0] [0, 2, 4, 6, 8] [(s.st == 1) = false, (s.st == 1) = false, (s.st == 1) = false, (((servPl M (qs q 0)).acts) != ((servPl M (qs q 0)).acts)) = false, (s.st == 1) = false, (((servPl M (qs q 0)).acts) != ((servPl M (qs q 0)).acts)) = false, false = false, false = false, false = false, false = false, false = false, false = false, (s.ep != t.ep) = false, inR .i64 (((i : Int) + 1))] [(W11.heap.size, 1, 1), (W12.heap.size, 1, 1)] [.inv J, .blk 0, .code [1, 1, 1, 1, 1, 1]] ⟨[(0, .slice (some ⟨b, o, none⟩) n cp), (2, .bool false), (4, (pt pb 0)), (6, (pt nb 0)), (8, .int .i64 ((i : Int) + 1))], (twi_b4 q s t pb sb nb W11 W12 z15), [], z23⟩ ⟨by simp [hs1], by simp [hs1], by simp [hs1], by simp, by simp [hs1], by simp, rfl, rfl, rfl, rfl, rfl, rfl, by simp [hep], in64 (by omega), trivial⟩ ?_
    refine holds_wins [] (fun _ _ h => by cases h) ?_
    refine holds_prune [0, 2, 4, 6, 8] [true, true, false, false, false] ?_
    intro a w4 hf hm
    exact hJ (m - 1) _ a w4 (by omega) ⟨i + 1, servPl M (qs q 0), z23, by omega, hA2.le (by omega), (hP12pb.kept hm.kept (fun xx hx => hnT xx (by have := on_mine hA2 hx; omega))), by rw [← cast_succ i]; rfl⟩ hf (MemOk.back2 hm12 hm)

end Go.Proofs.Ytfiheghjhgnblaa
