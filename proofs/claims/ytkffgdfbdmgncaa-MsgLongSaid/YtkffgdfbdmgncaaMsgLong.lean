/- MsgLong, walked. -/
import Derived.Test.YtkffgdfbdmgncaaAwake12
namespace Go.Proofs.Ytkffgdfbdmgncaa
open Go.RowKit

theorem putT_size {l : LetM} (h : rightL l = true) : 28 ≤ (putT l).size ∧ (putT l).size ≤ 128 := by
  have h3 := (fldsM_ok h).2.2
  rw [putT_right h, size_frameT, len_layT]
  omega
def lng_v1 (x : Raw12) : List Value := [.int .i64 x.fr, .int .i64 x.dst, .int .i64 x.id, .int .i64 x.st, .int .i64 x.ep, .int .i64 x.ou, .bool x.ans, .int .i64 x.ask.kind, .int .i64 x.ask.stripe, .int .i64 x.ask.epoch, .int .i64 x.ask.seq, .int .i64 x.ask.mask, .int .i64 x.ask.node, .int .i64 x.ask.oe, .int .i64 x.ask.os, .string x.ask.block, .int .i64 x.rc.flags, .int .i64 x.rc.fence, .int .i64 x.rc.epoch, .int .i64 x.rc.seq, .int .i64 x.rc.ie, .int .i64 x.rc.is, .int .i64 x.rc.mask, .string x.rc.block, .string x.rc.staged]
def lng_v2 (y : LetM) : List Value := [.int .i64 y.fr, .int .i64 y.dst, .int .i64 y.id, .bool y.ans, .int .i64 y.ask.kind, .int .i64 y.ask.stripe, .int .i64 y.ask.epoch, .int .i64 y.ask.seq, .int .i64 y.ask.mask, .int .i64 y.ask.node, .int .i64 y.ask.oe, .int .i64 y.ask.os, .string y.ask.block, .int .i64 y.say.st, .int .i64 y.say.ep, .int .i64 y.say.ou, .bool y.say.rc.used, .int .i64 y.say.rc.fence, .int .i64 y.say.rc.de, .int .i64 y.say.rc.ds, .string y.say.rc.block, .bool y.say.rc.op, .int .i64 y.say.rc.ie, .int .i64 y.say.rc.is, .int .i64 y.say.rc.mask, .string y.say.rc.staged]
set_option maxRecDepth 100000 in
set_option maxHeartbeats 4000000 in
theorem long_any0 (x : Raw12) (y : LetM) (hx : Raw12Ok x) (hy : fitL x = y) (hry : rightL y = true) (w : World) :
    Calls Try.prog 7 #[.agg #[.int .i64 x.fr, .int .i64 x.dst, .int .i64 x.id, .int .i64 x.st, .int .i64 x.ep, .int .i64 x.ou, .bool x.ans, .int .i64 x.ask.kind, .int .i64 x.ask.stripe, .int .i64 x.ask.epoch, .int .i64 x.ask.seq, .int .i64 x.ask.mask, .int .i64 x.ask.node, .int .i64 x.ask.oe, .int .i64 x.ask.os, .string x.ask.block, .int .i64 x.rc.flags, .int .i64 x.rc.fence, .int .i64 x.rc.epoch, .int .i64 x.rc.seq, .int .i64 x.rc.ie, .int .i64 x.rc.is, .int .i64 x.rc.mask, .string x.rc.block, .string x.rc.staged]] w (RetK (.bool true) w) := by
  refine calls_of_holds (S := (fun _ => False)) (l := [.agg (List.toArray (lng_v1 x))]) (n := 28) Try.func7 (body_of (by kernel_rfl)) rfl (by simp) (MemOk.none w _) ?_
  refine hgo 10 [oh0, oh0] [1, 2] [] [] [.ops [1, 0] [0, 1], .code [1, 1]] ⟨[(1, (pt w.heap.size 0)), (2, .bool false)], [⟨w.heap.size, 45, true, (lng_v1 x)⟩], [], w.heap.size + 1⟩ trivial ?_
  refine hcp (.bool true) 9 [] (some 6) [] trivial rfl (fun wx hm => awake12P wx) fun z2 hz2 => ?_
  replace hz2 : w.heap.size + 1 ≤ z2 := hz2
  refine hgo 8 [oh0, ⟨false, 0, [⟨false, 0, 0, 25⟩]⟩] [2, 3, 8] [] [(w.heap.size, 0, 25)] [.ops [1, 1, 0] [1, 2, 3, 4, 5, 6, 7], .code [1, 1, 1]] ⟨[(2, .bool false), (3, .bool true), (8, .agg (List.toArray (lng_v1 x)))], [⟨w.heap.size, 45, true, (lng_v1 x)⟩], [], z2⟩ trivial ?_
  refine hcp (.agg (List.toArray (lng_v2 y))) 16 [.agg (List.toArray (lng_v1 x))] (some 9) [] trivial rfl (fun wx hm => by have h := fitL_any x hx wx; rw [hy] at h; exact h) fun z4 hz4 => ?_
  replace hz4 : z2 ≤ z4 := hz4
  refine hgo 3 [] [2, 3, 9] [] [] [.ops [1, 1, 0] [2, 3, 4, 5, 6, 7], .code [1, 1, 1]] ⟨[(2, .bool false), (3, .bool true), (9, .agg (List.toArray (lng_v2 y)))], [⟨w.heap.size, 45, true, (lng_v1 x)⟩], [], z4⟩ trivial ?_
  refine hcp (.tuple #[.string (putT y), .int .i64 0]) 10 [.agg (List.toArray (lng_v2 y))] (some 10) [] trivial rfl (fun wx hm => by have h := put_any y wx; unfold putE at h; rw [hry] at h; exact h) fun z6 hz6 => ?_
  replace hz6 : z4 ≤ z6 := hz6
  refine hgo 28 [oh0, oh0, oh0, oh0, oh0, oh0, oh0, oh1, oh1, oh3, oh0, oh1, oh1, oh1, oh3, oh0, oh1, oh1, oh1, oh3, oh0] [2] [true = true, true = true, true = true, true = true, true = true, true = true, true = true, (decide ((((putT y).size : Int) : Int) > 7)) = true, (decide ((((putT y).size : Int) : Int) > 7)) = true, (decide ((((putT y).size : Int) : Int) > 7)) = true, (decide ((((putT y).size : Int) : Int) > 7)) = true] [] [.code [1, 1, 1, 1]] ⟨[(2, .bool (decide ((((putT y).size : Int) : Int) ≤ 250)))], [⟨w.heap.size, 45, true, (lng_v1 x)⟩], [], z6⟩ ⟨rfl, rfl, rfl, rfl, rfl, rfl, rfl, decide_eq_true (by have := putT_size hry; omega), decide_eq_true (by have := putT_size hry; omega), decide_eq_true (by have := putT_size hry; omega), decide_eq_true (by have := putT_size hry; omega), trivial⟩ ?_
  refine hrt [] [.bool (decide ((((putT y).size : Int) : Int) ≤ 250))] [] ?_
  intro wx hm
  refine ⟨ret_bool ?_, hm.kept⟩
  exact decide_eq_true (by have := putT_size hry; omega)
theorem long_any (x : Raw12) (hx : Raw12Ok x) (w : World) : Calls Try.prog 7 #[.agg #[.int .i64 x.fr, .int .i64 x.dst, .int .i64 x.id, .int .i64 x.st, .int .i64 x.ep, .int .i64 x.ou, .bool x.ans, .int .i64 x.ask.kind, .int .i64 x.ask.stripe, .int .i64 x.ask.epoch, .int .i64 x.ask.seq, .int .i64 x.ask.mask, .int .i64 x.ask.node, .int .i64 x.ask.oe, .int .i64 x.ask.os, .string x.ask.block, .int .i64 x.rc.flags, .int .i64 x.rc.fence, .int .i64 x.rc.epoch, .int .i64 x.rc.seq, .int .i64 x.rc.ie, .int .i64 x.rc.is, .int .i64 x.rc.mask, .string x.rc.block, .string x.rc.staged]] w (RetK (.bool true) w) := long_any0 x _ hx rfl (fitL_ok x) w
end Go.Proofs.Ytkffgdfbdmgncaa
