/- Layer 14's laws: the first calls. -/
import Derived.Test.YtmeddeaphmpjcaaParty14
import Derived.Test.YtmeddeaphmpjcaaLetters14
namespace Go.Proofs.Ytmeddeaphmpjcaa
open Go.RowKit

def aw14_o (t : Int) : OneM := ⟨3, 1, ⟨3, 0, 1, 0, 0, 0, 0, 0, ⟨#[]⟩⟩, 0, t⟩
def aw14_M0 : CM := ⟨200, 0, []⟩
def aw14_M1 : CM := ⟨200, 1, [aw14_o 0]⟩
def aw14_M2 : CM := ⟨200, 1, [aw14_o 2]⟩
def aw14_M3 : CM := ⟨200, 1, []⟩
theorem aw14_e0 : (⟨200, within14 0, []⟩ : CM) = aw14_M0 := by simp [aw14_M0, within14, minZ, maxZ]
theorem aw14_e1 : askC aw14_M0 0 3 ⟨3, 0, 1, 0, 0, 0, 0, 0, ⟨#[]⟩⟩ = aw14_M1 := by simp [aw14_M0, aw14_M1, aw14_o, askC, within14, minZ, maxZ]
theorem aw14_a1 : againL (within14 1) aw14_M1.opn = [] := by simp [againL, aw14_M1, aw14_o, within14, minZ, maxZ]
theorem aw14_s1 : ({ aw14_M1 with opn := againS (within14 1) aw14_M1.opn } : CM) = aw14_M1 := by simp [againS, aw14_M1, aw14_o, within14, minZ, maxZ]
theorem aw14_a2 : againL (within14 2) aw14_M1.opn = [aw14_o 0] := by simp [againL, aw14_M1, aw14_o, within14, minZ, maxZ]
theorem aw14_s2 : ({ aw14_M1 with opn := againS (within14 2) aw14_M1.opn } : CM) = aw14_M2 := by simp [againS, aw14_M1, aw14_M2, aw14_o, within14, minZ, maxZ]
theorem aw14_a3 : againL (within14 3) aw14_M2.opn = [] := by simp [againL, aw14_M2, aw14_o, within14, minZ, maxZ]
theorem aw14_s3 : ({ aw14_M2 with opn := againS (within14 3) aw14_M2.opn } : CM) = aw14_M2 := by simp [againS, aw14_M2, aw14_o, within14, minZ, maxZ]
theorem aw14_l7 {ys : List Int} (h : lateM (within14 7) aw14_M2.opn ys) : ys = [] := h.2.1.2 (by simp [aw14_M2, aw14_o, within14, minZ, maxZ])
theorem aw14_l8 {ys : List Int} (h : lateM (within14 8) aw14_M2.opn ys) : ys = [3] := h.2.2 (aw14_o 2) rfl (by simp [aw14_o, within14, minZ, maxZ])
theorem aw14_x {x : Nat} {o : OneM} (h : aw14_M2.opn[x]? = some o) : x = 0 ∧ o = aw14_o 2 := by
  cases x with
  | zero => exact ⟨rfl, (Option.some.inj h).symm⟩
  | succ x => simp [aw14_M2] at h
theorem aw14_e3 : ({ aw14_M2 with opn := aw14_M2.opn.eraseIdx 0 } : CM) = aw14_M3 := rfl
theorem ints_lit {w : World} {g base : Nat} {u : Int} (h : Blk w g 3 [.int .i64 u]) (hb : base ≤ g) : OwnR w base 3 1 (some ⟨g, 0, none⟩) 1 1 (i64s [u]) :=
  ownR_of (r := []) hb (by simpa [i64s] using h) (by decide) (by decide) rfl rfl
def awk_v1 : List Value := [.int .i64 3, .int .i64 0, .int .i64 1, .int .i64 0, .int .i64 0, .int .i64 0, .int .i64 0, .int .i64 0, .string ⟨#[]⟩]
def awk_v2 : List Value := [.int .i64 200, .int .i64 3, .int .i64 1, .bool false, .int .i64 3, .int .i64 0, .int .i64 1, .int .i64 0, .int .i64 0, .int .i64 0, .int .i64 0, .int .i64 0, .string ⟨#[]⟩, .int .i64 0, .int .i64 0, .int .i64 0, .bool false, .int .i64 0, .int .i64 0, .int .i64 0, .string ⟨#[]⟩, .bool false, .int .i64 0, .int .i64 0, .int .i64 0, .string ⟨#[]⟩]
def awk_v3 : List Value := [.int .i64 2, .int .i64 200, .int .i64 1, .bool true, .int .i64 0, .int .i64 0, .int .i64 0, .int .i64 0, .int .i64 0, .int .i64 0, .int .i64 0, .int .i64 0, .string ⟨#[]⟩, .int .i64 0, .int .i64 0, .int .i64 0, .bool false, .int .i64 0, .int .i64 0, .int .i64 0, .string ⟨#[]⟩, .bool false, .int .i64 0, .int .i64 0, .int .i64 0, .string ⟨#[]⟩]
def awk_v4 : List Value := [.int .i64 0, .int .i64 0, .int .i64 0, .int .i64 0, .int .i64 0, .int .i64 0, .int .i64 0, .int .i64 0, .string ⟨#[]⟩]
def awk_v5 : List Value := [.int .i64 3, .int .i64 200, .int .i64 1, .bool true, .int .i64 0, .int .i64 0, .int .i64 0, .int .i64 0, .int .i64 0, .int .i64 0, .int .i64 0, .int .i64 0, .string ⟨#[]⟩, .int .i64 0, .int .i64 0, .int .i64 0, .bool false, .int .i64 0, .int .i64 0, .int .i64 0, .string ⟨#[]⟩, .bool false, .int .i64 0, .int .i64 0, .int .i64 0, .string ⟨#[]⟩]
def awk_n1 : List Nat := [1, 1, 1, 1, 1, 1, 1, 1, 1, 1, 1, 1, 1, 1]
@[simp] def awk_b1 (W1 : World) (W2 : World) : List Bk := [⟨W1.heap.size, 31, true, (awk_v1)⟩, ⟨W2.heap.size, 37, true, (awk_v2)⟩]
@[simp] def awk_b2 (W1 : World) (W2 : World) (W8 : World) : List Bk := [⟨W1.heap.size, 31, true, (awk_v1)⟩, ⟨W2.heap.size, 37, true, (awk_v2)⟩, ⟨W8.heap.size, 31, true, (awk_v4)⟩]
@[simp] def awk_b3 (W1 : World) (W2 : World) (W8 : World) (W9 : World) : List Bk := [⟨W1.heap.size, 31, true, (awk_v1)⟩, ⟨W2.heap.size, 37, true, (awk_v2)⟩, ⟨W8.heap.size, 31, true, (awk_v4)⟩, ⟨W9.heap.size, 31, true, (awk_v1)⟩]
@[simp] def awk_b4 (W1 : World) (W2 : World) (W8 : World) (W9 : World) (W10 : World) : List Bk := [⟨W1.heap.size, 31, true, (awk_v1)⟩, ⟨W2.heap.size, 37, true, (awk_v2)⟩, ⟨W8.heap.size, 31, true, (awk_v4)⟩, ⟨W9.heap.size, 31, true, (awk_v1)⟩, ⟨W10.heap.size, 31, true, (awk_v4)⟩, ⟨W10.heap.size + 1, 3, true, [.int .i64 3]⟩]
set_option maxRecDepth 100000 in
set_option maxHeartbeats 4000000 in
theorem awake14P  (w : World) :
    Calls Try.prog 6 #[] w (RetK (.bool true) w) := by
  refine calls_of_holds (S := (fun _ => False)) (l := []) (n := 107) Try.func6 (body_of (by kernel_rfl)) rfl (by simp) (MemOk.none w _) ?_
  refine hgE 9 [oh0] [0] [] [] [.ops [1, 0] [0, 1], .code [1, 1]] ⟨[(0, .bool false)], [], [], w.heap.size⟩ ?_
  refine holds_callV (w := w) (S' := (fun _ => False)) (Y := Nat) (fun cb => (pt cb 0)) (fun cb => []) (fun cb W_ => PartyAt 59 61 W_ w.heap.size cb ⟨200, within14 0, []⟩) (fun cb => [(16, (pt cb 0)), (0, .bool false)]) (show _ = some (7, [.int .i64 200, .int .i64 0], some 16, []) by kernel_rfl) trivial (fun _ => rfl) (fun wx hm => ?_) (fun cb W1 hX1 hm1 => ?_)
  · have hm0 := hm
    refine (new_party 200 0 wx).mono fun e w' hq => ?_
    obtain ⟨cb, he, hp, hk⟩ := hq
    exact ⟨cb, he, hp.below hm0.kept.size, hm0.offA (fun _ h => h) hk (fun _ h => h.elim) (fun _ _ h => h)⟩
  have hP1 := hX1
  rw [show (⟨200, within14 0, []⟩) = aw14_M0 from aw14_e0] at hP1
  refine hgE 23 [oh0, oh0, oh0, oh0, oh0, oh0, ⟨false, 0, [⟨false, 0, 0, 9⟩]⟩, oh0, ⟨false, 0, [⟨false, 0, 0, 9⟩]⟩] [0, 1, 2, 21, 22] [fF] [(W1.heap.size, 0, 9), (W1.heap.size, 0, 9)] [.ops [1, 1, 1, 1, 0] [2, 3, 4, 5, 6, 7, 8], .code [1, 1, 1, 1, 1]] ⟨[(0, .bool false), (1, (pt cb 0)), (2, (pt W1.heap.size 0)), (21, (pt cb 0)), (22, .agg (List.toArray (awk_v1)))], [⟨W1.heap.size, 31, true, (awk_v1)⟩], [], W1.heap.size + 1⟩ ?_
  refine holds_callV (w := w) (S' := (fun _ => False)) (Y := Unit) (fun _ => .tuple #[.agg (List.toArray (awk_v2)), .bool true]) (fun _ => [⟨W1.heap.size, 31, true, (awk_v1)⟩]) (fun _ W_ => PartyAt 59 61 W_ w.heap.size cb (askC aw14_M0 0 3 ⟨3, 0, 1, 0, 0, 0, 0, 0, ⟨#[]⟩⟩)) (fun _ => [(23, .tuple #[.agg (List.toArray (awk_v2)), .bool true]), (0, .bool false), (1, (pt cb 0)), (2, (pt W1.heap.size 0)), (21, (pt cb 0)), (22, .agg (List.toArray (awk_v1)))]) (show _ = some (9, [(pt cb 0), .int .i64 0, .int .i64 3, .agg (List.toArray (awk_v1))], some 23, []) by kernel_rfl) trivial (fun _ => rfl) (fun wx hm => ?_) (fun y_ W2 hX2 hm2 => ?_)
  · have hm0 := (MemOk.bck hm1 hm)
    refine (ask_party 0 3 ⟨3, 0, 1, 0, 0, 0, 0, 0, ⟨#[]⟩⟩ (hP1.keptT hm.kept (turned_tys hm1) rfl rfl) (by have := (MemOk.bck hm1 hm); exact this.kept.size) ⟨by decide, by decide, by decide, by decide⟩).mono fun e w' hq => ?_
    obtain ⟨he, hp, hk⟩ := hq
    exact ⟨(), he, hp, hm0.offA (fun _ h => h) hk (fun y h => .inr h.1) (off_tys hm (es := [59, 61]) (fun _ h => h.2) rfl)⟩
  have hP2 := hX2
  rw [show (askC aw14_M0 0 3 ⟨3, 0, 1, 0, 0, 0, 0, 0, ⟨#[]⟩⟩) = aw14_M1 from aw14_e1] at hP2
  refine hgE 13 [oh0, oh0, oh0, oh0, ⟨false, 0, [⟨false, 1, 0, 26⟩]⟩, oh0, oh0] [0, 1, 2, 3, 4, 26] [] [(W2.heap.size, 0, 26)] [.ops [1, 1, 1, 1, 1, 0] [1, 2, 3], .code [1, 1, 1, 1, 1, 1]] ⟨[(0, .bool false), (1, (pt cb 0)), (2, (pt W1.heap.size 0)), (3, (pt W2.heap.size 0)), (4, .bool true), (26, (pt cb 0))], (awk_b1 W1 W2), [], W2.heap.size + 1⟩ ?_
  refine holds_callV (w := w) (S' := (fun _ => False)) (Y := Option Addr × Nat) (fun (⟨Al, cl⟩ : Option Addr × Nat) => .slice Al 0 cl) (fun (⟨Al, cl⟩ : Option Addr × Nat) => (awk_b1 W1 W2)) (fun (⟨Al, cl⟩ : Option Addr × Nat) W_ => PartyAt 59 61 W_ w.heap.size cb ({ aw14_M1 with opn := againS (within14 1) aw14_M1.opn })) (fun (⟨Al, cl⟩ : Option Addr × Nat) => [(27, .slice Al 0 cl), (0, .bool false), (1, (pt cb 0)), (2, (pt W1.heap.size 0)), (3, (pt W2.heap.size 0)), (4, .bool true), (26, (pt cb 0))]) (show _ = some (11, [(pt cb 0), .int .i64 1], some 27, []) by kernel_rfl) trivial (fun _ => rfl) (fun wx hm => ?_) (fun ⟨A3, c3⟩ W3 hX3 hm3 => ?_)
  · have hm0 := (MemOk.bck hm2 hm)
    refine (again_party 1 (hP2.keptT hm.kept (turned_tys hm2) rfl rfl)).mono fun e w' hq => ?_
    obtain ⟨Al, cl, he, ho, hp, hk⟩ := hq
    rw [aw14_a1] at he
    exact ⟨(⟨Al, cl⟩ : Option Addr × Nat), he, hp, hm0.offA (fun _ h => h) hk (fun y h => .inr h.1) (off_tys hm (es := [59, 61]) (fun _ h => h.2) rfl)⟩
  have hP3 := hX3
  rw [show ({ aw14_M1 with opn := againS (within14 1) aw14_M1.opn }) = aw14_M1 from aw14_s1] at hP3
  refine hgE 9 [oh0, oh0, oh0] [0, 1, 2, 3, 4, 5, 29] [] [] [.ops [1, 1, 1, 1, 1, 1, 0] [1, 2, 3], .code [1, 1, 1, 1, 1, 1, 1]] ⟨[(0, .bool false), (1, (pt cb 0)), (2, (pt W1.heap.size 0)), (3, (pt W2.heap.size 0)), (4, .bool true), (5, .int .i64 0), (29, (pt cb 0))], (awk_b1 W1 W2), [], W3.heap.size⟩ ?_
  refine holds_callV (w := w) (S' := (fun _ => False)) (Y := Option Addr × Nat) (fun (⟨Al, cl⟩ : Option Addr × Nat) => .slice Al 1 cl) (fun (⟨Al, cl⟩ : Option Addr × Nat) => (awk_b1 W1 W2)) (fun (⟨Al, cl⟩ : Option Addr × Nat) W_ => PartyAt 59 61 W_ w.heap.size cb ({ aw14_M1 with opn := againS (within14 2) aw14_M1.opn })) (fun (⟨Al, cl⟩ : Option Addr × Nat) => [(30, .slice Al 1 cl), (0, .bool false), (1, (pt cb 0)), (2, (pt W1.heap.size 0)), (3, (pt W2.heap.size 0)), (4, .bool true), (5, .int .i64 0), (29, (pt cb 0))]) (show _ = some (11, [(pt cb 0), .int .i64 2], some 30, []) by kernel_rfl) trivial (fun _ => rfl) (fun wx hm => ?_) (fun ⟨A4, c4⟩ W4 hX4 hm4 => ?_)
  · have hm0 := (MemOk.bck hm3 hm)
    refine (again_party 2 (hP3.keptT hm.kept (turned_tys hm3) rfl rfl)).mono fun e w' hq => ?_
    obtain ⟨Al, cl, he, ho, hp, hk⟩ := hq
    rw [aw14_a2] at he
    exact ⟨(⟨Al, cl⟩ : Option Addr × Nat), he, hp, hm0.offA (fun _ h => h) hk (fun y h => .inr h.1) (off_tys hm (es := [59, 61]) (fun _ h => h.2) rfl)⟩
  have hP4 := hX4
  rw [show ({ aw14_M1 with opn := againS (within14 2) aw14_M1.opn }) = aw14_M2 from aw14_s2] at hP4
  refine hgE 9 [oh0, oh0, oh0] [0, 1, 2, 3, 4, 5, 6, 32] [] [] [.ops [1, 1, 1, 1, 1, 1, 1, 0] [1, 2, 3], .code [1, 1, 1, 1, 1, 1, 1, 1]] ⟨[(0, .bool false), (1, (pt cb 0)), (2, (pt W1.heap.size 0)), (3, (pt W2.heap.size 0)), (4, .bool true), (5, .int .i64 0), (6, .int .i64 1), (32, (pt cb 0))], (awk_b1 W1 W2), [], W4.heap.size⟩ ?_
  refine holds_callV (w := w) (S' := (fun _ => False)) (Y := Option Addr × Nat) (fun (⟨Al, cl⟩ : Option Addr × Nat) => .slice Al 0 cl) (fun (⟨Al, cl⟩ : Option Addr × Nat) => (awk_b1 W1 W2)) (fun (⟨Al, cl⟩ : Option Addr × Nat) W_ => PartyAt 59 61 W_ w.heap.size cb ({ aw14_M2 with opn := againS (within14 3) aw14_M2.opn })) (fun (⟨Al, cl⟩ : Option Addr × Nat) => [(33, .slice Al 0 cl), (0, .bool false), (1, (pt cb 0)), (2, (pt W1.heap.size 0)), (3, (pt W2.heap.size 0)), (4, .bool true), (5, .int .i64 0), (6, .int .i64 1), (32, (pt cb 0))]) (show _ = some (11, [(pt cb 0), .int .i64 3], some 33, []) by kernel_rfl) trivial (fun _ => rfl) (fun wx hm => ?_) (fun ⟨A5, c5⟩ W5 hX5 hm5 => ?_)
  · have hm0 := (MemOk.bck hm4 hm)
    refine (again_party 3 (hP4.keptT hm.kept (turned_tys hm4) rfl rfl)).mono fun e w' hq => ?_
    obtain ⟨Al, cl, he, ho, hp, hk⟩ := hq
    rw [aw14_a3] at he
    exact ⟨(⟨Al, cl⟩ : Option Addr × Nat), he, hp, hm0.offA (fun _ h => h) hk (fun y h => .inr h.1) (off_tys hm (es := [59, 61]) (fun _ h => h.2) rfl)⟩
  have hP5 := hX5
  rw [show ({ aw14_M2 with opn := againS (within14 3) aw14_M2.opn }) = aw14_M2 from aw14_s3] at hP5
  refine hgE 9 [oh0, oh0, oh0] [0, 1, 2, 3, 4, 5, 6, 7, 35] [] [] [.ops [1, 1, 1, 1, 1, 1, 1, 1, 0] [1, 2, 3], .code [1, 1, 1, 1, 1, 1, 1, 1, 1]] ⟨[(0, .bool false), (1, (pt cb 0)), (2, (pt W1.heap.size 0)), (3, (pt W2.heap.size 0)), (4, .bool true), (5, .int .i64 0), (6, .int .i64 1), (7, .int .i64 0), (35, (pt cb 0))], (awk_b1 W1 W2), [], W5.heap.size⟩ ?_
  refine holds_callV (w := w) (S' := (fun _ => False)) (Y := Option Addr × Nat) (fun (⟨Al, cl⟩ : Option Addr × Nat) => .slice Al 0 cl) (fun (⟨Al, cl⟩ : Option Addr × Nat) => (awk_b1 W1 W2)) (fun (⟨Al, cl⟩ : Option Addr × Nat) W_ => PartyAt 59 61 W_ w.heap.size cb aw14_M2) (fun (⟨Al, cl⟩ : Option Addr × Nat) => [(36, .slice Al 0 cl), (0, .bool false), (1, (pt cb 0)), (2, (pt W1.heap.size 0)), (3, (pt W2.heap.size 0)), (4, .bool true), (5, .int .i64 0), (6, .int .i64 1), (7, .int .i64 0), (35, (pt cb 0))]) (show _ = some (13, [(pt cb 0), .int .i64 7], some 36, []) by kernel_rfl) trivial (fun _ => rfl) (fun wx hm => ?_) (fun ⟨A6, c6⟩ W6 hX6 hm6 => ?_)
  · have hm0 := (MemOk.bck hm5 hm)
    refine (late_party 7 (hP5.keptT hm.kept (turned_tys hm5) rfl rfl)).mono fun e w' hq => ?_
    obtain ⟨Al, cl, ys, he, ho, hl, hk⟩ := hq
    rw [aw14_l7 hl] at he
    exact ⟨(⟨Al, cl⟩ : Option Addr × Nat), he, ((hP5.keptT hm.kept (turned_tys hm5) rfl rfl).keptT (es := []) hk (fun _ h => h.elim) rfl rfl), hm0.offA (fun _ h => h) hk (fun _ h => h.elim) (fun _ _ h => h)⟩
  have hP6 := hX6
  refine hgE 9 [oh0, oh0, oh0] [0, 1, 2, 3, 4, 5, 6, 7, 8, 38] [] [] [.ops [1, 1, 1, 1, 1, 1, 1, 1, 1, 0] [1, 2], .code [1, 1, 1, 1, 1, 1, 1, 1, 1, 1]] ⟨[(0, .bool false), (1, (pt cb 0)), (2, (pt W1.heap.size 0)), (3, (pt W2.heap.size 0)), (4, .bool true), (5, .int .i64 0), (6, .int .i64 1), (7, .int .i64 0), (8, .int .i64 0), (38, (pt cb 0))], (awk_b1 W1 W2), [], W6.heap.size⟩ ?_
  refine holds_callV (w := w) (S' := (fun _ => False)) (Y := Option Addr × Nat) (fun (⟨Al, cl⟩ : Option Addr × Nat) => .slice Al 1 cl) (fun (⟨Al, cl⟩ : Option Addr × Nat) => (awk_b1 W1 W2)) (fun (⟨Al, cl⟩ : Option Addr × Nat) W_ => PartyAt 59 61 W_ w.heap.size cb aw14_M2 ∧ OwnR W_ w.heap.size 3 1 Al 1 cl (i64s [3])) (fun (⟨Al, cl⟩ : Option Addr × Nat) => [(39, .slice Al 1 cl), (0, .bool false), (1, (pt cb 0)), (2, (pt W1.heap.size 0)), (3, (pt W2.heap.size 0)), (4, .bool true), (5, .int .i64 0), (6, .int .i64 1), (7, .int .i64 0), (8, .int .i64 0), (38, (pt cb 0))]) (show _ = some (13, [(pt cb 0), .int .i64 8], some 39, []) by kernel_rfl) trivial (fun _ => rfl) (fun wx hm => ?_) (fun ⟨A7, c7⟩ W7 hX7 hm7 => ?_)
  · have hm0 := (MemOk.bck hm6 hm)
    refine (late_party 8 (hP6.keptT hm.kept (turned_tys hm6) rfl rfl)).mono fun e w' hq => ?_
    obtain ⟨Al, cl, ys, he, ho, hl, hk⟩ := hq
    rw [aw14_l8 hl] at he ho
    exact ⟨(⟨Al, cl⟩ : Option Addr × Nat), he, ⟨((hP6.keptT hm.kept (turned_tys hm6) rfl rfl).keptT (es := []) hk (fun _ h => h.elim) rfl rfl), (ho.below hm0.kept.size)⟩, hm0.offA (fun _ h => h) hk (fun _ h => h.elim) (fun _ _ h => h)⟩
  obtain ⟨hP7, hO7f⟩ := hX7
  refine hgE 9 [oh0, oh0, oh0] [0, 1, 2, 3, 4, 5, 6, 7, 8, 9, 41, 42] [] [] [.ops [1, 1, 1, 1, 1, 1, 1, 1, 1, 1, 0] [2, 3, 4, 5, 6, 7, 8], .code [1, 1, 1, 1, 1, 1, 1, 1, 1, 1, 1]] ⟨[(0, .bool false), (1, (pt cb 0)), (2, (pt W1.heap.size 0)), (3, (pt W2.heap.size 0)), (4, .bool true), (5, .int .i64 0), (6, .int .i64 1), (7, .int .i64 0), (8, .int .i64 0), (9, .slice A7 1 c7), (41, (pt cb 0)), (42, .agg (List.toArray (awk_v3)))], (awk_b1 W1 W2), [], W7.heap.size⟩ ?_
  refine holds_callV (w := w) (S' := (fun _ => False)) (Y := Unit) (fun _ => .tuple #[.agg (List.toArray (awk_v4)), .bool false]) (fun _ => (awk_b1 W1 W2)) (fun _ W_ => PartyAt 59 61 W_ w.heap.size cb aw14_M2 ∧ OwnR W_ w.heap.size 3 1 A7 1 c7 (i64s [3])) (fun _ => [(43, .tuple #[.agg (List.toArray (awk_v4)), .bool false]), (0, .bool false), (1, (pt cb 0)), (2, (pt W1.heap.size 0)), (3, (pt W2.heap.size 0)), (4, .bool true), (5, .int .i64 0), (6, .int .i64 1), (7, .int .i64 0), (8, .int .i64 0), (9, .slice A7 1 c7), (41, (pt cb 0)), (42, .agg (List.toArray (awk_v3)))]) (show _ = some (10, [(pt cb 0), .agg (List.toArray (awk_v3))], some 43, []) by kernel_rfl) trivial (fun _ => rfl) (fun wx hm => ?_) (fun y_ W8 hX8 hm8 => ?_)
  · have hm0 := (MemOk.bck hm7 hm)
    refine (answer_party 2 1 (hP7.keptT hm.kept (turned_tys hm7) rfl rfl)).mono fun e w' hq => ?_
    rcases hq with ⟨he, hq1, hk⟩ | ⟨x, o, ⟨h1, h2, h3⟩, hq2⟩
    rotate_left
    · obtain ⟨rfl, rfl⟩ := aw14_x h1; exact absurd h2 (by decide)
    exact ⟨(), he, ⟨((hP7.keptT hm.kept (turned_tys hm7) rfl rfl).keptT (es := []) hk (fun _ h => h.elim) rfl rfl), ((hO7f.keptT hm.kept (turned_tys hm7) rfl).keptT (es := []) hk (fun _ h => h.elim) rfl)⟩, hm0.offA (fun _ h => h) hk (fun _ h => h.elim) (fun _ _ h => h)⟩
  obtain ⟨hP8, hO8f⟩ := hX8
  refine hgE 14 [oh0, oh0, oh0, oh0, ⟨false, 0, [⟨false, 2, 0, 9⟩]⟩, oh0, oh0, oh0] [0, 1, 2, 3, 4, 5, 6, 7, 8, 9, 11, 47, 48] [] [(W8.heap.size, 0, 9)] [.ops [1, 1, 1, 1, 1, 1, 1, 1, 1, 1, 1, 0] [2, 3, 4, 5, 6, 7, 8], .code [1, 1, 1, 1, 1, 1, 1, 1, 1, 1, 1, 1]] ⟨[(0, .bool false), (1, (pt cb 0)), (2, (pt W1.heap.size 0)), (3, (pt W2.heap.size 0)), (4, .bool true), (5, .int .i64 0), (6, .int .i64 1), (7, .int .i64 0), (8, .int .i64 0), (9, .slice A7 1 c7), (11, .bool false), (47, (pt cb 0)), (48, .agg (List.toArray (awk_v5)))], (awk_b2 W1 W2 W8), [], W8.heap.size + 1⟩ ?_
  refine holds_callV (w := w) (S' := (fun _ => False)) (Y := Unit) (fun _ => .tuple #[.agg (List.toArray (awk_v1)), .bool true]) (fun _ => (awk_b2 W1 W2 W8)) (fun _ W_ => PartyAt 59 61 W_ w.heap.size cb ({ aw14_M2 with opn := aw14_M2.opn.eraseIdx 0 }) ∧ OwnR W_ w.heap.size 3 1 A7 1 c7 (i64s [3])) (fun _ => [(49, .tuple #[.agg (List.toArray (awk_v1)), .bool true]), (0, .bool false), (1, (pt cb 0)), (2, (pt W1.heap.size 0)), (3, (pt W2.heap.size 0)), (4, .bool true), (5, .int .i64 0), (6, .int .i64 1), (7, .int .i64 0), (8, .int .i64 0), (9, .slice A7 1 c7), (11, .bool false), (47, (pt cb 0)), (48, .agg (List.toArray (awk_v5)))]) (show _ = some (10, [(pt cb 0), .agg (List.toArray (awk_v5))], some 49, []) by kernel_rfl) trivial (fun _ => rfl) (fun wx hm => ?_) (fun y_ W9 hX9 hm9 => ?_)
  · have hm0 := (MemOk.bck hm8 hm)
    refine (answer_party 3 1 (hP8.keptT hm.kept (turned_tys hm8) rfl rfl)).mono fun e w' hq => ?_
    rcases hq with ⟨he, hq1, hk⟩ | ⟨x, o, ⟨h1, h2, h3⟩, he, hp, hk⟩
    · exact absurd hq1 (by decide)
    obtain ⟨rfl, rfl⟩ := aw14_x h1
    exact ⟨(), he, ⟨hp, ((hO8f.keptT hm.kept (turned_tys hm8) rfl).keptT (es := [59, 61]) hk (fun _ h => h.2) rfl)⟩, hm0.offA (fun _ h => h) hk (fun y h => .inr h.1) (off_tys hm (es := [59, 61]) (fun _ h => h.2) rfl)⟩
  obtain ⟨hP9, hO9f⟩ := hX9
  rw [show ({ aw14_M2 with opn := aw14_M2.opn.eraseIdx 0 }) = aw14_M3 from aw14_e3] at hP9
  refine hgE 14 [oh0, oh0, oh0, oh0, ⟨false, 0, [⟨false, 3, 0, 9⟩]⟩, oh0, oh0, oh0] [0, 1, 2, 3, 4, 5, 6, 7, 8, 9, 11, 12, 13, 53, 54] [] [(W9.heap.size, 0, 9)] [.ops [1, 1, 1, 1, 1, 1, 1, 1, 1, 1, 1, 1, 0] [2, 3, 4, 5, 6, 7, 8], .code [1, 1, 1, 1, 1, 1, 1, 1, 1, 1, 1, 1, 1]] ⟨[(0, .bool false), (1, (pt cb 0)), (2, (pt W1.heap.size 0)), (3, (pt W2.heap.size 0)), (4, .bool true), (5, .int .i64 0), (6, .int .i64 1), (7, .int .i64 0), (8, .int .i64 0), (9, .slice A7 1 c7), (11, .bool false), (12, (pt W9.heap.size 0)), (13, .bool true), (53, (pt cb 0)), (54, .agg (List.toArray (awk_v5)))], (awk_b3 W1 W2 W8 W9), [], W9.heap.size + 1⟩ ?_
  refine holds_callV (w := w) (S' := (fun _ => False)) (Y := Unit) (fun _ => .tuple #[.agg (List.toArray (awk_v4)), .bool false]) (fun _ => (awk_b3 W1 W2 W8 W9)) (fun _ W_ => PartyAt 59 61 W_ w.heap.size cb aw14_M3 ∧ OwnR W_ w.heap.size 3 1 A7 1 c7 (i64s [3])) (fun _ => [(55, .tuple #[.agg (List.toArray (awk_v4)), .bool false]), (0, .bool false), (1, (pt cb 0)), (2, (pt W1.heap.size 0)), (3, (pt W2.heap.size 0)), (4, .bool true), (5, .int .i64 0), (6, .int .i64 1), (7, .int .i64 0), (8, .int .i64 0), (9, .slice A7 1 c7), (11, .bool false), (12, (pt W9.heap.size 0)), (13, .bool true), (53, (pt cb 0)), (54, .agg (List.toArray (awk_v5)))]) (show _ = some (10, [(pt cb 0), .agg (List.toArray (awk_v5))], some 55, []) by kernel_rfl) trivial (fun _ => rfl) (fun wx hm => ?_) (fun y_ W10 hX10 hm10 => ?_)
  · have hm0 := (MemOk.bck hm9 hm)
    refine (answer_party 3 1 (hP9.keptT hm.kept (turned_tys hm9) rfl rfl)).mono fun e w' hq => ?_
    rcases hq with ⟨he, hq1, hk⟩ | ⟨x, o, ⟨h1, h2, h3⟩, hq2⟩
    rotate_left
    · simp [aw14_M3] at h1
    exact ⟨(), he, ⟨((hP9.keptT hm.kept (turned_tys hm9) rfl rfl).keptT (es := []) hk (fun _ h => h.elim) rfl rfl), ((hO9f.keptT hm.kept (turned_tys hm9) rfl).keptT (es := []) hk (fun _ h => h.elim) rfl)⟩, hm0.offA (fun _ h => h) hk (fun _ h => h.elim) (fun _ _ h => h)⟩
  obtain ⟨hP10, hO10f⟩ := hX10
  refine hgE 38 [oh0, oh0, oh0, oh0, ⟨false, 0, [⟨false, 4, 0, 9⟩]⟩, oh0, ⟨false, 0, [⟨false, 1, 0, 26⟩]⟩, ⟨false, 0, [⟨false, 0, 0, 9⟩]⟩, oh0, oh2, oh0, oh1, oh3, oh0, oh1, oh1, oh3, oh0, oh1, oh1, oh3, oh0, oh1, oh1, oh3, oh0, oh1, oh1, oh3, oh0, oh1, oh1] [0, 1, 2, 11, 12, 13, 15, 81, 82, 83] [vV, tT, tT, tT, tT, tT, tT, tT, tT, tT, tT, tT, tT, tT, tT, tT, tT] [(W10.heap.size, 0, 9), (W2.heap.size, 0, 26), (W1.heap.size, 0, 9)] [.ops [1, 1, 1, 1, 1, 1, 1, 1, 1, 1, 1, 1, 1, 0] [26, 27, 28, 29, 30, 31, 32, 33, 34, 35, 36, 37, 38, 39, 40, 41, 42, 43, 44, 45, 46, 47, 48, 49], .code awk_n1] ⟨[(0, .bool false), (1, (pt cb 0)), (2, (pt W1.heap.size 0)), (11, .bool false), (12, (pt W9.heap.size 0)), (13, .bool true), (15, .bool false), (81, .bool true), (82, .slice A7 1 c7), (83, .slice (some ⟨W10.heap.size + 1, 0, none⟩) 1 1)], (awk_b4 W1 W2 W8 W9 W10), [], W10.heap.size + 2⟩ ?_
  refine hcp (.bool true) 17 [.slice A7 1 c7, .slice (some ⟨W10.heap.size + 1, 0, none⟩) 1 1] (some 84) [true = true] ⟨rfl, trivial⟩ rfl (fun wx hm => ints_same [3] A7 (some ⟨W10.heap.size + 1, 0, none⟩) 1 c7 1 w.heap.size w.heap.size rfl (by decide) wx (hO10f.keptT hm.kept (turned_tys hm10) rfl) (ints_lit (hm.at_ 5 rfl) (by have h1 := hm10.kept.size; omega))) fun z22 hz22 => ?_
  replace hz22 : W10.heap.size + 2 ≤ z22 := hz22
  refine hgE 22 [oh3, oh0, oh1, oh1, oh3, oh0, ⟨true, 0, [⟨false, 3, 0, 9⟩]⟩, ⟨true, 0, [⟨false, 0, 0, 9⟩]⟩, ⟨true, 1, []⟩, oh3, oh0, oh1, oh3, oh0, oh1, oh1, oh3, oh0, oh1] [0, 102, 103] [tT, tT, tT, tT, tT, tT, tT, vV, tT, tT, tT, tT, tT, tT, tT] [(W9.heap.size, 0, 9), (W1.heap.size, 0, 9)] [.ops [1, 1, 1, 1, 1, 1, 1, 1, 1, 1, 1, 1, 1, 0] [46, 47, 48, 49], .code awk_n1] ⟨[(0, .bool false), (102, .bool true), (103, (pt cb 0))], (awk_b4 W1 W2 W8 W9 W10), [], z22⟩ ?_
  refine hcp (.int .i64 0) 14 [(pt cb 0)] (some 104) [true = true] ⟨rfl, trivial⟩ rfl (fun wx hm => open_party (hP10.keptT hm.kept (turned_tys hm10) rfl rfl)) fun z24 hz24 => ?_
  replace hz24 : z22 ≤ z24 := hz24
  refine hgE 7 [oh1, oh3, oh0] [0] [tT, tT] [] [.code awk_n1] ⟨[(0, .bool true)], (awk_b4 W1 W2 W8 W9 W10), [], z24⟩ ?_
  refine hrt [] [.bool true] [] ?_
  intro wx hm
  exact ⟨rfl, (MemOk.bck hm10 hm).kept⟩

end Go.Proofs.Ytmeddeaphmpjcaa
