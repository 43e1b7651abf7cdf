/- Fit of layer 9's law, kind by kind. -/
import Derived.Test.YtmeddeaphmpjcaaPick9
import Derived.Test.YtmeddeaphmpjcaaRaw9
import Derived.Test.YtmeddeaphmpjcaaTextsX
namespace Go.Proofs.Ytmeddeaphmpjcaa
open Go.RowKit

def fit1_v1 (x : Raw9) : List Value := [.int .i64 x.kind, .int .i64 x.stripe, .int .i64 x.epoch, .int .i64 x.seq, .int .i64 x.mask, .int .i64 x.node, .int .i64 x.oe, .int .i64 x.os, .string x.block]
def fit1_v2 : List Value := [.int .i64 0, .int .i64 0, .int .i64 0, .int .i64 0, .int .i64 0, .int .i64 0, .int .i64 0, .int .i64 0, .string ⟨#[]⟩]
def fit1_v3 (S : Int) : List Value := [.int .i64 1, .int .i64 S, .int .i64 0, .int .i64 0, .int .i64 0, .int .i64 0, .int .i64 0, .int .i64 0, .string ⟨#[]⟩]
def fit1_v4 (S : Int) (E : Int) : List Value := [.int .i64 1, .int .i64 S, .int .i64 (1 + E), .int .i64 0, .int .i64 0, .int .i64 0, .int .i64 0, .int .i64 0, .string ⟨#[]⟩]
def fit1_n1 : Array Bool := #[true, true, true, true, true, true, true, true, false, false]
def fit1_n2 : Array Bool := #[true, true, true, true, true, true, true, true, true, false]
def fit1_n3 : Array Bool := #[true, true, true, true, true, true, true, true, true, true]
@[simp] def fit1_b1 (x : Raw9) (w : World) : List Bk := [⟨w.heap.size, 49, true, (fit1_v1 x)⟩, ⟨w.heap.size + 1, 31, true, (fit1_v2)⟩]
@[simp] def fit1_b2 (x : Raw9) (w : World) (g2 : Nat) : List Bk := [⟨w.heap.size, 49, true, (fit1_v1 x)⟩, ⟨w.heap.size + 1, 31, true, (fit1_v2)⟩, ⟨g2, 31, true, (fit1_v2)⟩]
@[simp] def fit1_b3 (x : Raw9) (w : World) (S : Int) (g2 : Nat) : List Bk := [⟨w.heap.size, 49, true, (fit1_v1 x)⟩, ⟨w.heap.size + 1, 31, true, (fit1_v2)⟩, ⟨g2, 31, true, (fit1_v3 S)⟩]
theorem fit1_q2 (x : Raw9) (w : World) (S : Int) : Out.prune [1, 2, 11] (qList Try.prog 86 w (fun _ => False) ((opsOf (getCode (bodyOf Try.f15) [1, 0])).toList.take 8) ⟨[(1, (pt w.heap.size 0)), (2, (pt (w.heap.size + 1) 0))], (fit1_b1 x w), [], w.heap.size + 2⟩ [.op oh0, .op ⟨false, 0, [⟨false, 0, 0, 1⟩]⟩, .call (.int .i64 0), .op oh0, .op oh0, .op ⟨false, 0, [⟨false, 0, 1, 1⟩]⟩, .call (.int .i64 S), .op oh0]) = some ⟨[∀ w', MemC w (fun _ => False) (fit1_b1 x w) [] (w.heap.size + 2) w' → Calls Try.prog 27 #[.int .i64 x.kind, .int .i64 10] w' (RetK (.int .i64 0) w'), ∀ w', MemC w (fun _ => False) (fit1_b1 x w) [] (w.heap.size + 2) w' → Calls Try.prog 27 #[.int .i64 x.stripe, .int .i64 8] w' (RetK (.int .i64 S) w')], dupR [(w.heap.size, 0, 1), (w.heap.size, 1, 1)], ⟨[(1, (pt w.heap.size 0)), (2, (pt (w.heap.size + 1) 0)), (11, .agg (List.toArray (fit1_v3 S)))], (fit1_b1 x w), [], w.heap.size + 2⟩⟩ := by kernel_rfl
theorem fit1_t3 (x : Raw9) (w : World) (S : Int) (g2 : Nat) (y2 : Nat) : tailP [1, 2, 3] (tailX Try.prog 86 (opsOf (getCode (bodyOf Try.f15) [1, 0])) 1 fit1_n2 ⟨[(3, (pt g2 0)), (1, (pt w.heap.size 0)), (2, (pt (w.heap.size + 1) 0)), (11, .agg (List.toArray (fit1_v3 S)))], (fit1_b2 x w g2), [], y2⟩ [(9, false, ⟨false, 0, [⟨false, 2, 0, 9⟩]⟩)]) = some (⟨[], dupR [(g2, 0, 9)], ⟨[(1, (pt w.heap.size 0)), (2, (pt (w.heap.size + 1) 0)), (3, (pt g2 0))], (fit1_b3 x w S g2), [], y2⟩⟩, 0, fit1_n3) := by kernel_rfl
theorem fit1_t4 (x : Raw9) (w : World) (S : Int) (y2 : Nat) : tailP [1, 2, 3] (tailX Try.prog 86 (opsOf (getCode (bodyOf Try.f15) [1, 0])) 2 fit1_n1 ⟨[(1, (pt w.heap.size 0)), (2, (pt (w.heap.size + 1) 0)), (11, .agg (List.toArray (fit1_v3 S)))], (fit1_b1 x w), [], y2⟩ [(8, false, oh0), (9, false, ⟨false, 0, [⟨false, 2, 0, 9⟩]⟩)]) = some (⟨[], dupR [(y2, 0, 9)], ⟨[(1, (pt w.heap.size 0)), (2, (pt (w.heap.size + 1) 0)), (3, (pt y2 0))], [⟨w.heap.size, 49, true, (fit1_v1 x)⟩, ⟨w.heap.size + 1, 31, true, (fit1_v2)⟩, ⟨y2, 31, true, (fit1_v3 S)⟩], [], y2 + 1⟩⟩, 0, fit1_n3) := by kernel_rfl
set_option maxRecDepth 100000 in
set_option maxHeartbeats 4000000 in
theorem fit_1 (x : Raw9) (S : Int) (E : Int)  (hx : Raw9Ok x) (hK : pickZ x.kind 10 = 0) (hS : pickZ x.stripe 8 = S) (hE : pickZ x.epoch 6 = E) (w : World) :
    Calls Try.prog 15 #[.agg #[.int .i64 x.kind, .int .i64 x.stripe, .int .i64 x.epoch, .int .i64 x.seq, .int .i64 x.mask, .int .i64 x.node, .int .i64 x.oe, .int .i64 x.os, .string x.block]] w (RetK (.agg #[.int .i64 1, .int .i64 S, .int .i64 (1 + E), .int .i64 0, .int .i64 0, .int .i64 0, .int .i64 0, .int .i64 0, .string ⟨#[]⟩]) w) := by
  have bS := pickZ_bd x.stripe 8 (by omega)
  rw [hS] at bS
  have bE := pickZ_bd x.epoch 6 (by omega)
  rw [hE] at bE
  refine calls_of_holds (S := (fun _ => False)) (l := [.agg (List.toArray (fit1_v1 x))]) (n := 86) Try.func15 (body_of (by kernel_rfl)) rfl (by simp) (MemOk.none w _) ?_
  refine hgE 9 [oh0, oh0] [1, 2] [] [] [.code [1, 0], .code [1, 1]] ⟨[(1, (pt w.heap.size 0)), (2, (pt (w.heap.size + 1) 0))], (fit1_b1 x w), [], w.heap.size + 2⟩ ?_
  have HZ : ∀ (g2 y2 : Nat), w.heap.size + 2 ≤ g2 → w.heap.size + 2 ≤ y2 → Holds [] Try.prog (bodyOf Try.f15) 86 w (fun _ => False) (bodyPost Try.prog Try.f15 (RetK (.agg (List.toArray (fit1_v4 S E))) w)) [.code [1, 1]] ⟨[(1, (pt w.heap.size 0)), (2, (pt (w.heap.size + 1) 0)), (3, (pt g2 0))], (fit1_b3 x w S g2), [], y2⟩ := by
    intro g2 y2 hg2 hy2
    refine hgE 16 [oh0, ⟨false, 0, [⟨false, 2, 0, 1⟩]⟩, oh0, oh0, oh0, ⟨false, 0, [⟨false, 0, 2, 1⟩]⟩] [1, 2, 3, 17] [fF] [(g2, 0, 1), (w.heap.size, 2, 1)] [.ops [1, 1, 1, 0] [2, 3, 4, 5], .code [1, 1, 1, 1]] ⟨[(1, (pt w.heap.size 0)), (2, (pt (w.heap.size + 1) 0)), (3, (pt g2 0)), (17, .int .i64 x.epoch)], (fit1_b3 x w S g2), [], y2⟩ ?_
    refine hcp (.int .i64 E) 27 [.int .i64 x.epoch, .int .i64 6] (some 18) [] trivial rfl (fun wx hm => pick9 _ _ _ hE wx (by omega) (by omega) hx.epoch) fun z6 hz6 => ?_
    replace hz6 : y2 ≤ z6 := hz6
    refine hgE 51 [oh2, oh0, ⟨false, 0, [⟨false, 2, 2, 1⟩]⟩, oh0, ⟨false, 0, [⟨false, 2, 0, 1⟩]⟩, oh0, oh0, oh0, oh0, oh0, oh0, oh0, oh0, oh0, oh0, oh0, oh0, oh0, oh0, oh0, ⟨false, 0, [⟨false, 2, 0, 9⟩]⟩, ⟨false, 0, [⟨false, 1, 0, 9⟩]⟩] [2] [n64 ((1 + E)), fF, fF, fF, fF, fF] [(g2, 2, 1), (g2, 0, 1), (g2, 0, 9), (w.heap.size + 1, 0, 9)] [.code [1, 1, 1, 1, 1, 1]] ⟨[(2, (pt (w.heap.size + 1) 0))], [⟨w.heap.size, 49, true, (fit1_v1 x)⟩, ⟨w.heap.size + 1, 31, true, (fit1_v4 S E)⟩, ⟨g2, 31, true, (fit1_v4 S E)⟩], [], z6⟩ ?_
    refine hrt [[⟨false, 1, 0, 9⟩]] [.agg (List.toArray (fit1_v4 S E))] [(w.heap.size + 1, 0, 9)] ?_
    intro wx hm
    exact ⟨rfl, hm.kept⟩
  have H1 : ∀ (g2 y2 : Nat), w.heap.size + 2 ≤ g2 → w.heap.size + 2 ≤ y2 → Holds [] Try.prog (bodyOf Try.f15) 86 w (fun _ => False) (bodyPost Try.prog Try.f15 (RetK (.agg (List.toArray (fit1_v4 S E))) w)) (.any [1, 0] 1 fit1_n2 :: [.code [1, 1]]) ⟨[(3, (pt g2 0)), (1, (pt w.heap.size 0)), (2, (pt (w.heap.size + 1) 0)), (11, .agg (List.toArray (fit1_v3 S)))], (fit1_b2 x w g2), [], y2⟩ := by
    intro g2 y2 hg2 hy2
    refine holds_tail panicOk_body _ _ (fit1_t3 x w S g2 y2) trivial ?_
    refine holds_done (by kernel_rfl) ?_
    exact HZ g2 _ (by omega) (by omega)
  refine holds_float (fl := 8) (t := 31) (d := 3) (cs := (fit1_v2)) (ls0 := fit1_n1) (ls1 := fit1_n2) (f := 1) 8 _ _ (by kernel_rfl) (by kernel_rfl) (by kernel_rfl) (by kernel_rfl) (by decide) (by kernel_rfl) (by kernel_rfl) (by kernel_rfl) (fit1_q2 x w S) ⟨(fun wx hm => pick9 _ _ _ hK wx (by omega) (by omega) hx.kind), (fun wx hm => pick9 _ _ _ hS wx (by omega) (by omega) hx.stripe), trivial⟩ H1 ?_
  intro y2 hy2
  replace hy2 : w.heap.size + 2 ≤ y2 := hy2
  refine holds_tail panicOk_body _ _ (fit1_t4 x w S y2) trivial ?_
  refine holds_done (by kernel_rfl) ?_
  exact HZ _ _ (by omega) (by omega)

def fit2_v1 (x : Raw9) : List Value := [.int .i64 x.kind, .int .i64 x.stripe, .int .i64 x.epoch, .int .i64 x.seq, .int .i64 x.mask, .int .i64 x.node, .int .i64 x.oe, .int .i64 x.os, .string x.block]
def fit2_v2 : List Value := [.int .i64 0, .int .i64 0, .int .i64 0, .int .i64 0, .int .i64 0, .int .i64 0, .int .i64 0, .int .i64 0, .string ⟨#[]⟩]
def fit2_v3 (S : Int) : List Value := [.int .i64 2, .int .i64 S, .int .i64 0, .int .i64 0, .int .i64 0, .int .i64 0, .int .i64 0, .int .i64 0, .string ⟨#[]⟩]
def fit2_v4 (S : Int) (E : Int) : List Value := [.int .i64 2, .int .i64 S, .int .i64 (1 + E), .int .i64 0, .int .i64 0, .int .i64 0, .int .i64 0, .int .i64 0, .string ⟨#[]⟩]
def fit2_n1 : Array Bool := #[true, true, true, true, true, true, true, true, false, false]
def fit2_n2 : Array Bool := #[true, true, true, true, true, true, true, true, true, false]
def fit2_n3 : Array Bool := #[true, true, true, true, true, true, true, true, true, true]
@[simp] def fit2_b1 (x : Raw9) (w : World) : List Bk := [⟨w.heap.size, 49, true, (fit2_v1 x)⟩, ⟨w.heap.size + 1, 31, true, (fit2_v2)⟩]
@[simp] def fit2_b2 (x : Raw9) (w : World) (g2 : Nat) : List Bk := [⟨w.heap.size, 49, true, (fit2_v1 x)⟩, ⟨w.heap.size + 1, 31, true, (fit2_v2)⟩, ⟨g2, 31, true, (fit2_v2)⟩]
@[simp] def fit2_b3 (x : Raw9) (w : World) (S : Int) (g2 : Nat) : List Bk := [⟨w.heap.size, 49, true, (fit2_v1 x)⟩, ⟨w.heap.size + 1, 31, true, (fit2_v2)⟩, ⟨g2, 31, true, (fit2_v3 S)⟩]
theorem fit2_q2 (x : Raw9) (w : World) (S : Int) : Out.prune [1, 2, 11] (qList Try.prog 86 w (fun _ => False) ((opsOf (getCode (bodyOf Try.f15) [1, 0])).toList.take 8) ⟨[(1, (pt w.heap.size 0)), (2, (pt (w.heap.size + 1) 0))], (fit2_b1 x w), [], w.heap.size + 2⟩ [.op oh0, .op ⟨false, 0, [⟨false, 0, 0, 1⟩]⟩, .call (.int .i64 1), .op oh0, .op oh0, .op ⟨false, 0, [⟨false, 0, 1, 1⟩]⟩, .call (.int .i64 S), .op oh0]) = some ⟨[∀ w', MemC w (fun _ => False) (fit2_b1 x w) [] (w.heap.size + 2) w' → Calls Try.prog 27 #[.int .i64 x.kind, .int .i64 10] w' (RetK (.int .i64 1) w'), ∀ w', MemC w (fun _ => False) (fit2_b1 x w) [] (w.heap.size + 2) w' → Calls Try.prog 27 #[.int .i64 x.stripe, .int .i64 8] w' (RetK (.int .i64 S) w')], dupR [(w.heap.size, 0, 1), (w.heap.size, 1, 1)], ⟨[(1, (pt w.heap.size 0)), (2, (pt (w.heap.size + 1) 0)), (11, .agg (List.toArray (fit2_v3 S)))], (fit2_b1 x w), [], w.heap.size + 2⟩⟩ := by kernel_rfl
theorem fit2_t3 (x : Raw9) (w : World) (S : Int) (g2 : Nat) (y2 : Nat) : tailP [1, 2, 3] (tailX Try.prog 86 (opsOf (getCode (bodyOf Try.f15) [1, 0])) 1 fit2_n2 ⟨[(3, (pt g2 0)), (1, (pt w.heap.size 0)), (2, (pt (w.heap.size + 1) 0)), (11, .agg (List.toArray (fit2_v3 S)))], (fit2_b2 x w g2), [], y2⟩ [(9, false, ⟨false, 0, [⟨false, 2, 0, 9⟩]⟩)]) = some (⟨[], dupR [(g2, 0, 9)], ⟨[(1, (pt w.heap.size 0)), (2, (pt (w.heap.size + 1) 0)), (3, (pt g2 0))], (fit2_b3 x w S g2), [], y2⟩⟩, 0, fit2_n3) := by kernel_rfl
theorem fit2_t4 (x : Raw9) (w : World) (S : Int) (y2 : Nat) : tailP [1, 2, 3] (tailX Try.prog 86 (opsOf (getCode (bodyOf Try.f15) [1, 0])) 2 fit2_n1 ⟨[(1, (pt w.heap.size 0)), (2, (pt (w.heap.size + 1) 0)), (11, .agg (List.toArray (fit2_v3 S)))], (fit2_b1 x w), [], y2⟩ [(8, false, oh0), (9, false, ⟨false, 0, [⟨false, 2, 0, 9⟩]⟩)]) = some (⟨[], dupR [(y2, 0, 9)], ⟨[(1, (pt w.heap.size 0)), (2, (pt (w.heap.size + 1) 0)), (3, (pt y2 0))], [⟨w.heap.size, 49, true, (fit2_v1 x)⟩, ⟨w.heap.size + 1, 31, true, (fit2_v2)⟩, ⟨y2, 31, true, (fit2_v3 S)⟩], [], y2 + 1⟩⟩, 0, fit2_n3) := by kernel_rfl
set_option maxRecDepth 100000 in
set_option maxHeartbeats 4000000 in
theorem fit_2 (x : Raw9) (S : Int) (E : Int)  (hx : Raw9Ok x) (hK : pickZ x.kind 10 = 1) (hS : pickZ x.stripe 8 = S) (hE : pickZ x.epoch 6 = E) (w : World) :
    Calls Try.prog 15 #[.agg #[.int .i64 x.kind, .int .i64 x.stripe, .int .i64 x.epoch, .int .i64 x.seq, .int .i64 x.mask, .int .i64 x.node, .int .i64 x.oe, .int .i64 x.os, .string x.block]] w (RetK (.agg #[.int .i64 2, .int .i64 S, .int .i64 (1 + E), .int .i64 0, .int .i64 0, .int .i64 0, .int .i64 0, .int .i64 0, .string ⟨#[]⟩]) w) := by
  have bS := pickZ_bd x.stripe 8 (by omega)
  rw [hS] at bS
  have bE := pickZ_bd x.epoch 6 (by omega)
  rw [hE] at bE
  refine calls_of_holds (S := (fun _ => False)) (l := [.agg (List.toArray (fit2_v1 x))]) (n := 86) Try.func15 (body_of (by kernel_rfl)) rfl (by simp) (MemOk.none w _) ?_
  refine hgE 9 [oh0, oh0] [1, 2] [] [] [.code [1, 0], .code [1, 1]] ⟨[(1, (pt w.heap.size 0)), (2, (pt (w.heap.size + 1) 0))], (fit2_b1 x w), [], w.heap.size + 2⟩ ?_
  have HZ : ∀ (g2 y2 : Nat), w.heap.size + 2 ≤ g2 → w.heap.size + 2 ≤ y2 → Holds [] Try.prog (bodyOf Try.f15) 86 w (fun _ => False) (bodyPost Try.prog Try.f15 (RetK (.agg (List.toArray (fit2_v4 S E))) w)) [.code [1, 1]] ⟨[(1, (pt w.heap.size 0)), (2, (pt (w.heap.size + 1) 0)), (3, (pt g2 0))], (fit2_b3 x w S g2), [], y2⟩ := by
    intro g2 y2 hg2 hy2
    refine hgE 16 [oh0, ⟨false, 0, [⟨false, 2, 0, 1⟩]⟩, oh0, oh0, oh0, ⟨false, 0, [⟨false, 0, 2, 1⟩]⟩] [1, 2, 3, 17] [fF] [(g2, 0, 1), (w.heap.size, 2, 1)] [.ops [1, 1, 1, 0] [2, 3, 4, 5], .code [1, 1, 1, 1]] ⟨[(1, (pt w.heap.size 0)), (2, (pt (w.heap.size + 1) 0)), (3, (pt g2 0)), (17, .int .i64 x.epoch)], (fit2_b3 x w S g2), [], y2⟩ ?_
    refine hcp (.int .i64 E) 27 [.int .i64 x.epoch, .int .i64 6] (some 18) [] trivial rfl (fun wx hm => pick9 _ _ _ hE wx (by omega) (by omega) hx.epoch) fun z6 hz6 => ?_
    replace hz6 : y2 ≤ z6 := hz6
    refine hgE 51 [oh2, oh0, ⟨false, 0, [⟨false, 2, 2, 1⟩]⟩, oh0, ⟨false, 0, [⟨false, 2, 0, 1⟩]⟩, oh0, oh0, oh0, oh0, oh0, oh0, oh0, oh0, oh0, oh0, oh0, oh0, oh0, oh0, oh0, ⟨false, 0, [⟨false, 2, 0, 9⟩]⟩, ⟨false, 0, [⟨false, 1, 0, 9⟩]⟩] [2] [n64 ((1 + E)), fF, fF, fF, fF, fF] [(g2, 2, 1), (g2, 0, 1), (g2, 0, 9), (w.heap.size + 1, 0, 9)] [.code [1, 1, 1, 1, 1, 1]] ⟨[(2, (pt (w.heap.size + 1) 0))], [⟨w.heap.size, 49, true, (fit2_v1 x)⟩, ⟨w.heap.size + 1, 31, true, (fit2_v4 S E)⟩, ⟨g2, 31, true, (fit2_v4 S E)⟩], [], z6⟩ ?_
    refine hrt [[⟨false, 1, 0, 9⟩]] [.agg (List.toArray (fit2_v4 S E))] [(w.heap.size + 1, 0, 9)] ?_
    intro wx hm
    exact ⟨rfl, hm.kept⟩
  have H1 : ∀ (g2 y2 : Nat), w.heap.size + 2 ≤ g2 → w.heap.size + 2 ≤ y2 → Holds [] Try.prog (bodyOf Try.f15) 86 w (fun _ => False) (bodyPost Try.prog Try.f15 (RetK (.agg (List.toArray (fit2_v4 S E))) w)) (.any [1, 0] 1 fit2_n2 :: [.code [1, 1]]) ⟨[(3, (pt g2 0)), (1, (pt w.heap.size 0)), (2, (pt (w.heap.size + 1) 0)), (11, .agg (List.toArray (fit2_v3 S)))], (fit2_b2 x w g2), [], y2⟩ := by
    intro g2 y2 hg2 hy2
    refine holds_tail panicOk_body _ _ (fit2_t3 x w S g2 y2) trivial ?_
    refine holds_done (by kernel_rfl) ?_
    exact HZ g2 _ (by omega) (by omega)
  refine holds_float (fl := 8) (t := 31) (d := 3) (cs := (fit2_v2)) (ls0 := fit2_n1) (ls1 := fit2_n2) (f := 1) 8 _ _ (by kernel_rfl) (by kernel_rfl) (by kernel_rfl) (by kernel_rfl) (by decide) (by kernel_rfl) (by kernel_rfl) (by kernel_rfl) (fit2_q2 x w S) ⟨(fun wx hm => pick9 _ _ _ hK wx (by omega) (by omega) hx.kind), (fun wx hm => pick9 _ _ _ hS wx (by omega) (by omega) hx.stripe), trivial⟩ H1 ?_
  intro y2 hy2
  replace hy2 : w.heap.size + 2 ≤ y2 := hy2
  refine holds_tail panicOk_body _ _ (fit2_t4 x w S y2) trivial ?_
  refine holds_done (by kernel_rfl) ?_
  exact HZ _ _ (by omega) (by omega)

def fit3_v1 (x : Raw9) : List Value := [.int .i64 x.kind, .int .i64 x.stripe, .int .i64 x.epoch, .int .i64 x.seq, .int .i64 x.mask, .int .i64 x.node, .int .i64 x.oe, .int .i64 x.os, .string x.block]
def fit3_v2 : List Value := [.int .i64 0, .int .i64 0, .int .i64 0, .int .i64 0, .int .i64 0, .int .i64 0, .int .i64 0, .int .i64 0, .string ⟨#[]⟩]
def fit3_v3 (S : Int) : List Value := [.int .i64 3, .int .i64 S, .int .i64 0, .int .i64 0, .int .i64 0, .int .i64 0, .int .i64 0, .int .i64 0, .string ⟨#[]⟩]
def fit3_v4 (S : Int) (E : Int) : List Value := [.int .i64 3, .int .i64 S, .int .i64 (1 + E), .int .i64 0, .int .i64 0, .int .i64 0, .int .i64 0, .int .i64 0, .string ⟨#[]⟩]
def fit3_n1 : Array Bool := #[true, true, true, true, true, true, true, true, false, false]
def fit3_n2 : Array Bool := #[true, true, true, true, true, true, true, true, true, false]
def fit3_n3 : Array Bool := #[true, true, true, true, true, true, true, true, true, true]
@[simp] def fit3_b1 (x : Raw9) (w : World) : List Bk := [⟨w.heap.size, 49, true, (fit3_v1 x)⟩, ⟨w.heap.size + 1, 31, true, (fit3_v2)⟩]
@[simp] def fit3_b2 (x : Raw9) (w : World) (g2 : Nat) : List Bk := [⟨w.heap.size, 49, true, (fit3_v1 x)⟩, ⟨w.heap.size + 1, 31, true, (fit3_v2)⟩, ⟨g2, 31, true, (fit3_v2)⟩]
@[simp] def fit3_b3 (x : Raw9) (w : World) (S : Int) (g2 : Nat) : List Bk := [⟨w.heap.size, 49, true, (fit3_v1 x)⟩, ⟨w.heap.size + 1, 31, true, (fit3_v2)⟩, ⟨g2, 31, true, (fit3_v3 S)⟩]
theorem fit3_q2 (x : Raw9) (w : World) (S : Int) : Out.prune [1, 2, 11] (qList Try.prog 86 w (fun _ => False) ((opsOf (getCode (bodyOf Try.f15) [1, 0])).toList.take 8) ⟨[(1, (pt w.heap.size 0)), (2, (pt (w.heap.size + 1) 0))], (fit3_b1 x w), [], w.heap.size + 2⟩ [.op oh0, .op ⟨false, 0, [⟨false, 0, 0, 1⟩]⟩, .call (.int .i64 2), .op oh0, .op oh0, .op ⟨false, 0, [⟨false, 0, 1, 1⟩]⟩, .call (.int .i64 S), .op oh0]) = some ⟨[∀ w', MemC w (fun _ => False) (fit3_b1 x w) [] (w.heap.size + 2) w' → Calls Try.prog 27 #[.int .i64 x.kind, .int .i64 10] w' (RetK (.int .i64 2) w'), ∀ w', MemC w (fun _ => False) (fit3_b1 x w) [] (w.heap.size + 2) w' → Calls Try.prog 27 #[.int .i64 x.stripe, .int .i64 8] w' (RetK (.int .i64 S) w')], dupR [(w.heap.size, 0, 1), (w.heap.size, 1, 1)], ⟨[(1, (pt w.heap.size 0)), (2, (pt (w.heap.size + 1) 0)), (11, .agg (List.toArray (fit3_v3 S)))], (fit3_b1 x w), [], w.heap.size + 2⟩⟩ := by kernel_rfl
theorem fit3_t3 (x : Raw9) (w : World) (S : Int) (g2 : Nat) (y2 : Nat) : tailP [1, 2, 3] (tailX Try.prog 86 (opsOf (getCode (bodyOf Try.f15) [1, 0])) 1 fit3_n2 ⟨[(3, (pt g2 0)), (1, (pt w.heap.size 0)), (2, (pt (w.heap.size + 1) 0)), (11, .agg (List.toArray (fit3_v3 S)))], (fit3_b2 x w g2), [], y2⟩ [(9, false, ⟨false, 0, [⟨false, 2, 0, 9⟩]⟩)]) = some (⟨[], dupR [(g2, 0, 9)], ⟨[(1, (pt w.heap.size 0)), (2, (pt (w.heap.size + 1) 0)), (3, (pt g2 0))], (fit3_b3 x w S g2), [], y2⟩⟩, 0, fit3_n3) := by kernel_rfl
theorem fit3_t4 (x : Raw9) (w : World) (S : Int) (y2 : Nat) : tailP [1, 2, 3] (tailX Try.prog 86 (opsOf (getCode (bodyOf Try.f15) [1, 0])) 2 fit3_n1 ⟨[(1, (pt w.heap.size 0)), (2, (pt (w.heap.size + 1) 0)), (11, .agg (List.toArray (fit3_v3 S)))], (fit3_b1 x w), [], y2⟩ [(8, false, oh0), (9, false, ⟨false, 0, [⟨false, 2, 0, 9⟩]⟩)]) = some (⟨[], dupR [(y2, 0, 9)], ⟨[(1, (pt w.heap.size 0)), (2, (pt (w.heap.size + 1) 0)), (3, (pt y2 0))], [⟨w.heap.size, 49, true, (fit3_v1 x)⟩, ⟨w.heap.size + 1, 31, true, (fit3_v2)⟩, ⟨y2, 31, true, (fit3_v3 S)⟩], [], y2 + 1⟩⟩, 0, fit3_n3) := by kernel_rfl
set_option maxRecDepth 100000 in
set_option maxHeartbeats 4000000 in
theorem fit_3 (x : Raw9) (S : Int) (E : Int)  (hx : Raw9Ok x) (hK : pickZ x.kind 10 = 2) (hS : pickZ x.stripe 8 = S) (hE : pickZ x.epoch 6 = E) (w : World) :
    Calls Try.prog 15 #[.agg #[.int .i64 x.kind, .int .i64 x.stripe, .int .i64 x.epoch, .int .i64 x.seq, .int .i64 x.mask, .int .i64 x.node, .int .i64 x.oe, .int .i64 x.os, .string x.block]] w (RetK (.agg #[.int .i64 3, .int .i64 S, .int .i64 (1 + E), .int .i64 0, .int .i64 0, .int .i64 0, .int .i64 0, .int .i64 0, .string ⟨#[]⟩]) w) := by
  have bS := pickZ_bd x.stripe 8 (by omega)
  rw [hS] at bS
  have bE := pickZ_bd x.epoch 6 (by omega)
  rw [hE] at bE
  refine calls_of_holds (S := (fun _ => False)) (l := [.agg (List.toArray (fit3_v1 x))]) (n := 86) Try.func15 (body_of (by kernel_rfl)) rfl (by simp) (MemOk.none w _) ?_
  refine hgE 9 [oh0, oh0] [1, 2] [] [] [.code [1, 0], .code [1, 1]] ⟨[(1, (pt w.heap.size 0)), (2, (pt (w.heap.size + 1) 0))], (fit3_b1 x w), [], w.heap.size + 2⟩ ?_
  have HZ : ∀ (g2 y2 : Nat), w.heap.size + 2 ≤ g2 → w.heap.size + 2 ≤ y2 → Holds [] Try.prog (bodyOf Try.f15) 86 w (fun _ => False) (bodyPost Try.prog Try.f15 (RetK (.agg (List.toArray (fit3_v4 S E))) w)) [.code [1, 1]] ⟨[(1, (pt w.heap.size 0)), (2, (pt (w.heap.size + 1) 0)), (3, (pt g2 0))], (fit3_b3 x w S g2), [], y2⟩ := by
    intro g2 y2 hg2 hy2
    refine hgE 16 [oh0, ⟨false, 0, [⟨false, 2, 0, 1⟩]⟩, oh0, oh0, oh0, ⟨false, 0, [⟨false, 0, 2, 1⟩]⟩] [1, 2, 3, 17] [fF] [(g2, 0, 1), (w.heap.size, 2, 1)] [.ops [1, 1, 1, 0] [2, 3, 4, 5], .code [1, 1, 1, 1]] ⟨[(1, (pt w.heap.size 0)), (2, (pt (w.heap.size + 1) 0)), (3, (pt g2 0)), (17, .int .i64 x.epoch)], (fit3_b3 x w S g2), [], y2⟩ ?_
    refine hcp (.int .i64 E) 27 [.int .i64 x.epoch, .int .i64 6] (some 18) [] trivial rfl (fun wx hm => pick9 _ _ _ hE wx (by omega) (by omega) hx.epoch) fun z6 hz6 => ?_
    replace hz6 : y2 ≤ z6 := hz6
    refine hgE 51 [oh2, oh0, ⟨false, 0, [⟨false, 2, 2, 1⟩]⟩, oh0, ⟨false, 0, [⟨false, 2, 0, 1⟩]⟩, oh0, oh0, oh0, oh0, oh0, oh0, oh0, oh0, oh0, oh0, oh0, oh0, oh0, oh0, oh0, ⟨false, 0, [⟨false, 2, 0, 9⟩]⟩, ⟨false, 0, [⟨false, 1, 0, 9⟩]⟩] [2] [n64 ((1 + E)), fF, fF, fF, fF, fF] [(g2, 2, 1), (g2, 0, 1), (g2, 0, 9), (w.heap.size + 1, 0, 9)] [.code [1, 1, 1, 1, 1, 1]] ⟨[(2, (pt (w.heap.size + 1) 0))], [⟨w.heap.size, 49, true, (fit3_v1 x)⟩, ⟨w.heap.size + 1, 31, true, (fit3_v4 S E)⟩, ⟨g2, 31, true, (fit3_v4 S E)⟩], [], z6⟩ ?_
    refine hrt [[⟨false, 1, 0, 9⟩]] [.agg (List.toArray (fit3_v4 S E))] [(w.heap.size + 1, 0, 9)] ?_
    intro wx hm
    exact ⟨rfl, hm.kept⟩
  have H1 : ∀ (g2 y2 : Nat), w.heap.size + 2 ≤ g2 → w.heap.size + 2 ≤ y2 → Holds [] Try.prog (bodyOf Try.f15) 86 w (fun _ => False) (bodyPost Try.prog Try.f15 (RetK (.agg (List.toArray (fit3_v4 S E))) w)) (.any [1, 0] 1 fit3_n2 :: [.code [1, 1]]) ⟨[(3, (pt g2 0)), (1, (pt w.heap.size 0)), (2, (pt (w.heap.size + 1) 0)), (11, .agg (List.toArray (fit3_v3 S)))], (fit3_b2 x w g2), [], y2⟩ := by
    intro g2 y2 hg2 hy2
    refine holds_tail panicOk_body _ _ (fit3_t3 x w S g2 y2) trivial ?_
    refine holds_done (by kernel_rfl) ?_
    exact HZ g2 _ (by omega) (by omega)
  refine holds_float (fl := 8) (t := 31) (d := 3) (cs := (fit3_v2)) (ls0 := fit3_n1) (ls1 := fit3_n2) (f := 1) 8 _ _ (by kernel_rfl) (by kernel_rfl) (by kernel_rfl) (by kernel_rfl) (by decide) (by kernel_rfl) (by kernel_rfl) (by kernel_rfl) (fit3_q2 x w S) ⟨(fun wx hm => pick9 _ _ _ hK wx (by omega) (by omega) hx.kind), (fun wx hm => pick9 _ _ _ hS wx (by omega) (by omega) hx.stripe), trivial⟩ H1 ?_
  intro y2 hy2
  replace hy2 : w.heap.size + 2 ≤ y2 := hy2
  refine holds_tail panicOk_body _ _ (fit3_t4 x w S y2) trivial ?_
  refine holds_done (by kernel_rfl) ?_
  exact HZ _ _ (by omega) (by omega)

def fit4_v1 (x : Raw9) : List Value := [.int .i64 x.kind, .int .i64 x.stripe, .int .i64 x.epoch, .int .i64 x.seq, .int .i64 x.mask, .int .i64 x.node, .int .i64 x.oe, .int .i64 x.os, .string x.block]
def fit4_v2 : List Value := [.int .i64 0, .int .i64 0, .int .i64 0, .int .i64 0, .int .i64 0, .int .i64 0, .int .i64 0, .int .i64 0, .string ⟨#[]⟩]
def fit4_v3 (S : Int) : List Value := [.int .i64 4, .int .i64 S, .int .i64 0, .int .i64 0, .int .i64 0, .int .i64 0, .int .i64 0, .int .i64 0, .string ⟨#[]⟩]
def fit4_v4 (x : Raw9) (S : Int) (E : Int) (Q6 : Int) (M63 : Int) : List Value := [.int .i64 4, .int .i64 S, .int .i64 (1 + E), .int .i64 (1 + Q6), .int .i64 (1 + M63), .int .i64 0, .int .i64 0, .int .i64 0, .string (strL 16 x.block)]
def fit4_v5 (S : Int) (E : Int) (Q6 : Int) (M63 : Int) : List Value := [.int .i64 4, .int .i64 S, .int .i64 (1 + E), .int .i64 (1 + Q6), .int .i64 (1 + M63), .int .i64 0, .int .i64 0, .int .i64 0, .string ⟨#[]⟩]
def fit4_n1 : Array Bool := #[true, true, true, true, true, true, true, true, false, false]
def fit4_n2 : Array Bool := #[true, true, true, true, true, true, true, true, true, false]
def fit4_n3 : Array Bool := #[true, true, true, true, true, true, true, true, true, true]
@[simp] def fit4_b1 (x : Raw9) (w : World) : List Bk := [⟨w.heap.size, 49, true, (fit4_v1 x)⟩, ⟨w.heap.size + 1, 31, true, (fit4_v2)⟩]
@[simp] def fit4_b2 (x : Raw9) (w : World) (g2 : Nat) : List Bk := [⟨w.heap.size, 49, true, (fit4_v1 x)⟩, ⟨w.heap.size + 1, 31, true, (fit4_v2)⟩, ⟨g2, 31, true, (fit4_v2)⟩]
@[simp] def fit4_b3 (x : Raw9) (w : World) (S : Int) (g2 : Nat) : List Bk := [⟨w.heap.size, 49, true, (fit4_v1 x)⟩, ⟨w.heap.size + 1, 31, true, (fit4_v2)⟩, ⟨g2, 31, true, (fit4_v3 S)⟩]
theorem fit4_q2 (x : Raw9) (w : World) (S : Int) : Out.prune [1, 2, 11] (qList Try.prog 86 w (fun _ => False) ((opsOf (getCode (bodyOf Try.f15) [1, 0])).toList.take 8) ⟨[(1, (pt w.heap.size 0)), (2, (pt (w.heap.size + 1) 0))], (fit4_b1 x w), [], w.heap.size + 2⟩ [.op oh0, .op ⟨false, 0, [⟨false, 0, 0, 1⟩]⟩, .call (.int .i64 3), .op oh0, .op oh0, .op ⟨false, 0, [⟨false, 0, 1, 1⟩]⟩, .call (.int .i64 S), .op oh0]) = some ⟨[∀ w', MemC w (fun _ => False) (fit4_b1 x w) [] (w.heap.size + 2) w' → Calls Try.prog 27 #[.int .i64 x.kind, .int .i64 10] w' (RetK (.int .i64 3) w'), ∀ w', MemC w (fun _ => False) (fit4_b1 x w) [] (w.heap.size + 2) w' → Calls Try.prog 27 #[.int .i64 x.stripe, .int .i64 8] w' (RetK (.int .i64 S) w')], dupR [(w.heap.size, 0, 1), (w.heap.size, 1, 1)], ⟨[(1, (pt w.heap.size 0)), (2, (pt (w.heap.size + 1) 0)), (11, .agg (List.toArray (fit4_v3 S)))], (fit4_b1 x w), [], w.heap.size + 2⟩⟩ := by kernel_rfl
theorem fit4_t3 (x : Raw9) (w : World) (S : Int) (g2 : Nat) (y2 : Nat) : tailP [1, 2, 3] (tailX Try.prog 86 (opsOf (getCode (bodyOf Try.f15) [1, 0])) 1 fit4_n2 ⟨[(3, (pt g2 0)), (1, (pt w.heap.size 0)), (2, (pt (w.heap.size + 1) 0)), (11, .agg (List.toArray (fit4_v3 S)))], (fit4_b2 x w g2), [], y2⟩ [(9, false, ⟨false, 0, [⟨false, 2, 0, 9⟩]⟩)]) = some (⟨[], dupR [(g2, 0, 9)], ⟨[(1, (pt w.heap.size 0)), (2, (pt (w.heap.size + 1) 0)), (3, (pt g2 0))], (fit4_b3 x w S g2), [], y2⟩⟩, 0, fit4_n3) := by kernel_rfl
theorem fit4_t4 (x : Raw9) (w : World) (S : Int) (y2 : Nat) : tailP [1, 2, 3] (tailX Try.prog 86 (opsOf (getCode (bodyOf Try.f15) [1, 0])) 2 fit4_n1 ⟨[(1, (pt w.heap.size 0)), (2, (pt (w.heap.size + 1) 0)), (11, .agg (List.toArray (fit4_v3 S)))], (fit4_b1 x w), [], y2⟩ [(8, false, oh0), (9, false, ⟨false, 0, [⟨false, 2, 0, 9⟩]⟩)]) = some (⟨[], dupR [(y2, 0, 9)], ⟨[(1, (pt w.heap.size 0)), (2, (pt (w.heap.size + 1) 0)), (3, (pt y2 0))], [⟨w.heap.size, 49, true, (fit4_v1 x)⟩, ⟨w.heap.size + 1, 31, true, (fit4_v2)⟩, ⟨y2, 31, true, (fit4_v3 S)⟩], [], y2 + 1⟩⟩, 0, fit4_n3) := by kernel_rfl
set_option maxRecDepth 100000 in
set_option maxHeartbeats 4000000 in
theorem fit_4 (x : Raw9) (S : Int) (E : Int) (Q6 : Int) (M63 : Int)  (hx : Raw9Ok x) (hK : pickZ x.kind 10 = 3) (hS : pickZ x.stripe 8 = S) (hE : pickZ x.epoch 6 = E) (hQ6 : pickZ x.seq 6 = Q6) (hM63 : pickZ x.mask 63 = M63) (w : World) :
    Calls Try.prog 15 #[.agg #[.int .i64 x.kind, .int .i64 x.stripe, .int .i64 x.epoch, .int .i64 x.seq, .int .i64 x.mask, .int .i64 x.node, .int .i64 x.oe, .int .i64 x.os, .string x.block]] w (RetK (.agg #[.int .i64 4, .int .i64 S, .int .i64 (1 + E), .int .i64 (1 + Q6), .int .i64 (1 + M63), .int .i64 0, .int .i64 0, .int .i64 0, .string (strL 16 x.block)]) w) := by
  have bS := pickZ_bd x.stripe 8 (by omega)
  rw [hS] at bS
  have bE := pickZ_bd x.epoch 6 (by omega)
  rw [hE] at bE
  have bQ6 := pickZ_bd x.seq 6 (by omega)
  rw [hQ6] at bQ6
  have bM63 := pickZ_bd x.mask 63 (by omega)
  rw [hM63] at bM63
  refine calls_of_holds (S := (fun _ => False)) (l := [.agg (List.toArray (fit4_v1 x))]) (n := 86) Try.func15 (body_of (by kernel_rfl)) rfl (by simp) (MemOk.none w _) ?_
  refine hgE 9 [oh0, oh0] [1, 2] [] [] [.code [1, 0], .code [1, 1]] ⟨[(1, (pt w.heap.size 0)), (2, (pt (w.heap.size + 1) 0))], (fit4_b1 x w), [], w.heap.size + 2⟩ ?_
  have HZ : ∀ (g2 y2 : Nat), w.heap.size + 2 ≤ g2 → w.heap.size + 2 ≤ y2 → Holds [] Try.prog (bodyOf Try.f15) 86 w (fun _ => False) (bodyPost Try.prog Try.f15 (RetK (.agg (List.toArray (fit4_v4 x S E Q6 M63))) w)) [.code [1, 1]] ⟨[(1, (pt w.heap.size 0)), (2, (pt (w.heap.size + 1) 0)), (3, (pt g2 0))], (fit4_b3 x w S g2), [], y2⟩ := by
    intro g2 y2 hg2 hy2
    refine hgE 16 [oh0, ⟨false, 0, [⟨false, 2, 0, 1⟩]⟩, oh0, oh0, oh0, ⟨false, 0, [⟨false, 0, 2, 1⟩]⟩] [1, 2, 3, 17] [fF] [(g2, 0, 1), (w.heap.size, 2, 1)] [.ops [1, 1, 1, 0] [2, 3, 4, 5], .code [1, 1, 1, 1]] ⟨[(1, (pt w.heap.size 0)), (2, (pt (w.heap.size + 1) 0)), (3, (pt g2 0)), (17, .int .i64 x.epoch)], (fit4_b3 x w S g2), [], y2⟩ ?_
    refine hcp (.int .i64 E) 27 [.int .i64 x.epoch, .int .i64 6] (some 18) [] trivial rfl (fun wx hm => pick9 _ _ _ hE wx (by omega) (by omega) hx.epoch) fun z6 hz6 => ?_
    replace hz6 : y2 ≤ z6 := hz6
    refine hgE 24 [oh2, oh0, ⟨false, 0, [⟨false, 2, 2, 1⟩]⟩, oh0, ⟨false, 0, [⟨false, 2, 0, 1⟩]⟩, oh0, oh0, oh1, oh0, ⟨false, 0, [⟨false, 0, 3, 1⟩]⟩] [1, 2, 3, 26] [n64 ((1 + E)), tT] [(g2, 2, 1), (g2, 0, 1), (w.heap.size, 3, 1)] [.ops [1, 1, 1, 1, 0, 1, 0, 1, 0, 0] [2, 3, 4, 5], .code [1, 1, 1, 1, 0, 1, 0, 1, 0, 1], .blk 0, .code [1, 1, 1, 1, 1]] ⟨[(1, (pt w.heap.size 0)), (2, (pt (w.heap.size + 1) 0)), (3, (pt g2 0)), (26, .int .i64 x.seq)], [⟨w.heap.size, 49, true, (fit4_v1 x)⟩, ⟨w.heap.size + 1, 31, true, (fit4_v2)⟩, ⟨g2, 31, true, [.int .i64 4, .int .i64 S, .int .i64 (1 + E), .int .i64 0, .int .i64 0, .int .i64 0, .int .i64 0, .int .i64 0, .string ⟨#[]⟩]⟩], [], z6⟩ ?_
    refine hcp (.int .i64 Q6) 27 [.int .i64 x.seq, .int .i64 6] (some 27) [] trivial rfl (fun wx hm => pick9 _ _ _ hQ6 wx (by omega) (by omega) hx.seq) fun z8 hz8 => ?_
    replace hz8 : z6 ≤ z8 := hz8
    refine hgE 11 [oh2, oh0, ⟨false, 0, [⟨false, 2, 3, 1⟩]⟩, oh0, ⟨false, 0, [⟨false, 0, 4, 1⟩]⟩] [1, 2, 3, 31] [n64 ((1 + Q6))] [(g2, 3, 1), (w.heap.size, 4, 1)] [.ops [1, 1, 1, 1, 0, 1, 0, 1, 0, 1, 0] [2, 3, 4, 5], .code [1, 1, 1, 1, 0, 1, 0, 1, 0, 1, 1], .blk 0, .code [1, 1, 1, 1, 1]] ⟨[(1, (pt w.heap.size 0)), (2, (pt (w.heap.size + 1) 0)), (3, (pt g2 0)), (31, .int .i64 x.mask)], [⟨w.heap.size, 49, true, (fit4_v1 x)⟩, ⟨w.heap.size + 1, 31, true, (fit4_v2)⟩, ⟨g2, 31, true, [.int .i64 4, .int .i64 S, .int .i64 (1 + E), .int .i64 (1 + Q6), .int .i64 0, .int .i64 0, .int .i64 0, .int .i64 0, .string ⟨#[]⟩]⟩], [], z8⟩ ?_
    refine hcp (.int .i64 M63) 27 [.int .i64 x.mask, .int .i64 63] (some 32) [] trivial rfl (fun wx hm => pick9 _ _ _ hM63 wx (by omega) (by omega) hx.mask) fun z10 hz10 => ?_
    replace hz10 : z8 ≤ z10 := hz10
    refine hgE 11 [oh2, oh0, ⟨false, 0, [⟨false, 2, 4, 1⟩]⟩, oh0, ⟨false, 0, [⟨false, 0, 8, 1⟩]⟩, oh0] [2, 3, 37] [n64 ((1 + M63))] [(g2, 4, 1), (w.heap.size, 8, 1)] [.ops [1, 1, 1, 1, 0, 1, 0, 1, 0, 1, 1] [3, 4, 5, 6, 7], .blk 0, .code [1, 1, 1, 1, 1]] ⟨[(2, (pt (w.heap.size + 1) 0)), (3, (pt g2 0)), (37, .slice (some ⟨z10, 0, none⟩) 1 1)], [⟨w.heap.size, 49, true, (fit4_v1 x)⟩, ⟨w.heap.size + 1, 31, true, (fit4_v2)⟩, ⟨g2, 31, true, (fit4_v5 S E Q6 M63)⟩, ⟨z10, 9, true, [.string x.block]⟩], [], z10 + 1⟩ ?_
    refine holds_callX (X := Nat × Nat × List Value) (fun y => z10 + 1 ≤ y.1) (fun y => .slice (some ⟨y.1, 0, none⟩) 1 y.2.1) (fun y => [⟨w.heap.size, 49, true, (fit4_v1 x)⟩, ⟨w.heap.size + 1, 31, true, (fit4_v2)⟩, ⟨g2, 31, true, (fit4_v5 S E Q6 M63)⟩, ⟨z10, 9, true, [.string x.block]⟩, ⟨y.1, 9, true, (.string (strL 16 x.block) :: y.2.2)⟩]) (fun y => [(38, .slice (some ⟨y.1, 0, none⟩) 1 y.2.1), (2, (pt (w.heap.size + 1) 0)), (3, (pt g2 0)), (37, .slice (some ⟨z10, 0, none⟩) 1 1)]) (show _ = some (28, [.slice (some ⟨z10, 0, none⟩) 1 1, .int .i64 1, .int .i64 16], some 38, []) by kernel_rfl) trivial (fun _ => rfl) (fun wx hm => ?_) ?_
    · refine (texts_any _ _ wx (hm.at_ 3 rfl)).mono fun e w' he => ?_
      obtain ⟨y, h1, h2, h3, h4⟩ := he
      rw [hm.size] at h1
      have h5 := hm.add h4 [⟨y.1, 9, true, .string (strL 16 x.block) :: y.2.2⟩] ⟨h3, trivial⟩ (by simpa using h1) (by simp)
      exact ⟨y, h1, h2, h5⟩
    intro y hy z12 hz12
    replace hz12 : z10 + 1 ≤ z12 := hz12
    refine hgE 14 [oh2, ⟨false, 0, [⟨false, 4, 0, 1⟩]⟩, oh0, ⟨false, 0, [⟨false, 2, 8, 1⟩]⟩, ⟨false, 0, [⟨false, 2, 0, 9⟩]⟩, ⟨false, 0, [⟨false, 1, 0, 9⟩]⟩] [2] [oE ((0 : Int) ≤ 0 ∧ 0 < ((1 : Nat) : Int))] [(y.1, 0, 1), (g2, 8, 1), (g2, 0, 9), (w.heap.size + 1, 0, 9)] [.code [1, 1, 1, 1, 1, 1]] ⟨[(2, (pt (w.heap.size + 1) 0))], [⟨w.heap.size, 49, true, (fit4_v1 x)⟩, ⟨w.heap.size + 1, 31, true, (fit4_v4 x S E Q6 M63)⟩, ⟨g2, 31, true, (fit4_v4 x S E Q6 M63)⟩, ⟨z10, 9, true, [.string x.block]⟩, ⟨y.1, 9, true, (.string (strL 16 x.block) :: y.2.2)⟩], [], z12⟩ ?_
    refine hrt [[⟨false, 1, 0, 9⟩]] [.agg (List.toArray (fit4_v4 x S E Q6 M63))] [(w.heap.size + 1, 0, 9)] ?_
    intro wx hm
    exact ⟨rfl, hm.kept⟩
  have H1 : ∀ (g2 y2 : Nat), w.heap.size + 2 ≤ g2 → w.heap.size + 2 ≤ y2 → Holds [] Try.prog (bodyOf Try.f15) 86 w (fun _ => False) (bodyPost Try.prog Try.f15 (RetK (.agg (List.toArray (fit4_v4 x S E Q6 M63))) w)) (.any [1, 0] 1 fit4_n2 :: [.code [1, 1]]) ⟨[(3, (pt g2 0)), (1, (pt w.heap.size 0)), (2, (pt (w.heap.size + 1) 0)), (11, .agg (List.toArray (fit4_v3 S)))], (fit4_b2 x w g2), [], y2⟩ := by
    intro g2 y2 hg2 hy2
    refine holds_tail panicOk_body _ _ (fit4_t3 x w S g2 y2) trivial ?_
    refine holds_done (by kernel_rfl) ?_
    exact HZ g2 _ (by omega) (by omega)
  refine holds_float (fl := 8) (t := 31) (d := 3) (cs := (fit4_v2)) (ls0 := fit4_n1) (ls1 := fit4_n2) (f := 1) 8 _ _ (by kernel_rfl) (by kernel_rfl) (by kernel_rfl) (by kernel_rfl) (by decide) (by kernel_rfl) (by kernel_rfl) (by kernel_rfl) (fit4_q2 x w S) ⟨(fun wx hm => pick9 _ _ _ hK wx (by omega) (by omega) hx.kind), (fun wx hm => pick9 _ _ _ hS wx (by omega) (by omega) hx.stripe), trivial⟩ H1 ?_
  intro y2 hy2
  replace hy2 : w.heap.size + 2 ≤ y2 := hy2
  refine holds_tail panicOk_body _ _ (fit4_t4 x w S y2) trivial ?_
  refine holds_done (by kernel_rfl) ?_
  exact HZ _ _ (by omega) (by omega)

def fit5_v1 (x : Raw9) : List Value := [.int .i64 x.kind, .int .i64 x.stripe, .int .i64 x.epoch, .int .i64 x.seq, .int .i64 x.mask, .int .i64 x.node, .int .i64 x.oe, .int .i64 x.os, .string x.block]
def fit5_v2 : List Value := [.int .i64 0, .int .i64 0, .int .i64 0, .int .i64 0, .int .i64 0, .int .i64 0, .int .i64 0, .int .i64 0, .string ⟨#[]⟩]
def fit5_v3 (S : Int) : List Value := [.int .i64 5, .int .i64 S, .int .i64 0, .int .i64 0, .int .i64 0, .int .i64 0, .int .i64 0, .int .i64 0, .string ⟨#[]⟩]
def fit5_v4 (S : Int) (E : Int) (Q6 : Int) : List Value := [.int .i64 5, .int .i64 S, .int .i64 (1 + E), .int .i64 (1 + Q6), .int .i64 0, .int .i64 0, .int .i64 0, .int .i64 0, .string ⟨#[]⟩]
def fit5_n1 : Array Bool := #[true, true, true, true, true, true, true, true, false, false]
def fit5_n2 : Array Bool := #[true, true, true, true, true, true, true, true, true, false]
def fit5_n3 : Array Bool := #[true, true, true, true, true, true, true, true, true, true]
@[simp] def fit5_b1 (x : Raw9) (w : World) : List Bk := [⟨w.heap.size, 49, true, (fit5_v1 x)⟩, ⟨w.heap.size + 1, 31, true, (fit5_v2)⟩]
@[simp] def fit5_b2 (x : Raw9) (w : World) (g2 : Nat) : List Bk := [⟨w.heap.size, 49, true, (fit5_v1 x)⟩, ⟨w.heap.size + 1, 31, true, (fit5_v2)⟩, ⟨g2, 31, true, (fit5_v2)⟩]
@[simp] def fit5_b3 (x : Raw9) (w : World) (S : Int) (g2 : Nat) : List Bk := [⟨w.heap.size, 49, true, (fit5_v1 x)⟩, ⟨w.heap.size + 1, 31, true, (fit5_v2)⟩, ⟨g2, 31, true, (fit5_v3 S)⟩]
theorem fit5_q2 (x : Raw9) (w : World) (S : Int) : Out.prune [1, 2, 11] (qList Try.prog 86 w (fun _ => False) ((opsOf (getCode (bodyOf Try.f15) [1, 0])).toList.take 8) ⟨[(1, (pt w.heap.size 0)), (2, (pt (w.heap.size + 1) 0))], (fit5_b1 x w), [], w.heap.size + 2⟩ [.op oh0, .op ⟨false, 0, [⟨false, 0, 0, 1⟩]⟩, .call (.int .i64 4), .op oh0, .op oh0, .op ⟨false, 0, [⟨false, 0, 1, 1⟩]⟩, .call (.int .i64 S), .op oh0]) = some ⟨[∀ w', MemC w (fun _ => False) (fit5_b1 x w) [] (w.heap.size + 2) w' → Calls Try.prog 27 #[.int .i64 x.kind, .int .i64 10] w' (RetK (.int .i64 4) w'), ∀ w', MemC w (fun _ => False) (fit5_b1 x w) [] (w.heap.size + 2) w' → Calls Try.prog 27 #[.int .i64 x.stripe, .int .i64 8] w' (RetK (.int .i64 S) w')], dupR [(w.heap.size, 0, 1), (w.heap.size, 1, 1)], ⟨[(1, (pt w.heap.size 0)), (2, (pt (w.heap.size + 1) 0)), (11, .agg (List.toArray (fit5_v3 S)))], (fit5_b1 x w), [], w.heap.size + 2⟩⟩ := by kernel_rfl
theorem fit5_t3 (x : Raw9) (w : World) (S : Int) (g2 : Nat) (y2 : Nat) : tailP [1, 2, 3] (tailX Try.prog 86 (opsOf (getCode (bodyOf Try.f15) [1, 0])) 1 fit5_n2 ⟨[(3, (pt g2 0)), (1, (pt w.heap.size 0)), (2, (pt (w.heap.size + 1) 0)), (11, .agg (List.toArray (fit5_v3 S)))], (fit5_b2 x w g2), [], y2⟩ [(9, false, ⟨false, 0, [⟨false, 2, 0, 9⟩]⟩)]) = some (⟨[], dupR [(g2, 0, 9)], ⟨[(1, (pt w.heap.size 0)), (2, (pt (w.heap.size + 1) 0)), (3, (pt g2 0))], (fit5_b3 x w S g2), [], y2⟩⟩, 0, fit5_n3) := by kernel_rfl
theorem fit5_t4 (x : Raw9) (w : World) (S : Int) (y2 : Nat) : tailP [1, 2, 3] (tailX Try.prog 86 (opsOf (getCode (bodyOf Try.f15) [1, 0])) 2 fit5_n1 ⟨[(1, (pt w.heap.size 0)), (2, (pt (w.heap.size + 1) 0)), (11, .agg (List.toArray (fit5_v3 S)))], (fit5_b1 x w), [], y2⟩ [(8, false, oh0), (9, false, ⟨false, 0, [⟨false, 2, 0, 9⟩]⟩)]) = some (⟨[], dupR [(y2, 0, 9)], ⟨[(1, (pt w.heap.size 0)), (2, (pt (w.heap.size + 1) 0)), (3, (pt y2 0))], [⟨w.heap.size, 49, true, (fit5_v1 x)⟩, ⟨w.heap.size + 1, 31, true, (fit5_v2)⟩, ⟨y2, 31, true, (fit5_v3 S)⟩], [], y2 + 1⟩⟩, 0, fit5_n3) := by kernel_rfl
set_option maxRecDepth 100000 in
set_option maxHeartbeats 4000000 in
theorem fit_5 (x : Raw9) (S : Int) (E : Int) (Q6 : Int)  (hx : Raw9Ok x) (hK : pickZ x.kind 10 = 4) (hS : pickZ x.stripe 8 = S) (hE : pickZ x.epoch 6 = E) (hQ6 : pickZ x.seq 6 = Q6) (w : World) :
    Calls Try.prog 15 #[.agg #[.int .i64 x.kind, .int .i64 x.stripe, .int .i64 x.epoch, .int .i64 x.seq, .int .i64 x.mask, .int .i64 x.node, .int .i64 x.oe, .int .i64 x.os, .string x.block]] w (RetK (.agg #[.int .i64 5, .int .i64 S, .int .i64 (1 + E), .int .i64 (1 + Q6), .int .i64 0, .int .i64 0, .int .i64 0, .int .i64 0, .string ⟨#[]⟩]) w) := by
  have bS := pickZ_bd x.stripe 8 (by omega)
  rw [hS] at bS
  have bE := pickZ_bd x.epoch 6 (by omega)
  rw [hE] at bE
  have bQ6 := pickZ_bd x.seq 6 (by omega)
  rw [hQ6] at bQ6
  refine calls_of_holds (S := (fun _ => False)) (l := [.agg (List.toArray (fit5_v1 x))]) (n := 86) Try.func15 (body_of (by kernel_rfl)) rfl (by simp) (MemOk.none w _) ?_
  refine hgE 9 [oh0, oh0] [1, 2] [] [] [.code [1, 0], .code [1, 1]] ⟨[(1, (pt w.heap.size 0)), (2, (pt (w.heap.size + 1) 0))], (fit5_b1 x w), [], w.heap.size + 2⟩ ?_
  have HZ : ∀ (g2 y2 : Nat), w.heap.size + 2 ≤ g2 → w.heap.size + 2 ≤ y2 → Holds [] Try.prog (bodyOf Try.f15) 86 w (fun _ => False) (bodyPost Try.prog Try.f15 (RetK (.agg (List.toArray (fit5_v4 S E Q6))) w)) [.code [1, 1]] ⟨[(1, (pt w.heap.size 0)), (2, (pt (w.heap.size + 1) 0)), (3, (pt g2 0))], (fit5_b3 x w S g2), [], y2⟩ := by
    intro g2 y2 hg2 hy2
    refine hgE 16 [oh0, ⟨false, 0, [⟨false, 2, 0, 1⟩]⟩, oh0, oh0, oh0, ⟨false, 0, [⟨false, 0, 2, 1⟩]⟩] [1, 2, 3, 17] [fF] [(g2, 0, 1), (w.heap.size, 2, 1)] [.ops [1, 1, 1, 0] [2, 3, 4, 5], .code [1, 1, 1, 1]] ⟨[(1, (pt w.heap.size 0)), (2, (pt (w.heap.size + 1) 0)), (3, (pt g2 0)), (17, .int .i64 x.epoch)], (fit5_b3 x w S g2), [], y2⟩ ?_
    refine hcp (.int .i64 E) 27 [.int .i64 x.epoch, .int .i64 6] (some 18) [] trivial rfl (fun wx hm => pick9 _ _ _ hE wx (by omega) (by omega) hx.epoch) fun z6 hz6 => ?_
    replace hz6 : y2 ≤ z6 := hz6
    refine hgE 29 [oh2, oh0, ⟨false, 0, [⟨false, 2, 2, 1⟩]⟩, oh0, ⟨false, 0, [⟨false, 2, 0, 1⟩]⟩, oh0, oh0, oh0, oh0, oh0, oh1, oh0, ⟨false, 0, [⟨false, 0, 3, 1⟩]⟩] [2, 3, 45] [n64 ((1 + E)), fF, tT] [(g2, 2, 1), (g2, 0, 1), (w.heap.size, 3, 1)] [.ops [1, 1, 1, 1, 0, 1, 0, 1, 1, 1, 0] [2, 3, 4, 5], .blk 0, .code [1, 1, 1, 1, 1]] ⟨[(2, (pt (w.heap.size + 1) 0)), (3, (pt g2 0)), (45, .int .i64 x.seq)], [⟨w.heap.size, 49, true, (fit5_v1 x)⟩, ⟨w.heap.size + 1, 31, true, (fit5_v2)⟩, ⟨g2, 31, true, [.int .i64 5, .int .i64 S, .int .i64 (1 + E), .int .i64 0, .int .i64 0, .int .i64 0, .int .i64 0, .int .i64 0, .string ⟨#[]⟩]⟩], [], z6⟩ ?_
    refine hcp (.int .i64 Q6) 27 [.int .i64 x.seq, .int .i64 6] (some 46) [] trivial rfl (fun wx hm => pick9 _ _ _ hQ6 wx (by omega) (by omega) hx.seq) fun z8 hz8 => ?_
    replace hz8 : z6 ≤ z8 := hz8
    refine hgE 13 [oh2, oh0, ⟨false, 0, [⟨false, 2, 3, 1⟩]⟩, ⟨false, 0, [⟨false, 2, 0, 9⟩]⟩, ⟨false, 0, [⟨false, 1, 0, 9⟩]⟩] [2] [n64 ((1 + Q6))] [(g2, 3, 1), (g2, 0, 9), (w.heap.size + 1, 0, 9)] [.code [1, 1, 1, 1, 1, 1]] ⟨[(2, (pt (w.heap.size + 1) 0))], [⟨w.heap.size, 49, true, (fit5_v1 x)⟩, ⟨w.heap.size + 1, 31, true, (fit5_v4 S E Q6)⟩, ⟨g2, 31, true, (fit5_v4 S E Q6)⟩], [], z8⟩ ?_
    refine hrt [[⟨false, 1, 0, 9⟩]] [.agg (List.toArray (fit5_v4 S E Q6))] [(w.heap.size + 1, 0, 9)] ?_
    intro wx hm
    exact ⟨rfl, hm.kept⟩
  have H1 : ∀ (g2 y2 : Nat), w.heap.size + 2 ≤ g2 → w.heap.size + 2 ≤ y2 → Holds [] Try.prog (bodyOf Try.f15) 86 w (fun _ => False) (bodyPost Try.prog Try.f15 (RetK (.agg (List.toArray (fit5_v4 S E Q6))) w)) (.any [1, 0] 1 fit5_n2 :: [.code [1, 1]]) ⟨[(3, (pt g2 0)), (1, (pt w.heap.size 0)), (2, (pt (w.heap.size + 1) 0)), (11, .agg (List.toArray (fit5_v3 S)))], (fit5_b2 x w g2), [], y2⟩ := by
    intro g2 y2 hg2 hy2
    refine holds_tail panicOk_body _ _ (fit5_t3 x w S g2 y2) trivial ?_
    refine holds_done (by kernel_rfl) ?_
    exact HZ g2 _ (by omega) (by omega)
  refine holds_float (fl := 8) (t := 31) (d := 3) (cs := (fit5_v2)) (ls0 := fit5_n1) (ls1 := fit5_n2) (f := 1) 8 _ _ (by kernel_rfl) (by kernel_rfl) (by kernel_rfl) (by kernel_rfl) (by decide) (by kernel_rfl) (by kernel_rfl) (by kernel_rfl) (fit5_q2 x w S) ⟨(fun wx hm => pick9 _ _ _ hK wx (by omega) (by omega) hx.kind), (fun wx hm => pick9 _ _ _ hS wx (by omega) (by omega) hx.stripe), trivial⟩ H1 ?_
  intro y2 hy2
  replace hy2 : w.heap.size + 2 ≤ y2 := hy2
  refine holds_tail panicOk_body _ _ (fit5_t4 x w S y2) trivial ?_
  refine holds_done (by kernel_rfl) ?_
  exact HZ _ _ (by omega) (by omega)

def fit6_v1 (x : Raw9) : List Value := [.int .i64 x.kind, .int .i64 x.stripe, .int .i64 x.epoch, .int .i64 x.seq, .int .i64 x.mask, .int .i64 x.node, .int .i64 x.oe, .int .i64 x.os, .string x.block]
def fit6_v2 : List Value := [.int .i64 0, .int .i64 0, .int .i64 0, .int .i64 0, .int .i64 0, .int .i64 0, .int .i64 0, .int .i64 0, .string ⟨#[]⟩]
def fit6_v3 (S : Int) : List Value := [.int .i64 6, .int .i64 S, .int .i64 0, .int .i64 0, .int .i64 0, .int .i64 0, .int .i64 0, .int .i64 0, .string ⟨#[]⟩]
def fit6_v4 (S : Int) (E : Int) (M2 : Int) : List Value := [.int .i64 6, .int .i64 S, .int .i64 (1 + E), .int .i64 0, .int .i64 M2, .int .i64 0, .int .i64 0, .int .i64 0, .string ⟨#[]⟩]
def fit6_v5 (S : Int) (E : Int) (M2 : Int) (OE : Int) (OS : Int) : List Value := [.int .i64 6, .int .i64 S, .int .i64 (1 + E), .int .i64 0, .int .i64 M2, .int .i64 0, .int .i64 OE, .int .i64 OS, .string ⟨#[]⟩]
def fit6_n1 : List Nat := [1, 1, 1, 1, 0, 1, 0, 1, 1, 1, 1, 1, 1, 1, 0, 1]
def fit6_n2 : Array Bool := #[true, true, true, true, true, true, true, true, false, false]
def fit6_n3 : Array Bool := #[true, true, true, true, true, true, true, true, true, false]
def fit6_n4 : Array Bool := #[true, true, true, true, true, true, true, true, true, true, false]
def fit6_n5 : Array Bool := #[true, true, true, true, true, true, true, true, true, true]
@[simp] def fit6_b1 (x : Raw9) (w : World) : List Bk := [⟨w.heap.size, 49, true, (fit6_v1 x)⟩, ⟨w.heap.size + 1, 31, true, (fit6_v2)⟩]
@[simp] def fit6_b2 (x : Raw9) (w : World) (g2 : Nat) : List Bk := [⟨w.heap.size, 49, true, (fit6_v1 x)⟩, ⟨w.heap.size + 1, 31, true, (fit6_v2)⟩, ⟨g2, 31, true, (fit6_v2)⟩]
@[simp] def fit6_b3 (x : Raw9) (w : World) (S : Int) (g2 : Nat) : List Bk := [⟨w.heap.size, 49, true, (fit6_v1 x)⟩, ⟨w.heap.size + 1, 31, true, (fit6_v2)⟩, ⟨g2, 31, true, (fit6_v3 S)⟩]
@[simp] def fit6_b4 (x : Raw9) (w : World) (S : Int) (E : Int) (M2 : Int) (g2 : Nat) : List Bk := [⟨w.heap.size, 49, true, (fit6_v1 x)⟩, ⟨w.heap.size + 1, 31, true, (fit6_v2)⟩, ⟨g2, 31, true, (fit6_v4 S E M2)⟩]
theorem fit6_q2 (x : Raw9) (w : World) (S : Int) : Out.prune [1, 2, 11] (qList Try.prog 86 w (fun _ => False) ((opsOf (getCode (bodyOf Try.f15) [1, 0])).toList.take 8) ⟨[(1, (pt w.heap.size 0)), (2, (pt (w.heap.size + 1) 0))], (fit6_b1 x w), [], w.heap.size + 2⟩ [.op oh0, .op ⟨false, 0, [⟨false, 0, 0, 1⟩]⟩, .call (.int .i64 5), .op oh0, .op oh0, .op ⟨false, 0, [⟨false, 0, 1, 1⟩]⟩, .call (.int .i64 S), .op oh0]) = some ⟨[∀ w', MemC w (fun _ => False) (fit6_b1 x w) [] (w.heap.size + 2) w' → Calls Try.prog 27 #[.int .i64 x.kind, .int .i64 10] w' (RetK (.int .i64 5) w'), ∀ w', MemC w (fun _ => False) (fit6_b1 x w) [] (w.heap.size + 2) w' → Calls Try.prog 27 #[.int .i64 x.stripe, .int .i64 8] w' (RetK (.int .i64 S) w')], dupR [(w.heap.size, 0, 1), (w.heap.size, 1, 1)], ⟨[(1, (pt w.heap.size 0)), (2, (pt (w.heap.size + 1) 0)), (11, .agg (List.toArray (fit6_v3 S)))], (fit6_b1 x w), [], w.heap.size + 2⟩⟩ := by kernel_rfl
theorem fit6_t3 (x : Raw9) (w : World) (S : Int) (g2 : Nat) (y2 : Nat) : tailP [1, 2, 3] (tailX Try.prog 86 (opsOf (getCode (bodyOf Try.f15) [1, 0])) 1 fit6_n3 ⟨[(3, (pt g2 0)), (1, (pt w.heap.size 0)), (2, (pt (w.heap.size + 1) 0)), (11, .agg (List.toArray (fit6_v3 S)))], (fit6_b2 x w g2), [], y2⟩ [(9, false, ⟨false, 0, [⟨false, 2, 0, 9⟩]⟩)]) = some (⟨[], dupR [(g2, 0, 9)], ⟨[(1, (pt w.heap.size 0)), (2, (pt (w.heap.size + 1) 0)), (3, (pt g2 0))], (fit6_b3 x w S g2), [], y2⟩⟩, 0, fit6_n5) := by kernel_rfl
theorem fit6_t4 (x : Raw9) (w : World) (S : Int) (y2 : Nat) : tailP [1, 2, 3] (tailX Try.prog 86 (opsOf (getCode (bodyOf Try.f15) [1, 0])) 2 fit6_n2 ⟨[(1, (pt w.heap.size 0)), (2, (pt (w.heap.size + 1) 0)), (11, .agg (List.toArray (fit6_v3 S)))], (fit6_b1 x w), [], y2⟩ [(8, false, oh0), (9, false, ⟨false, 0, [⟨false, 2, 0, 9⟩]⟩)]) = some (⟨[], dupR [(y2, 0, 9)], ⟨[(1, (pt w.heap.size 0)), (2, (pt (w.heap.size + 1) 0)), (3, (pt y2 0))], [⟨w.heap.size, 49, true, (fit6_v1 x)⟩, ⟨w.heap.size + 1, 31, true, (fit6_v2)⟩, ⟨y2, 31, true, (fit6_v3 S)⟩], [], y2 + 1⟩⟩, 0, fit6_n5) := by kernel_rfl
theorem fit6_q10 (x : Raw9) (w : World) (S : Int) (E : Int) (M2 : Int) (OE : Int) (OS : Int) (g2 : Nat) (z8 : Nat) : Out.prune [2, 3, 77, 78] (qList Try.prog 86 w (fun _ => False) ((opsOf (getCode (bodyOf Try.f15) fit6_n1)).toList.take 10) ⟨[(1, (pt w.heap.size 0)), (2, (pt (w.heap.size + 1) 0)), (3, (pt g2 0))], (fit6_b4 x w S E M2 g2), [], z8⟩ [.op oh0, .op ⟨false, 0, [⟨false, 0, 6, 1⟩]⟩, .op oh0, .op ⟨false, 0, [⟨false, 2, 2, 1⟩]⟩, .call (.int .i64 OE), .op oh0, .op ⟨false, 0, [⟨false, 0, 7, 1⟩]⟩, .call (.int .i64 OS), .op oh0, .op oh0]) = some ⟨[∀ w', MemC w (fun _ => False) (fit6_b4 x w S E M2 g2) [] z8 w' → Calls Try.prog 27 #[.int .i64 x.oe, .int .i64 (1 + E)] w' (RetK (.int .i64 OE) w'), ∀ w', MemC w (fun _ => False) (fit6_b4 x w S E M2 g2) [] z8 w' → Calls Try.prog 27 #[.int .i64 x.os, .int .i64 7] w' (RetK (.int .i64 OS) w')], dupR [(w.heap.size, 6, 1), (g2, 2, 1), (w.heap.size, 7, 1)], ⟨[(2, (pt (w.heap.size + 1) 0)), (3, (pt g2 0)), (77, .agg #[.int .i64 OE, .int .i64 OS]), (78, (pt g2 6))], (fit6_b4 x w S E M2 g2), [], z8⟩⟩ := by kernel_rfl
theorem fit6_t11 (x : Raw9) (w : World) (S : Int) (E : Int) (M2 : Int) (OE : Int) (OS : Int) (g2 : Nat) (z10 : Nat) : tailP [2, 3] (tailX Try.prog 86 (opsOf (getCode (bodyOf Try.f15) fit6_n1)) 1 fit6_n4 ⟨[(2, (pt (w.heap.size + 1) 0)), (3, (pt g2 0)), (77, .agg #[.int .i64 OE, .int .i64 OS]), (78, (pt g2 6))], (fit6_b4 x w S E M2 g2), [], z10⟩ [(10, false, ⟨false, 0, [⟨false, 2, 6, 2⟩]⟩)]) = some (⟨[], dupR [(g2, 6, 2)], ⟨[(2, (pt (w.heap.size + 1) 0)), (3, (pt g2 0))], [⟨w.heap.size, 49, true, (fit6_v1 x)⟩, ⟨w.heap.size + 1, 31, true, (fit6_v2)⟩, ⟨g2, 31, true, (fit6_v5 S E M2 OE OS)⟩], [], z10⟩⟩, 0, #[true, true, true, true, true, true, true, true, true, true, true]) := by kernel_rfl
set_option maxRecDepth 100000 in
set_option maxHeartbeats 4000000 in
theorem fit_6 (x : Raw9) (S : Int) (E : Int) (M2 : Int) (OE : Int) (OS : Int)  (hx : Raw9Ok x) (hK : pickZ x.kind 10 = 5) (hS : pickZ x.stripe 8 = S) (hE : pickZ x.epoch 6 = E) (hM2 : pickZ x.mask 2 = M2) (hOE : pickZ x.oe (1 + E) = OE) (hOS : pickZ x.os 7 = OS) (w : World) :
    Calls Try.prog 15 #[.agg #[.int .i64 x.kind, .int .i64 x.stripe, .int .i64 x.epoch, .int .i64 x.seq, .int .i64 x.mask, .int .i64 x.node, .int .i64 x.oe, .int .i64 x.os, .string x.block]] w (RetK (.agg #[.int .i64 6, .int .i64 S, .int .i64 (1 + E), .int .i64 0, .int .i64 M2, .int .i64 0, .int .i64 OE, .int .i64 OS, .string ⟨#[]⟩]) w) := by
  have bS := pickZ_bd x.stripe 8 (by omega)
  rw [hS] at bS
  have bE := pickZ_bd x.epoch 6 (by omega)
  rw [hE] at bE
  have bM2 := pickZ_bd x.mask 2 (by omega)
  rw [hM2] at bM2
  have bOE := pickZ_bd x.oe (1 + E) (by omega)
  rw [hOE] at bOE
  have bOS := pickZ_bd x.os 7 (by omega)
  rw [hOS] at bOS
  refine calls_of_holds (S := (fun _ => False)) (l := [.agg (List.toArray (fit6_v1 x))]) (n := 86) Try.func15 (body_of (by kernel_rfl)) rfl (by simp) (MemOk.none w _) ?_
  refine hgE 9 [oh0, oh0] [1, 2] [] [] [.code [1, 0], .code [1, 1]] ⟨[(1, (pt w.heap.size 0)), (2, (pt (w.heap.size + 1) 0))], (fit6_b1 x w), [], w.heap.size + 2⟩ ?_
  have HZ : ∀ (g2 y2 : Nat), w.heap.size + 2 ≤ g2 → w.heap.size + 2 ≤ y2 → Holds [] Try.prog (bodyOf Try.f15) 86 w (fun _ => False) (bodyPost Try.prog Try.f15 (RetK (.agg (List.toArray (fit6_v5 S E M2 OE OS))) w)) [.code [1, 1]] ⟨[(1, (pt w.heap.size 0)), (2, (pt (w.heap.size + 1) 0)), (3, (pt g2 0))], (fit6_b3 x w S g2), [], y2⟩ := by
    intro g2 y2 hg2 hy2
    refine hgE 16 [oh0, ⟨false, 0, [⟨false, 2, 0, 1⟩]⟩, oh0, oh0, oh0, ⟨false, 0, [⟨false, 0, 2, 1⟩]⟩] [1, 2, 3, 17] [fF] [(g2, 0, 1), (w.heap.size, 2, 1)] [.ops [1, 1, 1, 0] [2, 3, 4, 5], .code [1, 1, 1, 1]] ⟨[(1, (pt w.heap.size 0)), (2, (pt (w.heap.size + 1) 0)), (3, (pt g2 0)), (17, .int .i64 x.epoch)], (fit6_b3 x w S g2), [], y2⟩ ?_
    refine hcp (.int .i64 E) 27 [.int .i64 x.epoch, .int .i64 6] (some 18) [] trivial rfl (fun wx hm => pick9 _ _ _ hE wx (by omega) (by omega) hx.epoch) fun z6 hz6 => ?_
    replace hz6 : y2 ≤ z6 := hz6
    refine hgE 42 [oh2, oh0, ⟨false, 0, [⟨false, 2, 2, 1⟩]⟩, oh0, ⟨false, 0, [⟨false, 2, 0, 1⟩]⟩, oh0, oh0, oh0, oh0, oh0, oh0, oh0, oh0, oh0, oh0, oh0, oh1, oh0, ⟨false, 0, [⟨false, 0, 4, 1⟩]⟩] [1, 2, 3, 66] [n64 ((1 + E)), fF, fF, fF, tT] [(g2, 2, 1), (g2, 0, 1), (w.heap.size, 4, 1)] [.ops [1, 1, 1, 1, 0, 1, 0, 1, 1, 1, 1, 1, 1, 1, 0, 0] [2, 3, 4], .code fit6_n1, .blk 0, .code [1, 1, 1, 1, 1]] ⟨[(1, (pt w.heap.size 0)), (2, (pt (w.heap.size + 1) 0)), (3, (pt g2 0)), (66, .int .i64 x.mask)], [⟨w.heap.size, 49, true, (fit6_v1 x)⟩, ⟨w.heap.size + 1, 31, true, (fit6_v2)⟩, ⟨g2, 31, true, [.int .i64 6, .int .i64 S, .int .i64 (1 + E), .int .i64 0, .int .i64 0, .int .i64 0, .int .i64 0, .int .i64 0, .string ⟨#[]⟩]⟩], [], z6⟩ ?_
    refine hcp (.int .i64 M2) 27 [.int .i64 x.mask, .int .i64 2] (some 67) [] trivial rfl (fun wx hm => pick9 _ _ _ hM2 wx (by omega) (by omega) hx.mask) fun z8 hz8 => ?_
    replace hz8 : z6 ≤ z8 := hz8
    refine hgE 6 [oh0, ⟨false, 0, [⟨false, 2, 4, 1⟩]⟩] [1, 2, 3] [] [(g2, 4, 1)] [.code fit6_n1, .blk 0, .code [1, 1, 1, 1, 1]] ⟨[(1, (pt w.heap.size 0)), (2, (pt (w.heap.size + 1) 0)), (3, (pt g2 0))], (fit6_b4 x w S E M2 g2), [], z8⟩ ?_
    refine holds_draw (f := 1) (ls := fit6_n4) 10 _ _ (by kernel_rfl) (by kernel_rfl) (by kernel_rfl) (by kernel_rfl) (fit6_q10 x w S E M2 OE OS g2 z8) ⟨(fun wx hm => pick9 _ _ _ hOE wx (by omega) (by omega) hx.oe), (fun wx hm => pick9 _ _ _ hOS wx (by omega) (by omega) hx.os), trivial⟩ fun z10 hz10 => ?_
    replace hz10 : z8 ≤ z10 := hz10
    refine holds_tail panicOk_body _ _ (fit6_t11 x w S E M2 OE OS g2 z10) trivial ?_
    refine holds_done (by kernel_rfl) ?_
    refine hgE 9 [⟨false, 0, [⟨false, 2, 0, 9⟩]⟩, ⟨false, 0, [⟨false, 1, 0, 9⟩]⟩] [2] [] [(g2, 0, 9), (w.heap.size + 1, 0, 9)] [.code [1, 1, 1, 1, 1, 1]] ⟨[(2, (pt (w.heap.size + 1) 0))], [⟨w.heap.size, 49, true, (fit6_v1 x)⟩, ⟨w.heap.size + 1, 31, true, (fit6_v5 S E M2 OE OS)⟩, ⟨g2, 31, true, (fit6_v5 S E M2 OE OS)⟩], [], z10⟩ ?_
    refine hrt [[⟨false, 1, 0, 9⟩]] [.agg (List.toArray (fit6_v5 S E M2 OE OS))] [(w.heap.size + 1, 0, 9)] ?_
    intro wx hm
    exact ⟨rfl, hm.kept⟩
  have H1 : ∀ (g2 y2 : Nat), w.heap.size + 2 ≤ g2 → w.heap.size + 2 ≤ y2 → Holds [] Try.prog (bodyOf Try.f15) 86 w (fun _ => False) (bodyPost Try.prog Try.f15 (RetK (.agg (List.toArray (fit6_v5 S E M2 OE OS))) w)) (.any [1, 0] 1 fit6_n3 :: [.code [1, 1]]) ⟨[(3, (pt g2 0)), (1, (pt w.heap.size 0)), (2, (pt (w.heap.size + 1) 0)), (11, .agg (List.toArray (fit6_v3 S)))], (fit6_b2 x w g2), [], y2⟩ := by
    intro g2 y2 hg2 hy2
    refine holds_tail panicOk_body _ _ (fit6_t3 x w S g2 y2) trivial ?_
    refine holds_done (by kernel_rfl) ?_
    exact HZ g2 _ (by omega) (by omega)
  refine holds_float (fl := 8) (t := 31) (d := 3) (cs := (fit6_v2)) (ls0 := fit6_n2) (ls1 := fit6_n3) (f := 1) 8 _ _ (by kernel_rfl) (by kernel_rfl) (by kernel_rfl) (by kernel_rfl) (by decide) (by kernel_rfl) (by kernel_rfl) (by kernel_rfl) (fit6_q2 x w S) ⟨(fun wx hm => pick9 _ _ _ hK wx (by omega) (by omega) hx.kind), (fun wx hm => pick9 _ _ _ hS wx (by omega) (by omega) hx.stripe), trivial⟩ H1 ?_
  intro y2 hy2
  replace hy2 : w.heap.size + 2 ≤ y2 := hy2
  refine holds_tail panicOk_body _ _ (fit6_t4 x w S y2) trivial ?_
  refine holds_done (by kernel_rfl) ?_
  exact HZ _ _ (by omega) (by omega)

def fit7_v1 (x : Raw9) : List Value := [.int .i64 x.kind, .int .i64 x.stripe, .int .i64 x.epoch, .int .i64 x.seq, .int .i64 x.mask, .int .i64 x.node, .int .i64 x.oe, .int .i64 x.os, .string x.block]
def fit7_v2 : List Value := [.int .i64 0, .int .i64 0, .int .i64 0, .int .i64 0, .int .i64 0, .int .i64 0, .int .i64 0, .int .i64 0, .string ⟨#[]⟩]
def fit7_v3 (S : Int) : List Value := [.int .i64 7, .int .i64 S, .int .i64 0, .int .i64 0, .int .i64 0, .int .i64 0, .int .i64 0, .int .i64 0, .string ⟨#[]⟩]
def fit7_v4 (x : Raw9) (S : Int) (E : Int) (Q6 : Int) : List Value := [.int .i64 7, .int .i64 S, .int .i64 (1 + E), .int .i64 (1 + Q6), .int .i64 0, .int .i64 0, .int .i64 0, .int .i64 0, .string (strL 16 x.block)]
def fit7_v5 (S : Int) (E : Int) (Q6 : Int) : List Value := [.int .i64 7, .int .i64 S, .int .i64 (1 + E), .int .i64 (1 + Q6), .int .i64 0, .int .i64 0, .int .i64 0, .int .i64 0, .string ⟨#[]⟩]
def fit7_n1 : Array Bool := #[true, true, true, true, true, true, true, true, false, false]
def fit7_n2 : Array Bool := #[true, true, true, true, true, true, true, true, true, false]
def fit7_n3 : Array Bool := #[true, true, true, true, true, true, true, true, true, true]
@[simp] def fit7_b1 (x : Raw9) (w : World) : List Bk := [⟨w.heap.size, 49, true, (fit7_v1 x)⟩, ⟨w.heap.size + 1, 31, true, (fit7_v2)⟩]
@[simp] def fit7_b2 (x : Raw9) (w : World) (g2 : Nat) : List Bk := [⟨w.heap.size, 49, true, (fit7_v1 x)⟩, ⟨w.heap.size + 1, 31, true, (fit7_v2)⟩, ⟨g2, 31, true, (fit7_v2)⟩]
@[simp] def fit7_b3 (x : Raw9) (w : World) (S : Int) (g2 : Nat) : List Bk := [⟨w.heap.size, 49, true, (fit7_v1 x)⟩, ⟨w.heap.size + 1, 31, true, (fit7_v2)⟩, ⟨g2, 31, true, (fit7_v3 S)⟩]
theorem fit7_q2 (x : Raw9) (w : World) (S : Int) : Out.prune [1, 2, 11] (qList Try.prog 86 w (fun _ => False) ((opsOf (getCode (bodyOf Try.f15) [1, 0])).toList.take 8) ⟨[(1, (pt w.heap.size 0)), (2, (pt (w.heap.size + 1) 0))], (fit7_b1 x w), [], w.heap.size + 2⟩ [.op oh0, .op ⟨false, 0, [⟨false, 0, 0, 1⟩]⟩, .call (.int .i64 6), .op oh0, .op oh0, .op ⟨false, 0, [⟨false, 0, 1, 1⟩]⟩, .call (.int .i64 S), .op oh0]) = some ⟨[∀ w', MemC w (fun _ => False) (fit7_b1 x w) [] (w.heap.size + 2) w' → Calls Try.prog 27 #[.int .i64 x.kind, .int .i64 10] w' (RetK (.int .i64 6) w'), ∀ w', MemC w (fun _ => False) (fit7_b1 x w) [] (w.heap.size + 2) w' → Calls Try.prog 27 #[.int .i64 x.stripe, .int .i64 8] w' (RetK (.int .i64 S) w')], dupR [(w.heap.size, 0, 1), (w.heap.size, 1, 1)], ⟨[(1, (pt w.heap.size 0)), (2, (pt (w.heap.size + 1) 0)), (11, .agg (List.toArray (fit7_v3 S)))], (fit7_b1 x w), [], w.heap.size + 2⟩⟩ := by kernel_rfl
theorem fit7_t3 (x : Raw9) (w : World) (S : Int) (g2 : Nat) (y2 : Nat) : tailP [1, 2, 3] (tailX Try.prog 86 (opsOf (getCode (bodyOf Try.f15) [1, 0])) 1 fit7_n2 ⟨[(3, (pt g2 0)), (1, (pt w.heap.size 0)), (2, (pt (w.heap.size + 1) 0)), (11, .agg (List.toArray (fit7_v3 S)))], (fit7_b2 x w g2), [], y2⟩ [(9, false, ⟨false, 0, [⟨false, 2, 0, 9⟩]⟩)]) = some (⟨[], dupR [(g2, 0, 9)], ⟨[(1, (pt w.heap.size 0)), (2, (pt (w.heap.size + 1) 0)), (3, (pt g2 0))], (fit7_b3 x w S g2), [], y2⟩⟩, 0, fit7_n3) := by kernel_rfl
theorem fit7_t4 (x : Raw9) (w : World) (S : Int) (y2 : Nat) : tailP [1, 2, 3] (tailX Try.prog 86 (opsOf (getCode (bodyOf Try.f15) [1, 0])) 2 fit7_n1 ⟨[(1, (pt w.heap.size 0)), (2, (pt (w.heap.size + 1) 0)), (11, .agg (List.toArray (fit7_v3 S)))], (fit7_b1 x w), [], y2⟩ [(8, false, oh0), (9, false, ⟨false, 0, [⟨false, 2, 0, 9⟩]⟩)]) = some (⟨[], dupR [(y2, 0, 9)], ⟨[(1, (pt w.heap.size 0)), (2, (pt (w.heap.size + 1) 0)), (3, (pt y2 0))], [⟨w.heap.size, 49, true, (fit7_v1 x)⟩, ⟨w.heap.size + 1, 31, true, (fit7_v2)⟩, ⟨y2, 31, true, (fit7_v3 S)⟩], [], y2 + 1⟩⟩, 0, fit7_n3) := by kernel_rfl
set_option maxRecDepth 100000 in
set_option maxHeartbeats 4000000 in
theorem fit_7 (x : Raw9) (S : Int) (E : Int) (Q6 : Int)  (hx : Raw9Ok x) (hK : pickZ x.kind 10 = 6) (hS : pickZ x.stripe 8 = S) (hE : pickZ x.epoch 6 = E) (hQ6 : pickZ x.seq 6 = Q6) (w : World) :
    Calls Try.prog 15 #[.agg #[.int .i64 x.kind, .int .i64 x.stripe, .int .i64 x.epoch, .int .i64 x.seq, .int .i64 x.mask, .int .i64 x.node, .int .i64 x.oe, .int .i64 x.os, .string x.block]] w (RetK (.agg #[.int .i64 7, .int .i64 S, .int .i64 (1 + E), .int .i64 (1 + Q6), .int .i64 0, .int .i64 0, .int .i64 0, .int .i64 0, .string (strL 16 x.block)]) w) := by
  have bS := pickZ_bd x.stripe 8 (by omega)
  rw [hS] at bS
  have bE := pickZ_bd x.epoch 6 (by omega)
  rw [hE] at bE
  have bQ6 := pickZ_bd x.seq 6 (by omega)
  rw [hQ6] at bQ6
  refine calls_of_holds (S := (fun _ => False)) (l := [.agg (List.toArray (fit7_v1 x))]) (n := 86) Try.func15 (body_of (by kernel_rfl)) rfl (by simp) (MemOk.none w _) ?_
  refine hgE 9 [oh0, oh0] [1, 2] [] [] [.code [1, 0], .code [1, 1]] ⟨[(1, (pt w.heap.size 0)), (2, (pt (w.heap.size + 1) 0))], (fit7_b1 x w), [], w.heap.size + 2⟩ ?_
  have HZ : ∀ (g2 y2 : Nat), w.heap.size + 2 ≤ g2 → w.heap.size + 2 ≤ y2 → Holds [] Try.prog (bodyOf Try.f15) 86 w (fun _ => False) (bodyPost Try.prog Try.f15 (RetK (.agg (List.toArray (fit7_v4 x S E Q6))) w)) [.code [1, 1]] ⟨[(1, (pt w.heap.size 0)), (2, (pt (w.heap.size + 1) 0)), (3, (pt g2 0))], (fit7_b3 x w S g2), [], y2⟩ := by
    intro g2 y2 hg2 hy2
    refine hgE 16 [oh0, ⟨false, 0, [⟨false, 2, 0, 1⟩]⟩, oh0, oh0, oh0, ⟨false, 0, [⟨false, 0, 2, 1⟩]⟩] [1, 2, 3, 17] [fF] [(g2, 0, 1), (w.heap.size, 2, 1)] [.ops [1, 1, 1, 0] [2, 3, 4, 5], .code [1, 1, 1, 1]] ⟨[(1, (pt w.heap.size 0)), (2, (pt (w.heap.size + 1) 0)), (3, (pt g2 0)), (17, .int .i64 x.epoch)], (fit7_b3 x w S g2), [], y2⟩ ?_
    refine hcp (.int .i64 E) 27 [.int .i64 x.epoch, .int .i64 6] (some 18) [] trivial rfl (fun wx hm => pick9 _ _ _ hE wx (by omega) (by omega) hx.epoch) fun z6 hz6 => ?_
    replace hz6 : y2 ≤ z6 := hz6
    refine hgE 36 [oh2, oh0, ⟨false, 0, [⟨false, 2, 2, 1⟩]⟩, oh0, ⟨false, 0, [⟨false, 2, 0, 1⟩]⟩, oh0, oh0, oh0, oh0, oh0, oh0, oh0, oh0, oh1, oh0, ⟨false, 0, [⟨false, 0, 3, 1⟩]⟩] [1, 2, 3, 52] [n64 ((1 + E)), fF, fF, tT] [(g2, 2, 1), (g2, 0, 1), (w.heap.size, 3, 1)] [.ops [1, 1, 1, 1, 0, 1, 0, 1, 1, 1, 1, 1, 0, 0] [2, 3, 4, 5], .code [1, 1, 1, 1, 0, 1, 0, 1, 1, 1, 1, 1, 0, 1], .blk 0, .code [1, 1, 1, 1, 1]] ⟨[(1, (pt w.heap.size 0)), (2, (pt (w.heap.size + 1) 0)), (3, (pt g2 0)), (52, .int .i64 x.seq)], [⟨w.heap.size, 49, true, (fit7_v1 x)⟩, ⟨w.heap.size + 1, 31, true, (fit7_v2)⟩, ⟨g2, 31, true, [.int .i64 7, .int .i64 S, .int .i64 (1 + E), .int .i64 0, .int .i64 0, .int .i64 0, .int .i64 0, .int .i64 0, .string ⟨#[]⟩]⟩], [], z6⟩ ?_
    refine hcp (.int .i64 Q6) 27 [.int .i64 x.seq, .int .i64 6] (some 53) [] trivial rfl (fun wx hm => pick9 _ _ _ hQ6 wx (by omega) (by omega) hx.seq) fun z8 hz8 => ?_
    replace hz8 : z6 ≤ z8 := hz8
    refine hgE 11 [oh2, oh0, ⟨false, 0, [⟨false, 2, 3, 1⟩]⟩, oh0, ⟨false, 0, [⟨false, 0, 8, 1⟩]⟩, oh0] [2, 3, 58] [n64 ((1 + Q6))] [(g2, 3, 1), (w.heap.size, 8, 1)] [.ops [1, 1, 1, 1, 0, 1, 0, 1, 1, 1, 1, 1, 0, 1] [3, 4, 5, 6, 7], .blk 0, .code [1, 1, 1, 1, 1]] ⟨[(2, (pt (w.heap.size + 1) 0)), (3, (pt g2 0)), (58, .slice (some ⟨z8, 0, none⟩) 1 1)], [⟨w.heap.size, 49, true, (fit7_v1 x)⟩, ⟨w.heap.size + 1, 31, true, (fit7_v2)⟩, ⟨g2, 31, true, (fit7_v5 S E Q6)⟩, ⟨z8, 9, true, [.string x.block]⟩], [], z8 + 1⟩ ?_
    refine holds_callX (X := Nat × Nat × List Value) (fun y => z8 + 1 ≤ y.1) (fun y => .slice (some ⟨y.1, 0, none⟩) 1 y.2.1) (fun y => [⟨w.heap.size, 49, true, (fit7_v1 x)⟩, ⟨w.heap.size + 1, 31, true, (fit7_v2)⟩, ⟨g2, 31, true, (fit7_v5 S E Q6)⟩, ⟨z8, 9, true, [.string x.block]⟩, ⟨y.1, 9, true, (.string (strL 16 x.block) :: y.2.2)⟩]) (fun y => [(59, .slice (some ⟨y.1, 0, none⟩) 1 y.2.1), (2, (pt (w.heap.size + 1) 0)), (3, (pt g2 0)), (58, .slice (some ⟨z8, 0, none⟩) 1 1)]) (show _ = some (28, [.slice (some ⟨z8, 0, none⟩) 1 1, .int .i64 1, .int .i64 16], some 59, []) by kernel_rfl) trivial (fun _ => rfl) (fun wx hm => ?_) ?_
    · refine (texts_any _ _ wx (hm.at_ 3 rfl)).mono fun e w' he => ?_
      obtain ⟨y, h1, h2, h3, h4⟩ := he
      rw [hm.size] at h1
      have h5 := hm.add h4 [⟨y.1, 9, true, .string (strL 16 x.block) :: y.2.2⟩] ⟨h3, trivial⟩ (by simpa using h1) (by simp)
      exact ⟨y, h1, h2, h5⟩
    intro y hy z10 hz10
    replace hz10 : z8 + 1 ≤ z10 := hz10
    refine hgE 14 [oh2, ⟨false, 0, [⟨false, 4, 0, 1⟩]⟩, oh0, ⟨false, 0, [⟨false, 2, 8, 1⟩]⟩, ⟨false, 0, [⟨false, 2, 0, 9⟩]⟩, ⟨false, 0, [⟨false, 1, 0, 9⟩]⟩] [2] [oE ((0 : Int) ≤ 0 ∧ 0 < ((1 : Nat) : Int))] [(y.1, 0, 1), (g2, 8, 1), (g2, 0, 9), (w.heap.size + 1, 0, 9)] [.code [1, 1, 1, 1, 1, 1]] ⟨[(2, (pt (w.heap.size + 1) 0))], [⟨w.heap.size, 49, true, (fit7_v1 x)⟩, ⟨w.heap.size + 1, 31, true, (fit7_v4 x S E Q6)⟩, ⟨g2, 31, true, (fit7_v4 x S E Q6)⟩, ⟨z8, 9, true, [.string x.block]⟩, ⟨y.1, 9, true, (.string (strL 16 x.block) :: y.2.2)⟩], [], z10⟩ ?_
    refine hrt [[⟨false, 1, 0, 9⟩]] [.agg (List.toArray (fit7_v4 x S E Q6))] [(w.heap.size + 1, 0, 9)] ?_
    intro wx hm
    exact ⟨rfl, hm.kept⟩
  have H1 : ∀ (g2 y2 : Nat), w.heap.size + 2 ≤ g2 → w.heap.size + 2 ≤ y2 → Holds [] Try.prog (bodyOf Try.f15) 86 w (fun _ => False) (bodyPost Try.prog Try.f15 (RetK (.agg (List.toArray (fit7_v4 x S E Q6))) w)) (.any [1, 0] 1 fit7_n2 :: [.code [1, 1]]) ⟨[(3, (pt g2 0)), (1, (pt w.heap.size 0)), (2, (pt (w.heap.size + 1) 0)), (11, .agg (List.toArray (fit7_v3 S)))], (fit7_b2 x w g2), [], y2⟩ := by
    intro g2 y2 hg2 hy2
    refine holds_tail panicOk_body _ _ (fit7_t3 x w S g2 y2) trivial ?_
    refine holds_done (by kernel_rfl) ?_
    exact HZ g2 _ (by omega) (by omega)
  refine holds_float (fl := 8) (t := 31) (d := 3) (cs := (fit7_v2)) (ls0 := fit7_n1) (ls1 := fit7_n2) (f := 1) 8 _ _ (by kernel_rfl) (by kernel_rfl) (by kernel_rfl) (by kernel_rfl) (by decide) (by kernel_rfl) (by kernel_rfl) (by kernel_rfl) (fit7_q2 x w S) ⟨(fun wx hm => pick9 _ _ _ hK wx (by omega) (by omega) hx.kind), (fun wx hm => pick9 _ _ _ hS wx (by omega) (by omega) hx.stripe), trivial⟩ H1 ?_
  intro y2 hy2
  replace hy2 : w.heap.size + 2 ≤ y2 := hy2
  refine holds_tail panicOk_body _ _ (fit7_t4 x w S y2) trivial ?_
  refine holds_done (by kernel_rfl) ?_
  exact HZ _ _ (by omega) (by omega)

def fit8_v1 (x : Raw9) : List Value := [.int .i64 x.kind, .int .i64 x.stripe, .int .i64 x.epoch, .int .i64 x.seq, .int .i64 x.mask, .int .i64 x.node, .int .i64 x.oe, .int .i64 x.os, .string x.block]
def fit8_v2 : List Value := [.int .i64 0, .int .i64 0, .int .i64 0, .int .i64 0, .int .i64 0, .int .i64 0, .int .i64 0, .int .i64 0, .string ⟨#[]⟩]
def fit8_v3 (S : Int) : List Value := [.int .i64 8, .int .i64 S, .int .i64 0, .int .i64 0, .int .i64 0, .int .i64 0, .int .i64 0, .int .i64 0, .string ⟨#[]⟩]
def fit8_n1 : Array Bool := #[true, true, true, true, true, true, true, true, false, false]
def fit8_n2 : Array Bool := #[true, true, true, true, true, true, true, true, true, false]
def fit8_n3 : Array Bool := #[true, true, true, true, true, true, true, true, true, true]
@[simp] def fit8_b1 (x : Raw9) (w : World) : List Bk := [⟨w.heap.size, 49, true, (fit8_v1 x)⟩, ⟨w.heap.size + 1, 31, true, (fit8_v2)⟩]
@[simp] def fit8_b2 (x : Raw9) (w : World) (g2 : Nat) : List Bk := [⟨w.heap.size, 49, true, (fit8_v1 x)⟩, ⟨w.heap.size + 1, 31, true, (fit8_v2)⟩, ⟨g2, 31, true, (fit8_v2)⟩]
@[simp] def fit8_b3 (x : Raw9) (w : World) (S : Int) (g2 : Nat) : List Bk := [⟨w.heap.size, 49, true, (fit8_v1 x)⟩, ⟨w.heap.size + 1, 31, true, (fit8_v2)⟩, ⟨g2, 31, true, (fit8_v3 S)⟩]
theorem fit8_q2 (x : Raw9) (w : World) (S : Int) : Out.prune [1, 2, 11] (qList Try.prog 86 w (fun _ => False) ((opsOf (getCode (bodyOf Try.f15) [1, 0])).toList.take 8) ⟨[(1, (pt w.heap.size 0)), (2, (pt (w.heap.size + 1) 0))], (fit8_b1 x w), [], w.heap.size + 2⟩ [.op oh0, .op ⟨false, 0, [⟨false, 0, 0, 1⟩]⟩, .call (.int .i64 7), .op oh0, .op oh0, .op ⟨false, 0, [⟨false, 0, 1, 1⟩]⟩, .call (.int .i64 S), .op oh0]) = some ⟨[∀ w', MemC w (fun _ => False) (fit8_b1 x w) [] (w.heap.size + 2) w' → Calls Try.prog 27 #[.int .i64 x.kind, .int .i64 10] w' (RetK (.int .i64 7) w'), ∀ w', MemC w (fun _ => False) (fit8_b1 x w) [] (w.heap.size + 2) w' → Calls Try.prog 27 #[.int .i64 x.stripe, .int .i64 8] w' (RetK (.int .i64 S) w')], dupR [(w.heap.size, 0, 1), (w.heap.size, 1, 1)], ⟨[(1, (pt w.heap.size 0)), (2, (pt (w.heap.size + 1) 0)), (11, .agg (List.toArray (fit8_v3 S)))], (fit8_b1 x w), [], w.heap.size + 2⟩⟩ := by kernel_rfl
theorem fit8_t3 (x : Raw9) (w : World) (S : Int) (g2 : Nat) (y2 : Nat) : tailP [1, 2, 3] (tailX Try.prog 86 (opsOf (getCode (bodyOf Try.f15) [1, 0])) 1 fit8_n2 ⟨[(3, (pt g2 0)), (1, (pt w.heap.size 0)), (2, (pt (w.heap.size + 1) 0)), (11, .agg (List.toArray (fit8_v3 S)))], (fit8_b2 x w g2), [], y2⟩ [(9, false, ⟨false, 0, [⟨false, 2, 0, 9⟩]⟩)]) = some (⟨[], dupR [(g2, 0, 9)], ⟨[(1, (pt w.heap.size 0)), (2, (pt (w.heap.size + 1) 0)), (3, (pt g2 0))], (fit8_b3 x w S g2), [], y2⟩⟩, 0, fit8_n3) := by kernel_rfl
theorem fit8_t4 (x : Raw9) (w : World) (S : Int) (y2 : Nat) : tailP [1, 2, 3] (tailX Try.prog 86 (opsOf (getCode (bodyOf Try.f15) [1, 0])) 2 fit8_n1 ⟨[(1, (pt w.heap.size 0)), (2, (pt (w.heap.size + 1) 0)), (11, .agg (List.toArray (fit8_v3 S)))], (fit8_b1 x w), [], y2⟩ [(8, false, oh0), (9, false, ⟨false, 0, [⟨false, 2, 0, 9⟩]⟩)]) = some (⟨[], dupR [(y2, 0, 9)], ⟨[(1, (pt w.heap.size 0)), (2, (pt (w.heap.size + 1) 0)), (3, (pt y2 0))], [⟨w.heap.size, 49, true, (fit8_v1 x)⟩, ⟨w.heap.size + 1, 31, true, (fit8_v2)⟩, ⟨y2, 31, true, (fit8_v3 S)⟩], [], y2 + 1⟩⟩, 0, fit8_n3) := by kernel_rfl
set_option maxRecDepth 100000 in
set_option maxHeartbeats 4000000 in
theorem fit_8 (x : Raw9) (S : Int)  (hx : Raw9Ok x) (hK : pickZ x.kind 10 = 7) (hS : pickZ x.stripe 8 = S) (w : World) :
    Calls Try.prog 15 #[.agg #[.int .i64 x.kind, .int .i64 x.stripe, .int .i64 x.epoch, .int .i64 x.seq, .int .i64 x.mask, .int .i64 x.node, .int .i64 x.oe, .int .i64 x.os, .string x.block]] w (RetK (.agg #[.int .i64 8, .int .i64 S, .int .i64 0, .int .i64 0, .int .i64 0, .int .i64 0, .int .i64 0, .int .i64 0, .string ⟨#[]⟩]) w) := by
  have bS := pickZ_bd x.stripe 8 (by omega)
  rw [hS] at bS
  refine calls_of_holds (S := (fun _ => False)) (l := [.agg (List.toArray (fit8_v1 x))]) (n := 86) Try.func15 (body_of (by kernel_rfl)) rfl (by simp) (MemOk.none w _) ?_
  refine hgE 9 [oh0, oh0] [1, 2] [] [] [.code [1, 0], .code [1, 1]] ⟨[(1, (pt w.heap.size 0)), (2, (pt (w.heap.size + 1) 0))], (fit8_b1 x w), [], w.heap.size + 2⟩ ?_
  have HZ : ∀ (g2 y2 : Nat), w.heap.size + 2 ≤ g2 → w.heap.size + 2 ≤ y2 → Holds [] Try.prog (bodyOf Try.f15) 86 w (fun _ => False) (bodyPost Try.prog Try.f15 (RetK (.agg (List.toArray (fit8_v3 S))) w)) [.code [1, 1]] ⟨[(1, (pt w.heap.size 0)), (2, (pt (w.heap.size + 1) 0)), (3, (pt g2 0))], (fit8_b3 x w S g2), [], y2⟩ := by
    intro g2 y2 hg2 hy2
    refine hgE 16 [oh0, ⟨false, 0, [⟨false, 2, 0, 1⟩]⟩, oh0, oh1, ⟨false, 0, [⟨false, 2, 0, 9⟩]⟩, ⟨false, 0, [⟨false, 1, 0, 9⟩]⟩] [1, 2, 3] [tT] [(g2, 0, 1), (g2, 0, 9), (w.heap.size + 1, 0, 9)] [.code [1, 1, 0, 1, 0, 1], .code [1, 1, 1]] ⟨[(1, (pt w.heap.size 0)), (2, (pt (w.heap.size + 1) 0)), (3, (pt g2 0))], [⟨w.heap.size, 49, true, (fit8_v1 x)⟩, ⟨w.heap.size + 1, 31, true, (fit8_v3 S)⟩, ⟨g2, 31, true, (fit8_v3 S)⟩], [], y2⟩ ?_
    refine hrt [[⟨false, 1, 0, 9⟩]] [.agg (List.toArray (fit8_v3 S))] [(w.heap.size + 1, 0, 9)] ?_
    intro wx hm
    exact ⟨rfl, hm.kept⟩
  have H1 : ∀ (g2 y2 : Nat), w.heap.size + 2 ≤ g2 → w.heap.size + 2 ≤ y2 → Holds [] Try.prog (bodyOf Try.f15) 86 w (fun _ => False) (bodyPost Try.prog Try.f15 (RetK (.agg (List.toArray (fit8_v3 S))) w)) (.any [1, 0] 1 fit8_n2 :: [.code [1, 1]]) ⟨[(3, (pt g2 0)), (1, (pt w.heap.size 0)), (2, (pt (w.heap.size + 1) 0)), (11, .agg (List.toArray (fit8_v3 S)))], (fit8_b2 x w g2), [], y2⟩ := by
    intro g2 y2 hg2 hy2
    refine holds_tail panicOk_body _ _ (fit8_t3 x w S g2 y2) trivial ?_
    refine holds_done (by kernel_rfl) ?_
    exact HZ g2 _ (by omega) (by omega)
  refine holds_float (fl := 8) (t := 31) (d := 3) (cs := (fit8_v2)) (ls0 := fit8_n1) (ls1 := fit8_n2) (f := 1) 8 _ _ (by kernel_rfl) (by kernel_rfl) (by kernel_rfl) (by kernel_rfl) (by decide) (by kernel_rfl) (by kernel_rfl) (by kernel_rfl) (fit8_q2 x w S) ⟨(fun wx hm => pick9 _ _ _ hK wx (by omega) (by omega) hx.kind), (fun wx hm => pick9 _ _ _ hS wx (by omega) (by omega) hx.stripe), trivial⟩ H1 ?_
  intro y2 hy2
  replace hy2 : w.heap.size + 2 ≤ y2 := hy2
  refine holds_tail panicOk_body _ _ (fit8_t4 x w S y2) trivial ?_
  refine holds_done (by kernel_rfl) ?_
  exact HZ _ _ (by omega) (by omega)

def fit9_v1 (x : Raw9) : List Value := [.int .i64 x.kind, .int .i64 x.stripe, .int .i64 x.epoch, .int .i64 x.seq, .int .i64 x.mask, .int .i64 x.node, .int .i64 x.oe, .int .i64 x.os, .string x.block]
def fit9_v2 : List Value := [.int .i64 0, .int .i64 0, .int .i64 0, .int .i64 0, .int .i64 0, .int .i64 0, .int .i64 0, .int .i64 0, .string ⟨#[]⟩]
def fit9_v3 (S : Int) : List Value := [.int .i64 9, .int .i64 S, .int .i64 0, .int .i64 0, .int .i64 0, .int .i64 0, .int .i64 0, .int .i64 0, .string ⟨#[]⟩]
def fit9_v4 (S : Int) (E : Int) (ND : Int) : List Value := [.int .i64 9, .int .i64 S, .int .i64 (1 + E), .int .i64 0, .int .i64 0, .int .i64 ND, .int .i64 0, .int .i64 0, .string ⟨#[]⟩]
def fit9_n1 : Array Bool := #[true, true, true, true, true, true, true, true, false, false]
def fit9_n2 : Array Bool := #[true, true, true, true, true, true, true, true, true, false]
def fit9_n3 : Array Bool := #[true, true, true, true, true, true, true, true, true, true]
@[simp] def fit9_b1 (x : Raw9) (w : World) : List Bk := [⟨w.heap.size, 49, true, (fit9_v1 x)⟩, ⟨w.heap.size + 1, 31, true, (fit9_v2)⟩]
@[simp] def fit9_b2 (x : Raw9) (w : World) (g2 : Nat) : List Bk := [⟨w.heap.size, 49, true, (fit9_v1 x)⟩, ⟨w.heap.size + 1, 31, true, (fit9_v2)⟩, ⟨g2, 31, true, (fit9_v2)⟩]
@[simp] def fit9_b3 (x : Raw9) (w : World) (S : Int) (g2 : Nat) : List Bk := [⟨w.heap.size, 49, true, (fit9_v1 x)⟩, ⟨w.heap.size + 1, 31, true, (fit9_v2)⟩, ⟨g2, 31, true, (fit9_v3 S)⟩]
theorem fit9_q2 (x : Raw9) (w : World) (S : Int) : Out.prune [1, 2, 11] (qList Try.prog 86 w (fun _ => False) ((opsOf (getCode (bodyOf Try.f15) [1, 0])).toList.take 8) ⟨[(1, (pt w.heap.size 0)), (2, (pt (w.heap.size + 1) 0))], (fit9_b1 x w), [], w.heap.size + 2⟩ [.op oh0, .op ⟨false, 0, [⟨false, 0, 0, 1⟩]⟩, .call (.int .i64 8), .op oh0, .op oh0, .op ⟨false, 0, [⟨false, 0, 1, 1⟩]⟩, .call (.int .i64 S), .op oh0]) = some ⟨[∀ w', MemC w (fun _ => False) (fit9_b1 x w) [] (w.heap.size + 2) w' → Calls Try.prog 27 #[.int .i64 x.kind, .int .i64 10] w' (RetK (.int .i64 8) w'), ∀ w', MemC w (fun _ => False) (fit9_b1 x w) [] (w.heap.size + 2) w' → Calls Try.prog 27 #[.int .i64 x.stripe, .int .i64 8] w' (RetK (.int .i64 S) w')], dupR [(w.heap.size, 0, 1), (w.heap.size, 1, 1)], ⟨[(1, (pt w.heap.size 0)), (2, (pt (w.heap.size + 1) 0)), (11, .agg (List.toArray (fit9_v3 S)))], (fit9_b1 x w), [], w.heap.size + 2⟩⟩ := by kernel_rfl
theorem fit9_t3 (x : Raw9) (w : World) (S : Int) (g2 : Nat) (y2 : Nat) : tailP [1, 2, 3] (tailX Try.prog 86 (opsOf (getCode (bodyOf Try.f15) [1, 0])) 1 fit9_n2 ⟨[(3, (pt g2 0)), (1, (pt w.heap.size 0)), (2, (pt (w.heap.size + 1) 0)), (11, .agg (List.toArray (fit9_v3 S)))], (fit9_b2 x w g2), [], y2⟩ [(9, false, ⟨false, 0, [⟨false, 2, 0, 9⟩]⟩)]) = some (⟨[], dupR [(g2, 0, 9)], ⟨[(1, (pt w.heap.size 0)), (2, (pt (w.heap.size + 1) 0)), (3, (pt g2 0))], (fit9_b3 x w S g2), [], y2⟩⟩, 0, fit9_n3) := by kernel_rfl
theorem fit9_t4 (x : Raw9) (w : World) (S : Int) (y2 : Nat) : tailP [1, 2, 3] (tailX Try.prog 86 (opsOf (getCode (bodyOf Try.f15) [1, 0])) 2 fit9_n1 ⟨[(1, (pt w.heap.size 0)), (2, (pt (w.heap.size + 1) 0)), (11, .agg (List.toArray (fit9_v3 S)))], (fit9_b1 x w), [], y2⟩ [(8, false, oh0), (9, false, ⟨false, 0, [⟨false, 2, 0, 9⟩]⟩)]) = some (⟨[], dupR [(y2, 0, 9)], ⟨[(1, (pt w.heap.size 0)), (2, (pt (w.heap.size + 1) 0)), (3, (pt y2 0))], [⟨w.heap.size, 49, true, (fit9_v1 x)⟩, ⟨w.heap.size + 1, 31, true, (fit9_v2)⟩, ⟨y2, 31, true, (fit9_v3 S)⟩], [], y2 + 1⟩⟩, 0, fit9_n3) := by kernel_rfl
set_option maxRecDepth 100000 in
set_option maxHeartbeats 4000000 in
theorem fit_9 (x : Raw9) (S : Int) (E : Int) (ND : Int)  (hx : Raw9Ok x) (hK : pickZ x.kind 10 = 8) (hS : pickZ x.stripe 8 = S) (hE : pickZ x.epoch 6 = E) (hND : pickZ x.node 6 = ND) (w : World) :
    Calls Try.prog 15 #[.agg #[.int .i64 x.kind, .int .i64 x.stripe, .int .i64 x.epoch, .int .i64 x.seq, .int .i64 x.mask, .int .i64 x.node, .int .i64 x.oe, .int .i64 x.os, .string x.block]] w (RetK (.agg #[.int .i64 9, .int .i64 S, .int .i64 (1 + E), .int .i64 0, .int .i64 0, .int .i64 ND, .int .i64 0, .int .i64 0, .string ⟨#[]⟩]) w) := by
  have bS := pickZ_bd x.stripe 8 (by omega)
  rw [hS] at bS
  have bE := pickZ_bd x.epoch 6 (by omega)
  rw [hE] at bE
  have bND := pickZ_bd x.node 6 (by omega)
  rw [hND] at bND
  refine calls_of_holds (S := (fun _ => False)) (l := [.agg (List.toArray (fit9_v1 x))]) (n := 86) Try.func15 (body_of (by kernel_rfl)) rfl (by simp) (MemOk.none w _) ?_
  refine hgE 9 [oh0, oh0] [1, 2] [] [] [.code [1, 0], .code [1, 1]] ⟨[(1, (pt w.heap.size 0)), (2, (pt (w.heap.size + 1) 0))], (fit9_b1 x w), [], w.heap.size + 2⟩ ?_
  have HZ : ∀ (g2 y2 : Nat), w.heap.size + 2 ≤ g2 → w.heap.size + 2 ≤ y2 → Holds [] Try.prog (bodyOf Try.f15) 86 w (fun _ => False) (bodyPost Try.prog Try.f15 (RetK (.agg (List.toArray (fit9_v4 S E ND))) w)) [.code [1, 1]] ⟨[(1, (pt w.heap.size 0)), (2, (pt (w.heap.size + 1) 0)), (3, (pt g2 0))], (fit9_b3 x w S g2), [], y2⟩ := by
    intro g2 y2 hg2 hy2
    refine hgE 16 [oh0, ⟨false, 0, [⟨false, 2, 0, 1⟩]⟩, oh0, oh0, oh0, ⟨false, 0, [⟨false, 0, 2, 1⟩]⟩] [1, 2, 3, 17] [fF] [(g2, 0, 1), (w.heap.size, 2, 1)] [.ops [1, 1, 1, 0] [2, 3, 4, 5], .code [1, 1, 1, 1]] ⟨[(1, (pt w.heap.size 0)), (2, (pt (w.heap.size + 1) 0)), (3, (pt g2 0)), (17, .int .i64 x.epoch)], (fit9_b3 x w S g2), [], y2⟩ ?_
    refine hcp (.int .i64 E) 27 [.int .i64 x.epoch, .int .i64 6] (some 18) [] trivial rfl (fun wx hm => pick9 _ _ _ hE wx (by omega) (by omega) hx.epoch) fun z6 hz6 => ?_
    replace hz6 : y2 ≤ z6 := hz6
    refine hgE 47 [oh2, oh0, ⟨false, 0, [⟨false, 2, 2, 1⟩]⟩, oh0, ⟨false, 0, [⟨false, 2, 0, 1⟩]⟩, oh0, oh0, oh0, oh0, oh0, oh0, oh0, oh0, oh0, oh0, oh0, oh0, oh0, oh0, oh1, oh0, ⟨false, 0, [⟨false, 0, 5, 1⟩]⟩] [2, 3, 82] [n64 ((1 + E)), fF, fF, fF, fF, tT] [(g2, 2, 1), (g2, 0, 1), (w.heap.size, 5, 1)] [.ops [1, 1, 1, 1, 0, 1, 0, 1, 1, 1, 1, 1, 1, 1, 1, 1, 0] [2, 3, 4], .blk 0, .code [1, 1, 1, 1, 1]] ⟨[(2, (pt (w.heap.size + 1) 0)), (3, (pt g2 0)), (82, .int .i64 x.node)], [⟨w.heap.size, 49, true, (fit9_v1 x)⟩, ⟨w.heap.size + 1, 31, true, (fit9_v2)⟩, ⟨g2, 31, true, [.int .i64 9, .int .i64 S, .int .i64 (1 + E), .int .i64 0, .int .i64 0, .int .i64 0, .int .i64 0, .int .i64 0, .string ⟨#[]⟩]⟩], [], z6⟩ ?_
    refine hcp (.int .i64 ND) 27 [.int .i64 x.node, .int .i64 6] (some 83) [] trivial rfl (fun wx hm => pick9 _ _ _ hND wx (by omega) (by omega) hx.node) fun z8 hz8 => ?_
    replace hz8 : z6 ≤ z8 := hz8
    refine hgE 12 [oh0, ⟨false, 0, [⟨false, 2, 5, 1⟩]⟩, ⟨false, 0, [⟨false, 2, 0, 9⟩]⟩, ⟨false, 0, [⟨false, 1, 0, 9⟩]⟩] [2] [] [(g2, 5, 1), (g2, 0, 9), (w.heap.size + 1, 0, 9)] [.code [1, 1, 1, 1, 1, 1]] ⟨[(2, (pt (w.heap.size + 1) 0))], [⟨w.heap.size, 49, true, (fit9_v1 x)⟩, ⟨w.heap.size + 1, 31, true, (fit9_v4 S E ND)⟩, ⟨g2, 31, true, (fit9_v4 S E ND)⟩], [], z8⟩ ?_
    refine hrt [[⟨false, 1, 0, 9⟩]] [.agg (List.toArray (fit9_v4 S E ND))] [(w.heap.size + 1, 0, 9)] ?_
    intro wx hm
    exact ⟨rfl, hm.kept⟩
  have H1 : ∀ (g2 y2 : Nat), w.heap.size + 2 ≤ g2 → w.heap.size + 2 ≤ y2 → Holds [] Try.prog (bodyOf Try.f15) 86 w (fun _ => False) (bodyPost Try.prog Try.f15 (RetK (.agg (List.toArray (fit9_v4 S E ND))) w)) (.any [1, 0] 1 fit9_n2 :: [.code [1, 1]]) ⟨[(3, (pt g2 0)), (1, (pt w.heap.size 0)), (2, (pt (w.heap.size + 1) 0)), (11, .agg (List.toArray (fit9_v3 S)))], (fit9_b2 x w g2), [], y2⟩ := by
    intro g2 y2 hg2 hy2
    refine holds_tail panicOk_body _ _ (fit9_t3 x w S g2 y2) trivial ?_
    refine holds_done (by kernel_rfl) ?_
    exact HZ g2 _ (by omega) (by omega)
  refine holds_float (fl := 8) (t := 31) (d := 3) (cs := (fit9_v2)) (ls0 := fit9_n1) (ls1 := fit9_n2) (f := 1) 8 _ _ (by kernel_rfl) (by kernel_rfl) (by kernel_rfl) (by kernel_rfl) (by decide) (by kernel_rfl) (by kernel_rfl) (by kernel_rfl) (fit9_q2 x w S) ⟨(fun wx hm => pick9 _ _ _ hK wx (by omega) (by omega) hx.kind), (fun wx hm => pick9 _ _ _ hS wx (by omega) (by omega) hx.stripe), trivial⟩ H1 ?_
  intro y2 hy2
  replace hy2 : w.heap.size + 2 ≤ y2 := hy2
  refine holds_tail panicOk_body _ _ (fit9_t4 x w S y2) trivial ?_
  refine holds_done (by kernel_rfl) ?_
  exact HZ _ _ (by omega) (by omega)

def fit10_v1 (x : Raw9) : List Value := [.int .i64 x.kind, .int .i64 x.stripe, .int .i64 x.epoch, .int .i64 x.seq, .int .i64 x.mask, .int .i64 x.node, .int .i64 x.oe, .int .i64 x.os, .string x.block]
def fit10_v2 : List Value := [.int .i64 0, .int .i64 0, .int .i64 0, .int .i64 0, .int .i64 0, .int .i64 0, .int .i64 0, .int .i64 0, .string ⟨#[]⟩]
def fit10_v3 (S : Int) : List Value := [.int .i64 10, .int .i64 S, .int .i64 0, .int .i64 0, .int .i64 0, .int .i64 0, .int .i64 0, .int .i64 0, .string ⟨#[]⟩]
def fit10_v4 (S : Int) (E : Int) : List Value := [.int .i64 10, .int .i64 S, .int .i64 (1 + E), .int .i64 0, .int .i64 0, .int .i64 0, .int .i64 0, .int .i64 0, .string ⟨#[]⟩]
def fit10_n1 : Array Bool := #[true, true, true, true, true, true, true, true, false, false]
def fit10_n2 : Array Bool := #[true, true, true, true, true, true, true, true, true, false]
def fit10_n3 : Array Bool := #[true, true, true, true, true, true, true, true, true, true]
@[simp] def fit10_b1 (x : Raw9) (w : World) : List Bk := [⟨w.heap.size, 49, true, (fit10_v1 x)⟩, ⟨w.heap.size + 1, 31, true, (fit10_v2)⟩]
@[simp] def fit10_b2 (x : Raw9) (w : World) (g2 : Nat) : List Bk := [⟨w.heap.size, 49, true, (fit10_v1 x)⟩, ⟨w.heap.size + 1, 31, true, (fit10_v2)⟩, ⟨g2, 31, true, (fit10_v2)⟩]
@[simp] def fit10_b3 (x : Raw9) (w : World) (S : Int) (g2 : Nat) : List Bk := [⟨w.heap.size, 49, true, (fit10_v1 x)⟩, ⟨w.heap.size + 1, 31, true, (fit10_v2)⟩, ⟨g2, 31, true, (fit10_v3 S)⟩]
theorem fit10_q2 (x : Raw9) (w : World) (S : Int) : Out.prune [1, 2, 11] (qList Try.prog 86 w (fun _ => False) ((opsOf (getCode (bodyOf Try.f15) [1, 0])).toList.take 8) ⟨[(1, (pt w.heap.size 0)), (2, (pt (w.heap.size + 1) 0))], (fit10_b1 x w), [], w.heap.size + 2⟩ [.op oh0, .op ⟨false, 0, [⟨false, 0, 0, 1⟩]⟩, .call (.int .i64 9), .op oh0, .op oh0, .op ⟨false, 0, [⟨false, 0, 1, 1⟩]⟩, .call (.int .i64 S), .op oh0]) = some ⟨[∀ w', MemC w (fun _ => False) (fit10_b1 x w) [] (w.heap.size + 2) w' → Calls Try.prog 27 #[.int .i64 x.kind, .int .i64 10] w' (RetK (.int .i64 9) w'), ∀ w', MemC w (fun _ => False) (fit10_b1 x w) [] (w.heap.size + 2) w' → Calls Try.prog 27 #[.int .i64 x.stripe, .int .i64 8] w' (RetK (.int .i64 S) w')], dupR [(w.heap.size, 0, 1), (w.heap.size, 1, 1)], ⟨[(1, (pt w.heap.size 0)), (2, (pt (w.heap.size + 1) 0)), (11, .agg (List.toArray (fit10_v3 S)))], (fit10_b1 x w), [], w.heap.size + 2⟩⟩ := by kernel_rfl
theorem fit10_t3 (x : Raw9) (w : World) (S : Int) (g2 : Nat) (y2 : Nat) : tailP [1, 2, 3] (tailX Try.prog 86 (opsOf (getCode (bodyOf Try.f15) [1, 0])) 1 fit10_n2 ⟨[(3, (pt g2 0)), (1, (pt w.heap.size 0)), (2, (pt (w.heap.size + 1) 0)), (11, .agg (List.toArray (fit10_v3 S)))], (fit10_b2 x w g2), [], y2⟩ [(9, false, ⟨false, 0, [⟨false, 2, 0, 9⟩]⟩)]) = some (⟨[], dupR [(g2, 0, 9)], ⟨[(1, (pt w.heap.size 0)), (2, (pt (w.heap.size + 1) 0)), (3, (pt g2 0))], (fit10_b3 x w S g2), [], y2⟩⟩, 0, fit10_n3) := by kernel_rfl
theorem fit10_t4 (x : Raw9) (w : World) (S : Int) (y2 : Nat) : tailP [1, 2, 3] (tailX Try.prog 86 (opsOf (getCode (bodyOf Try.f15) [1, 0])) 2 fit10_n1 ⟨[(1, (pt w.heap.size 0)), (2, (pt (w.heap.size + 1) 0)), (11, .agg (List.toArray (fit10_v3 S)))], (fit10_b1 x w), [], y2⟩ [(8, false, oh0), (9, false, ⟨false, 0, [⟨false, 2, 0, 9⟩]⟩)]) = some (⟨[], dupR [(y2, 0, 9)], ⟨[(1, (pt w.heap.size 0)), (2, (pt (w.heap.size + 1) 0)), (3, (pt y2 0))], [⟨w.heap.size, 49, true, (fit10_v1 x)⟩, ⟨w.heap.size + 1, 31, true, (fit10_v2)⟩, ⟨y2, 31, true, (fit10_v3 S)⟩], [], y2 + 1⟩⟩, 0, fit10_n3) := by kernel_rfl
set_option maxRecDepth 100000 in
set_option maxHeartbeats 4000000 in
theorem fit_10 (x : Raw9) (S : Int) (E : Int)  (hx : Raw9Ok x) (hK : pickZ x.kind 10 = 9) (hS : pickZ x.stripe 8 = S) (hE : pickZ x.epoch 6 = E) (w : World) :
    Calls Try.prog 15 #[.agg #[.int .i64 x.kind, .int .i64 x.stripe, .int .i64 x.epoch, .int .i64 x.seq, .int .i64 x.mask, .int .i64 x.node, .int .i64 x.oe, .int .i64 x.os, .string x.block]] w (RetK (.agg #[.int .i64 10, .int .i64 S, .int .i64 (1 + E), .int .i64 0, .int .i64 0, .int .i64 0, .int .i64 0, .int .i64 0, .string ⟨#[]⟩]) w) := by
  have bS := pickZ_bd x.stripe 8 (by omega)
  rw [hS] at bS
  have bE := pickZ_bd x.epoch 6 (by omega)
  rw [hE] at bE
  refine calls_of_holds (S := (fun _ => False)) (l := [.agg (List.toArray (fit10_v1 x))]) (n := 86) Try.func15 (body_of (by kernel_rfl)) rfl (by simp) (MemOk.none w _) ?_
  refine hgE 9 [oh0, oh0] [1, 2] [] [] [.code [1, 0], .code [1, 1]] ⟨[(1, (pt w.heap.size 0)), (2, (pt (w.heap.size + 1) 0))], (fit10_b1 x w), [], w.heap.size + 2⟩ ?_
  have HZ : ∀ (g2 y2 : Nat), w.heap.size + 2 ≤ g2 → w.heap.size + 2 ≤ y2 → Holds [] Try.prog (bodyOf Try.f15) 86 w (fun _ => False) (bodyPost Try.prog Try.f15 (RetK (.agg (List.toArray (fit10_v4 S E))) w)) [.code [1, 1]] ⟨[(1, (pt w.heap.size 0)), (2, (pt (w.heap.size + 1) 0)), (3, (pt g2 0))], (fit10_b3 x w S g2), [], y2⟩ := by
    intro g2 y2 hg2 hy2
    refine hgE 16 [oh0, ⟨false, 0, [⟨false, 2, 0, 1⟩]⟩, oh0, oh0, oh0, ⟨false, 0, [⟨false, 0, 2, 1⟩]⟩] [1, 2, 3, 17] [fF] [(g2, 0, 1), (w.heap.size, 2, 1)] [.ops [1, 1, 1, 0] [2, 3, 4, 5], .code [1, 1, 1, 1]] ⟨[(1, (pt w.heap.size 0)), (2, (pt (w.heap.size + 1) 0)), (3, (pt g2 0)), (17, .int .i64 x.epoch)], (fit10_b3 x w S g2), [], y2⟩ ?_
    refine hcp (.int .i64 E) 27 [.int .i64 x.epoch, .int .i64 6] (some 18) [] trivial rfl (fun wx hm => pick9 _ _ _ hE wx (by omega) (by omega) hx.epoch) fun z6 hz6 => ?_
    replace hz6 : y2 ≤ z6 := hz6
    refine hgE 51 [oh2, oh0, ⟨false, 0, [⟨false, 2, 2, 1⟩]⟩, oh0, ⟨false, 0, [⟨false, 2, 0, 1⟩]⟩, oh0, oh0, oh0, oh0, oh0, oh0, oh0, oh0, oh0, oh0, oh0, oh0, oh0, oh0, oh0, ⟨false, 0, [⟨false, 2, 0, 9⟩]⟩, ⟨false, 0, [⟨false, 1, 0, 9⟩]⟩] [2] [n64 ((1 + E)), fF, fF, fF, fF, fF] [(g2, 2, 1), (g2, 0, 1), (g2, 0, 9), (w.heap.size + 1, 0, 9)] [.code [1, 1, 1, 1, 1, 1]] ⟨[(2, (pt (w.heap.size + 1) 0))], [⟨w.heap.size, 49, true, (fit10_v1 x)⟩, ⟨w.heap.size + 1, 31, true, (fit10_v4 S E)⟩, ⟨g2, 31, true, (fit10_v4 S E)⟩], [], z6⟩ ?_
    refine hrt [[⟨false, 1, 0, 9⟩]] [.agg (List.toArray (fit10_v4 S E))] [(w.heap.size + 1, 0, 9)] ?_
    intro wx hm
    exact ⟨rfl, hm.kept⟩
  have H1 : ∀ (g2 y2 : Nat), w.heap.size + 2 ≤ g2 → w.heap.size + 2 ≤ y2 → Holds [] Try.prog (bodyOf Try.f15) 86 w (fun _ => False) (bodyPost Try.prog Try.f15 (RetK (.agg (List.toArray (fit10_v4 S E))) w)) (.any [1, 0] 1 fit10_n2 :: [.code [1, 1]]) ⟨[(3, (pt g2 0)), (1, (pt w.heap.size 0)), (2, (pt (w.heap.size + 1) 0)), (11, .agg (List.toArray (fit10_v3 S)))], (fit10_b2 x w g2), [], y2⟩ := by
    intro g2 y2 hg2 hy2
    refine holds_tail panicOk_body _ _ (fit10_t3 x w S g2 y2) trivial ?_
    refine holds_done (by kernel_rfl) ?_
    exact HZ g2 _ (by omega) (by omega)
  refine holds_float (fl := 8) (t := 31) (d := 3) (cs := (fit10_v2)) (ls0 := fit10_n1) (ls1 := fit10_n2) (f := 1) 8 _ _ (by kernel_rfl) (by kernel_rfl) (by kernel_rfl) (by kernel_rfl) (by decide) (by kernel_rfl) (by kernel_rfl) (by kernel_rfl) (fit10_q2 x w S) ⟨(fun wx hm => pick9 _ _ _ hK wx (by omega) (by omega) hx.kind), (fun wx hm => pick9 _ _ _ hS wx (by omega) (by omega) hx.stripe), trivial⟩ H1 ?_
  intro y2 hy2
  replace hy2 : w.heap.size + 2 ≤ y2 := hy2
  refine holds_tail panicOk_body _ _ (fit10_t4 x w S y2) trivial ?_
  refine holds_done (by kernel_rfl) ?_
  exact HZ _ _ (by omega) (by omega)

end Go.Proofs.Ytmeddeaphmpjcaa
