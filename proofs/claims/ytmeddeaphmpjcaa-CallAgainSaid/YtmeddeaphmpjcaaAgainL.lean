/- CallAgain, walked. -/
import Derived.Test.YtmeddeaphmpjcaaAwake14
import Derived.Test.YtmeddeaphmpjcaaNumsM
import Derived.Test.YtmeddeaphmpjcaaPick14
import Derived.Test.YtmeddeaphmpjcaaEngT
namespace Go.Proofs.Ytmeddeaphmpjcaa
open Go.RowKit

def agl_v1 (o : OneM) : List Value := [.int .i64 201, .int .i64 o.to, .int .i64 o.id, .bool false, .int .i64 o.q.kind, .int .i64 o.q.stripe, .int .i64 o.q.epoch, .int .i64 o.q.seq, .int .i64 o.q.mask, .int .i64 o.q.node, .int .i64 o.q.oe, .int .i64 o.q.os, .string o.q.block, .int .i64 0, .int .i64 0, .int .i64 0, .bool false, .int .i64 0, .int .i64 0, .int .i64 0, .string ⟨#[]⟩, .bool false, .int .i64 0, .int .i64 0, .int .i64 0, .string ⟨#[]⟩]
def agl_v2 (o : OneM) : List Value := [.int .i64 o.to, .int .i64 201, .int .i64 o.id, .bool true, .int .i64 0, .int .i64 0, .int .i64 0, .int .i64 0, .int .i64 0, .int .i64 0, .int .i64 0, .int .i64 0, .string ⟨#[]⟩, .int .i64 0, .int .i64 0, .int .i64 0, .bool false, .int .i64 0, .int .i64 0, .int .i64 0, .string ⟨#[]⟩, .bool false, .int .i64 0, .int .i64 0, .int .i64 0, .string ⟨#[]⟩]
def agl_v3 (o : OneM) : List Value := [.int .i64 o.q.kind, .int .i64 o.q.stripe, .int .i64 o.q.epoch, .int .i64 o.q.seq, .int .i64 o.q.mask, .int .i64 o.q.node, .int .i64 o.q.oe, .int .i64 o.q.os, .string o.q.block]
def agl_v4 : List Value := [.int .i64 0, .int .i64 0, .int .i64 0, .int .i64 0, .int .i64 0, .int .i64 0, .int .i64 0, .int .i64 0, .string ⟨#[]⟩]
def agl_v5 : List Value := [.int .i64 8, .int .i64 0, .int .i64 0, .int .i64 0, .int .i64 0, .int .i64 0, .int .i64 0, .int .i64 0, .string ⟨#[]⟩]
def agl_v6 (k : Nat) (p : Int) : List Value := [.int .i64 201, .int .i64 p, .int .i64 (5 + (k : Int) + 1), .bool false, .int .i64 8, .int .i64 0, .int .i64 0, .int .i64 0, .int .i64 0, .int .i64 0, .int .i64 0, .int .i64 0, .string ⟨#[]⟩, .int .i64 0, .int .i64 0, .int .i64 0, .bool false, .int .i64 0, .int .i64 0, .int .i64 0, .string ⟨#[]⟩, .bool false, .int .i64 0, .int .i64 0, .int .i64 0, .string ⟨#[]⟩]
def agl_v7 : List Value := [.int .i64 0, .int .i64 0, .int .i64 0, .bool false, .int .i64 0, .int .i64 0, .int .i64 0, .int .i64 0, .int .i64 0, .int .i64 0, .int .i64 0, .int .i64 0, .string ⟨#[]⟩, .int .i64 0, .int .i64 0, .int .i64 0, .bool false, .int .i64 0, .int .i64 0, .int .i64 0, .string ⟨#[]⟩, .bool false, .int .i64 0, .int .i64 0, .int .i64 0, .string ⟨#[]⟩]
def agl_Q (w : World) : Exit → Act → World → Prop := bodyPost Try.prog Try.f3 (RetK (.bool true) w)
def agl_n1 : List Nat := [1, 1, 1, 1, 1, 1, 1, 0, 1, 0, 0, 1, 1]
def agl_n2 : List Nat := [1, 1, 1, 1, 1, 1, 1, 1, 0, 1, 0, 0, 1, 0, 0, 0, 1, 0, 1, 0, 1, 0, 0, 1, 0, 0, 1, 0, 0]
def agl_n3 : List Nat := [1, 1, 1, 1, 1, 1, 1, 1, 0, 1, 0, 0, 1, 0, 0, 0, 1, 0, 1, 0, 1, 0, 0, 1, 0, 0, 1, 0, 1]
def agl_n4 : List Nat := [1, 1, 1, 1, 1, 1, 1, 1, 0, 1, 0, 0, 1, 0, 0, 0, 1, 0, 1, 0, 1, 0, 0, 1, 0, 0, 1, 1]
def agl_n5 : List Nat := [1, 1, 1, 1, 1, 1, 1, 1, 0, 1, 0, 0, 1, 0, 0, 0, 1, 0, 1, 0, 1, 0, 0, 1, 1]
def agl_n6 : List Nat := [1, 1, 1, 1, 1, 1, 1, 1, 0, 1, 0, 0, 1, 0, 0, 0, 1, 0, 1, 1]
def agl_n7 : List Nat := [1, 1, 1, 1, 1, 1, 1, 1, 0, 1, 0, 0, 1, 0, 0, 1, 0]
def agl_n8 : List Nat := [1, 1, 1, 1, 1, 1, 1, 1, 0, 1, 0, 0, 1, 0, 0, 1, 1, 0, 0]
def agl_n9 : List Nat := [1, 1, 1, 1, 1, 1, 1, 1, 0, 1, 0, 0, 1, 0, 0, 1, 1, 0, 1]
def agl_n10 : List Nat := [1, 1, 1, 1, 1, 1, 1, 1, 0, 1, 0, 0, 1, 0, 0, 1, 1, 1, 0]
def agl_n11 : List Nat := [1, 1, 1, 1, 1, 1, 1, 1, 0, 1, 0, 0, 1, 0, 0, 1, 1, 1, 1, 1, 0, 0, 1, 0, 0, 1, 1, 1, 1]
def agl_n12 : List Nat := [1, 1, 1, 1, 1, 1, 1, 1, 0, 1, 0, 0, 1, 0, 0, 1, 1, 1, 1, 1, 0, 0, 1, 0, 0, 1, 1]
def agl_n13 : List Nat := [1, 1, 1, 1, 1, 1, 1, 1, 0, 1, 0, 0, 1, 0, 0, 1, 1, 1, 1, 1, 0, 0, 1, 1]
def agl_n14 : List Nat := [1, 1, 1, 1, 1, 1, 1, 1, 0, 1, 0, 0, 1, 0, 0, 1, 1, 1, 1]
def agl_n15 : List Nat := [1, 1, 1, 1, 1, 1, 1, 1, 0, 1, 0, 0, 1, 0, 0, 1, 1, 1]
def agl_n16 : List Nat := [1, 1, 1, 1, 1, 1, 1, 1, 0, 1, 0, 0, 1, 0, 0, 1, 1]
def agl_n17 : List Nat := [1, 1, 1, 1, 1, 1, 1, 1, 0, 1, 0, 0, 1, 0, 0, 1]
def agl_n18 : List Nat := [1, 1, 1, 1, 1, 1, 1, 1, 0, 1, 0, 0, 1, 1]
def agl_n19 : List Nat := [1, 1, 1, 1, 1, 1, 1, 1, 0, 1, 0]
def agl_n20 : List Nat := [1, 1, 1, 1, 1, 1, 1, 1, 1]
def agl_n21 : List Nat := [1, 1, 1, 1, 1, 1, 1, 1]
def agl_n22 : List Nat := [1, 2, 3, 8, 10, 11, 15, 16, 17]
def agl_n23 : List Nat := [1, 2, 3, 8, 10, 11, 15, 21, 22, 23, 24]
def agl_n24 : List Nat := [1, 2, 3, 8, 10, 11, 15, 21, 22, 23, 25, 26]
def agl_n25 : List Nat := [1, 2, 3, 8, 10, 11, 15, 21, 22]
def agl_n26 : Array Bool := #[true, true, true, true, true, true, true, true, true, true, true, true, false, false, false, false, true, false, false]
def agl_n27 : Array Bool := #[true, true, true, true, true, true, true, true, true, true, true, true, true, false, false, false, false, false, false]
def agl_n28 : Array Bool := #[true, true, true, true, true, true, true, true, true, true, true, true, true, false, false, false, true, false, false]
def agl_n29 : Array Bool := #[true, true, true, true, true, true, true, true, true, true, true, true, true, true, true, true, true, true, true]
def AgainI1 (A : Option Addr) (n : Nat) (cp : Nat) (B : Option Addr) (nb : Nat) (bp : Nat) (cb : Nat) (w : World) (NOW : Int) (AT : Int)  (m : Nat) (st : St) (W0 : World) : Prop :=
  ∃ (k : Nat) (L : List OneM) (A0 : Option Addr) (c0 : Nat) (z : Nat), m + k = 8 ∧ k ≤ n ∧ L.length = k ∧ L.Pairwise (fun a b => a.id < b.id) ∧ (∀ o ∈ L, 5 < o.id ∧ o.id ≤ 5 + (k : Int) ∧ o.asked = NOW ∧ o.sent = NOW) ∧ PartyAt 59 61 W0 w.heap.size cb (⟨201, 5 + (k : Int), L⟩) ∧ OwnR W0 w.heap.size 37 26 A0 k c0 (lettersC 201 L) ∧ st = ⟨[(0, .slice A n cp), (1, .slice B nb bp), (2, .int .i64 AT), (3, .int .i64 NOW), (8, .bool false), (10, (pt cb 0)), (11, .slice A0 k c0), (12, .int .i64 (k : Int))], [], [], z⟩
def AgainI2 (B : Option Addr) (nb : Nat) (bp : Nat) (cb : Nat) (w : World) (NOW : Int) (AT : Int) (i0 : Nat)  (m : Nat) (st : St) (W0 : World) : Prop :=
  ∃ (tt : Nat) (L : List OneM) (ln : Nat) (A0 : Option Addr) (c0 : Nat) (z : Nat), m + tt = 20 ∧ L.length = ln ∧ ln ≤ 8 ∧ L.Pairwise (fun a b => a.id < b.id) ∧ (∀ o ∈ L, o.asked = NOW ∧ o.sent = NOW + 2 * ((tt / 2 : Nat) : Int)) ∧ PartyAt 59 61 W0 w.heap.size cb (⟨201, 5 + (i0 : Int), L⟩) ∧ OwnR W0 w.heap.size 37 26 A0 ln c0 (lettersC 201 L) ∧ st = ⟨[(1, .slice B nb bp), (2, .int .i64 AT), (3, .int .i64 NOW), (8, .bool false), (10, (pt cb 0)), (11, .slice A0 ln c0), (15, .int .i64 ((tt : Int) + 1))], [], [], z⟩
def AgainI3 (A0 : Option Addr) (A48 : Option Addr) (c0 : Nat) (c48 : Nat) (B : Option Addr) (nb : Nat) (bp : Nat) (cb : Nat) (ys : List Int) (L2 : List OneM) (w : World) (NOW : Int) (AT : Int) (i0 : Nat) (tt : Nat) (ln : Nat)  (m : Nat) (st : St) (W0 : World) : Prop :=
  ∃ (nn : Nat) (z : Nat), m + nn = 6 ∧ PartyAt 59 61 W0 w.heap.size cb (⟨201, 5 + (i0 : Int), L2⟩) ∧ OwnR W0 w.heap.size 37 26 A0 ln c0 (lettersC 201 L2) ∧ OwnR W0 w.heap.size 3 1 A48 (List.length ys) c48 (i64s ys) ∧ st = ⟨[(1, .slice B nb bp), (2, .int .i64 AT), (3, .int .i64 NOW), (8, .bool false), (10, (pt cb 0)), (11, .slice A0 ln c0), (15, .int .i64 ((tt : Int) + 1)), (21, .slice A48 (List.length ys) c48), (22, .int .i64 (nn : Int))], [], [], z⟩
def AgainI4 (A0 : Option Addr) (A48 : Option Addr) (c0 : Nat) (c48 : Nat) (B : Option Addr) (nb : Nat) (bp : Nat) (cb : Nat) (ys : List Int) (L2 : List OneM) (w : World) (NOW : Int) (AT : Int) (i0 : Nat) (tt : Nat) (ln : Nat) (nn : Nat)  (m : Nat) (st : St) (W0 : World) : Prop :=
  ∃ (j : Nat) (z : Nat), m + j = ln ∧ PartyAt 59 61 W0 w.heap.size cb (⟨201, 5 + (i0 : Int), L2⟩) ∧ OwnR W0 w.heap.size 37 26 A0 ln c0 (lettersC 201 L2) ∧ OwnR W0 w.heap.size 3 1 A48 (List.length ys) c48 (i64s ys) ∧ st = ⟨[(1, .slice B nb bp), (2, .int .i64 AT), (3, .int .i64 NOW), (8, .bool false), (10, (pt cb 0)), (11, .slice A0 ln c0), (15, .int .i64 ((tt : Int) + 1)), (21, .slice A48 (List.length ys) c48), (22, .int .i64 (nn : Int)), (23, .bool (hasB L2 nn j)), (24, .int .i64 (j : Int))], [], [], z⟩
def AgainI5 (A0 : Option Addr) (A48 : Option Addr) (c0 : Nat) (c48 : Nat) (B : Option Addr) (nb : Nat) (bp : Nat) (cb : Nat) (ys : List Int) (L2 : List OneM) (w : World) (NOW : Int) (AT : Int) (i0 : Nat) (tt : Nat) (ln : Nat) (nn : Nat) (d0 : Nat)  (m : Nat) (st : St) (W0 : World) : Prop :=
  ∃ (j : Nat) (z : Nat), m + j = (List.length ys) ∧ PartyAt 59 61 W0 w.heap.size cb (⟨201, 5 + (i0 : Int), L2⟩) ∧ OwnR W0 w.heap.size 37 26 A0 ln c0 (lettersC 201 L2) ∧ OwnR W0 w.heap.size 3 1 A48 (List.length ys) c48 (i64s ys) ∧ st = ⟨[(1, .slice B nb bp), (2, .int .i64 AT), (3, .int .i64 NOW), (8, .bool false), (10, (pt cb 0)), (11, .slice A0 ln c0), (15, .int .i64 ((tt : Int) + 1)), (21, .slice A48 (List.length ys) c48), (22, .int .i64 (nn : Int)), (23, .bool (hasB L2 nn d0)), (25, .bool (toldB ys nn j)), (26, .int .i64 (j : Int))], [], [], z⟩
def AgainI6 (A0 : Option Addr) (c0 : Nat) (B : Option Addr) (nb : Nat) (bp : Nat) (cb : Nat) (L : List OneM) (w : World) (NOW : Int) (AT : Int) (i0 : Nat) (tt : Nat) (ln : Nat)  (m : Nat) (st : St) (W0 : World) : Prop :=
  ∃ (i : Nat) (Kp : List OneM) (kn : Nat) (A1 : Option Addr) (c1 : Nat) (z : Nat), m + i = ln ∧ Kp.length = kn ∧ kn ≤ i ∧ Kp.Sublist (L.take i) ∧ PartyAt 59 61 W0 w.heap.size cb (⟨201, 5 + (i0 : Int), Kp ++ L.drop i⟩) ∧ OwnR W0 w.heap.size 37 26 A0 ln c0 (lettersC 201 L) ∧ OwnR W0 w.heap.size 37 26 A1 kn c1 (lettersC 201 Kp) ∧ (∀ yy, ownS A0 yy → ¬ ownS A1 yy) ∧ st = ⟨[(1, .slice B nb bp), (2, .int .i64 AT), (3, .int .i64 NOW), (8, .bool false), (10, (pt cb 0)), (11, .slice A0 ln c0), (15, .int .i64 ((tt : Int) + 1)), (16, .slice A1 kn c1), (17, .int .i64 (i : Int))], [], [], z⟩
theorem agl_q51 (A1 : Option Addr) (c0 : Nat) (c1 : Nat) (nb : Nat) (bp : Nat) (cb : Nat) (i : Nat) (o : OneM) (W70 : World) (b1 : Nat) (o1 : Nat) (NOW : Int) (AT : Int) (tt : Nat) (ln : Nat) (kn : Nat) (g1 : Nat) (z46 : Nat) : Out.prune [1, 2, 3, 8, 10, 11, 15, 16, 17, 93, 104] (qList Try.prog 189 W70 (Turned []) ((opsOf (getCode (bodyOf Try.f3) agl_n2)).toList.take 12) ⟨[(1, .slice (some ⟨b1, o1, none⟩) nb bp), (2, .int .i64 AT), (3, .int .i64 NOW), (8, .bool false), (10, (pt cb 0)), (11, .slice (some ⟨g1, 0, none⟩) ln c0), (15, .int .i64 ((tt : Int) + 1)), (16, .slice A1 kn c1), (17, .int .i64 (i : Int))], [], [⟨g1, 0 + i * 26, (agl_v1 o)⟩], z46⟩ [.op oh0, .op oh0, .op oh0, .op oh2, .op oh0, .op ⟨false, 0, [⟨true, 0, 1, 1⟩]⟩, .op oh0, .op oh0, .op oh2, .op oh0, .op ⟨false, 0, [⟨true, 0, 2, 1⟩]⟩, .op oh0]) = some ⟨[(0 : Int) ≤ (i : Int) ∧ (i : Int) < ((ln : Nat) : Int), (0 : Int) ≤ (i : Int) ∧ (i : Int) < ((ln : Nat) : Int)], dupR [(g1, 0 + i * 26 + 1, 1), (g1, 0 + i * 26 + 2, 1)], ⟨[(1, .slice (some ⟨b1, o1, none⟩) nb bp), (2, .int .i64 AT), (3, .int .i64 NOW), (8, .bool false), (10, (pt cb 0)), (11, .slice (some ⟨g1, 0, none⟩) ln c0), (15, .int .i64 ((tt : Int) + 1)), (16, .slice A1 kn c1), (17, .int .i64 (i : Int)), (93, (pt cb 0)), (104, .agg (List.toArray (agl_v2 o)))], [], [⟨g1, 0 + i * 26, (agl_v1 o)⟩], z46⟩⟩ := by kernel_rfl
theorem agl_t53 (A1 : Option Addr) (c0 : Nat) (c1 : Nat) (nb : Nat) (bp : Nat) (cb : Nat) (i : Nat) (o : OneM) (W71 : World) (b1 : Nat) (o1 : Nat) (NOW : Int) (AT : Int) (tt : Nat) (ln : Nat) (kn : Nat) (g1 : Nat) (g51 : Nat) : tailP [1, 2, 3, 8, 10, 11, 15, 16, 17, 19] (tailX Try.prog 189 (opsOf (getCode (bodyOf Try.f3) agl_n2)) 5 agl_n28 ⟨[(105, .tuple #[.agg (List.toArray (agl_v3 o)), .bool true]), (18, (pt g51 0)), (1, .slice (some ⟨b1, o1, none⟩) nb bp), (2, .int .i64 AT), (3, .int .i64 NOW), (8, .bool false), (10, (pt cb 0)), (11, .slice (some ⟨g1, 0, none⟩) ln c0), (15, .int .i64 ((tt : Int) + 1)), (16, .slice A1 kn c1), (17, .int .i64 (i : Int)), (93, (pt cb 0)), (104, .agg (List.toArray (agl_v2 o)))], [⟨g51, 31, true, (agl_v4)⟩], [], W71.heap.size⟩ [(13, false, oh0), (14, true, oh0), (15, true, oh0), (17, false, ⟨false, 0, [⟨false, 0, 0, 9⟩]⟩), (18, false, oh0)]) = some (⟨[], dupR [(g51, 0, 9)], ⟨[(1, .slice (some ⟨b1, o1, none⟩) nb bp), (2, .int .i64 AT), (3, .int .i64 NOW), (8, .bool false), (10, (pt cb 0)), (11, .slice (some ⟨g1, 0, none⟩) ln c0), (15, .int .i64 ((tt : Int) + 1)), (16, .slice A1 kn c1), (17, .int .i64 (i : Int)), (19, .bool true)], [⟨g51, 31, true, (agl_v3 o)⟩], [], W71.heap.size⟩⟩, 0, agl_n29) := by kernel_rfl
theorem agl_f55 (A1 : Option Addr) (c0 : Nat) (c1 : Nat) (nb : Nat) (bp : Nat) (cb : Nat) (i : Nat) (o : OneM) (b1 : Nat) (o1 : Nat) (NOW : Int) (AT : Int) (tt : Nat) (ln : Nat) (kn : Nat) (g1 : Nat) (y51 : Nat) : opStep Try.prog 189 (opsOf (getCode (bodyOf Try.f3) agl_n2)) ⟨[(1, .slice (some ⟨b1, o1, none⟩) nb bp), (2, .int .i64 AT), (3, .int .i64 NOW), (8, .bool false), (10, (pt cb 0)), (11, .slice (some ⟨g1, 0, none⟩) ln c0), (15, .int .i64 ((tt : Int) + 1)), (16, .slice A1 kn c1), (17, .int .i64 (i : Int)), (93, (pt cb 0)), (104, .agg (List.toArray (agl_v2 o)))], [], [⟨g1, 0 + i * 26, (agl_v1 o)⟩], y51⟩ 16 oh0 = some ⟨[], dupR [], ⟨[(18, (pt y51 0)), (1, .slice (some ⟨b1, o1, none⟩) nb bp), (2, .int .i64 AT), (3, .int .i64 NOW), (8, .bool false), (10, (pt cb 0)), (11, .slice (some ⟨g1, 0, none⟩) ln c0), (15, .int .i64 ((tt : Int) + 1)), (16, .slice A1 kn c1), (17, .int .i64 (i : Int)), (93, (pt cb 0)), (104, .agg (List.toArray (agl_v2 o)))], [⟨y51, 31, true, (agl_v4)⟩], [⟨g1, 0 + i * 26, (agl_v1 o)⟩], y51 + 1⟩⟩ := by kernel_rfl
theorem agl_t56 (A1 : Option Addr) (c0 : Nat) (c1 : Nat) (nb : Nat) (bp : Nat) (cb : Nat) (i : Nat) (o : OneM) (W71 : World) (b1 : Nat) (o1 : Nat) (NOW : Int) (AT : Int) (tt : Nat) (ln : Nat) (kn : Nat) (g1 : Nat) : tailP [1, 2, 3, 8, 10, 11, 15, 16, 17, 19] (tailX Try.prog 189 (opsOf (getCode (bodyOf Try.f3) agl_n2)) 6 agl_n27 ⟨[(105, .tuple #[.agg (List.toArray (agl_v3 o)), .bool true]), (1, .slice (some ⟨b1, o1, none⟩) nb bp), (2, .int .i64 AT), (3, .int .i64 NOW), (8, .bool false), (10, (pt cb 0)), (11, .slice (some ⟨g1, 0, none⟩) ln c0), (15, .int .i64 ((tt : Int) + 1)), (16, .slice A1 kn c1), (17, .int .i64 (i : Int)), (93, (pt cb 0)), (104, .agg (List.toArray (agl_v2 o)))], [], [], W71.heap.size⟩ [(13, true, oh0), (14, true, oh0), (15, true, oh0), (16, false, oh0), (17, false, ⟨false, 0, [⟨false, 0, 0, 9⟩]⟩), (18, false, oh0)]) = some (⟨[], dupR [(W71.heap.size, 0, 9)], ⟨[(1, .slice (some ⟨b1, o1, none⟩) nb bp), (2, .int .i64 AT), (3, .int .i64 NOW), (8, .bool false), (10, (pt cb 0)), (11, .slice (some ⟨g1, 0, none⟩) ln c0), (15, .int .i64 ((tt : Int) + 1)), (16, .slice A1 kn c1), (17, .int .i64 (i : Int)), (19, .bool true)], [⟨W71.heap.size, 31, true, (agl_v3 o)⟩], [], W71.heap.size + 1⟩⟩, 0, agl_n29) := by kernel_rfl
set_option maxRecDepth 100000 in
set_option maxHeartbeats 4000000 in
theorem again14_any (A : Option Addr) (n cp : Nat) (nums : Nat → Num1) (B : Option Addr) (nb bp : Nat) (numb : Nat → Num1) (x y : Int) (hx : -9223372036854775808 ≤ x ∧ x ≤ 9223372036854775807) (hy : -9223372036854775808 ≤ y ∧ y ≤ 9223372036854775807) (w : World) (HA : NumsAt w A n nums) (HB : NumsAt w B nb numb) :
    Calls Try.prog 3 #[.slice A n cp, .slice B nb bp, .int .i64 x, .int .i64 y] w (RetK (.bool true) w) := by
  refine calls_of_holds (S := (fun _ => False)) (l := [.slice A n cp, .slice B nb bp, .int .i64 x, .int .i64 y]) (n := 189) Try.func3 (body_of (by kernel_rfl)) rfl (by simp) (MemOk.none w _) ?_
  refine hgE 9 [oh0] [0, 1, 2, 3, 8] [] [] [.ops [1, 0] [0, 1], .code [1, 1]] ⟨[(0, .slice A n cp), (1, .slice B nb bp), (2, .int .i64 x), (3, .int .i64 y), (8, .bool false)], [], [], w.heap.size⟩ ?_
  refine hcp (.bool true) 6 [] (some 27) [] trivial rfl (fun wx hm => awake14P wx) fun z2 hz2 => ?_
  replace hz2 : w.heap.size ≤ z2 := hz2
  refine hgE 7 [oh0] [0, 1, 2, 3, 8, 9] [] [] [.ops [1, 1, 0] [0, 1], .code [1, 1, 1]] ⟨[(0, .slice A n cp), (1, .slice B nb bp), (2, .int .i64 x), (3, .int .i64 y), (8, .bool false), (9, .bool true)], [], [], z2⟩ ?_
  refine holds_callV (w := w) (S' := (fun _ => False)) (Y := Nat) (fun cb => (pt cb 0)) (fun cb => []) (fun cb W_ => PartyAt 59 61 W_ w.heap.size cb ⟨201, within14 5, []⟩) (fun cb => [(28, (pt cb 0)), (0, .slice A n cp), (1, .slice B nb bp), (2, .int .i64 x), (3, .int .i64 y), (8, .bool false), (9, .bool true)]) (show _ = some (7, [.int .i64 201, .int .i64 5], some 28, []) by kernel_rfl) trivial (fun _ => rfl) (fun wx hm => ?_) (fun cb W1 hX1 hm1 => ?_)
  · have hm0 := hm
    refine (new_party 201 5 wx).mono fun e w' hq => ?_
    obtain ⟨cb, he, hp, hk⟩ := hq
    exact ⟨cb, he, hp.below hm0.kept.size, hm0.offA (fun _ h => h) hk (fun _ h => h.elim) (fun _ _ h => h)⟩
  have hP1 := hX1
  rw [show (⟨201, within14 5, []⟩ : CM) = ⟨201, 5, []⟩ from by simp [within14, minZ, maxZ]] at hP1
  obtain ⟨NOW, hNOW⟩ : ∃ NOW, pickZ y 1000 = NOW := ⟨_, rfl⟩
  have hNOWb := pickZ_bd y 1000 (by omega)
  rw [hNOW] at hNOWb
  obtain ⟨AT, hAT⟩ : ∃ AT, pickZ x 20 = AT := ⟨_, rfl⟩
  have hATb := pickZ_bd x 20 (by omega)
  rw [hAT] at hATb
  refine hgE 8 [oh0, oh0] [0, 1, 2, 3, 8, 9, 10, 29] [] [] [.ops [1, 1, 1, 0] [1, 2], .code [1, 1, 1, 1]] ⟨[(0, .slice A n cp), (1, .slice B nb bp), (2, .int .i64 x), (3, .int .i64 y), (8, .bool false), (9, .bool true), (10, (pt cb 0)), (29, .int .i64 y)], [], [], W1.heap.size⟩ ?_
  refine hcp (.int .i64 NOW) 8 [.int .i64 y, .int .i64 1000] (some 30) [] trivial rfl (fun wx hm => pick14 _ _ _ hNOW wx (by omega) (by omega) hy) fun z6 hz6 => ?_
  replace hz6 : W1.heap.size ≤ z6 := hz6
  refine hgE 8 [oh0, oh0] [0, 1, 2, 3, 8, 9, 10, 31] [] [] [.ops [1, 1, 1, 1, 0] [1, 2], .code [1, 1, 1, 1, 1]] ⟨[(0, .slice A n cp), (1, .slice B nb bp), (2, .int .i64 x), (3, .int .i64 NOW), (8, .bool false), (9, .bool true), (10, (pt cb 0)), (31, .int .i64 x)], [], [], z6⟩ ?_
  refine hcp (.int .i64 AT) 8 [.int .i64 x, .int .i64 20] (some 32) [] trivial rfl (fun wx hm => pick14 _ _ _ hAT wx (by omega) (by omega) hx) fun z8 hz8 => ?_
  replace hz8 : z6 ≤ z8 := hz8
  refine hgE 27 [oh0, oh0, oh0, oh0, oh0, oh0, ⟨false, 3, []⟩, oh0, oh0, oh0] [0, 1, 2, 3, 8, 10, 11, 12] [fF, fF, fF, fF] [] [.code [1, 1, 1, 1, 1, 1, 1, 0, 1, 0], .blk 0, .code agl_n21] ⟨[(0, .slice A n cp), (1, .slice B nb bp), (2, .int .i64 AT), (3, .int .i64 NOW), (8, .bool false), (10, (pt cb 0)), (11, .slice none 0 0), (12, .int .i64 0)], [], [], z8⟩ ?_
  refine holds_loopW (w := w) (S' := fun _ => False) (AgainI1 A n cp B nb bp cb w NOW AT) 8 (by kernel_rfl) (fun W0 hm => ⟨⟨0, [], none, 0, _, rfl, Nat.zero_le _, rfl, List.Pairwise.nil, (fun o ho => by cases ho), (by have h := (hP1.keptT hm.kept (turned_tys hm1) rfl rfl); simpa using h), OwnR.nil _ _ _ _, rfl⟩, (MemOk.bck hm1 hm)⟩) ?_
  rintro m _ W40 ⟨k, L, A0, c0, z, hmk, hkn, hLl, hLp, hL, hP40, hO40open, rfl⟩ hm40 J hJ
  by_cases h1 : k < n ∧ k < 8
  · skip
    obtain ⟨h1a, h1b⟩ := h1
    obtain ⟨hok, b1, o1, rfl, hb1lt, hb1c⟩ := HA k h1a
    obtain ⟨p, hp⟩ : ∃ p, pickZ (nums k).v 6 = p := ⟨_, rfl⟩
    have hpb := pickZ_bd (nums k).v 6 (by omega)
    rw [hp] at hpb
    refine holds_wins [⟨b1, o1 + k * 1, [.int .i64 ((nums k).v)]⟩] (fun _ y hy => ?_) ?_
    · simp only [List.mem_cons, List.not_mem_nil, or_false] at hy
      subst hy
      exact ⟨fun h => absurd (turned_new hm40 h) (Nat.not_le.2 hb1lt), Nat.lt_of_lt_of_le hb1lt hm40.kept.size, fun j v hj => num_cell hm40.kept hb1lt hb1c hj⟩
    refine hgE 27 [oh0, oh0, oh0, oh0, oh0, oh1, oh1, oh3, oh1, oh0, oh0, oh0, oh0, oh2, ⟨false, 0, [⟨true, 0, 0, 1⟩]⟩] [0, 1, 2, 3, 8, 10, 11, 12, 50, 51, 55] [dT (((k : Int) : Int) < (n : Int)), dT (((k : Int) : Int) < (n : Int)), dT (((k : Int) : Int) < (n : Int)), dT (((k : Int) : Int) < 8), oE ((0 : Int) ≤ (k : Int) ∧ (k : Int) < ((n : Nat) : Int))] [(b1, o1 + k * 1, 1)] [.ops [1, 1, 1, 1, 1, 1, 1, 0, 1, 0, 0, 1, 0, 0, 0] [6, 7, 8, 9, 10, 11, 12, 13, 14], .code [1, 1, 1, 1, 1, 1, 1, 0, 1, 0, 0, 1, 0, 0, 1], .blk 1, .code agl_n1, .inv J, .blk 0, .code agl_n21] ⟨[(0, .slice (some ⟨b1, o1, none⟩) n cp), (1, .slice B nb bp), (2, .int .i64 AT), (3, .int .i64 NOW), (8, .bool false), (10, (pt cb 0)), (11, .slice A0 k c0), (12, .int .i64 (k : Int)), (50, (pt cb 0)), (51, .int .i64 NOW), (55, .int .i64 ((nums k).v))], [], [⟨b1, o1 + k * 1, [.int .i64 ((nums k).v)]⟩], W40.heap.size⟩ ?_
    refine hcp (.int .i64 p) 8 [.int .i64 ((nums k).v), .int .i64 6] (some 56) [] trivial rfl (fun wx hm => pick14 _ _ _ hp wx (by omega) (by omega) hok.v) fun z11 hz11 => ?_
    replace hz11 : W40.heap.size ≤ z11 := hz11
    refine hgE 4 [oh0] [0, 1, 2, 3, 8, 10, 11, 12, 50, 51, 56, 57] [] [] [.ops [1, 1, 1, 1, 1, 1, 1, 0, 1, 0, 0, 1, 0, 0, 0] [8, 9, 10, 11, 12, 13, 14], .code [1, 1, 1, 1, 1, 1, 1, 0, 1, 0, 0, 1, 0, 0, 1], .blk 1, .code agl_n1, .inv J, .blk 0, .code agl_n21] ⟨[(0, .slice (some ⟨b1, o1, none⟩) n cp), (1, .slice B nb bp), (2, .int .i64 AT), (3, .int .i64 NOW), (8, .bool false), (10, (pt cb 0)), (11, .slice A0 k c0), (12, .int .i64 (k : Int)), (50, (pt cb 0)), (51, .int .i64 NOW), (56, .int .i64 p), (57, .agg (List.toArray (agl_v5)))], [], [⟨b1, o1 + k * 1, [.int .i64 ((nums k).v)]⟩], z11⟩ ?_
    refine holds_wins [] (fun _ _ h => by cases h) ?_
    refine holds_callV (w := w) (S' := (fun _ => False)) (Y := Unit) (fun _ => .tuple #[.agg (List.toArray (agl_v6 k p)), .bool true]) (fun _ => []) (fun _ W_ => PartyAt 59 61 W_ w.heap.size cb (askC ⟨201, 5 + (k : Int), L⟩ NOW p ⟨8, 0, 0, 0, 0, 0, 0, 0, ⟨#[]⟩⟩) ∧ OwnR W_ w.heap.size 37 26 A0 k c0 (lettersC 201 L)) (fun _ => [(58, .tuple #[.agg (List.toArray (agl_v6 k p)), .bool true]), (0, .slice (some ⟨b1, o1, none⟩) n cp), (1, .slice B nb bp), (2, .int .i64 AT), (3, .int .i64 NOW), (8, .bool false), (10, (pt cb 0)), (11, .slice A0 k c0), (12, .int .i64 (k : Int)), (50, (pt cb 0)), (51, .int .i64 NOW), (56, .int .i64 p), (57, .agg (List.toArray (agl_v5)))]) (show _ = some (9, [(pt cb 0), .int .i64 NOW, .int .i64 p, .agg (List.toArray (agl_v5))], some 58, []) by kernel_rfl) trivial (fun _ => rfl) (fun wx hm => ?_) (fun y_ W41 hX41 hm41 => ?_)
    · have hm0 := (MemOk.bck hm40 hm)
      refine (ask_party NOW p ⟨8, 0, 0, 0, 0, 0, 0, 0, ⟨#[]⟩⟩ (hP40.keptT hm.kept (turned_tys hm40) rfl rfl) (MemOk.bck hm40 hm).kept.size ⟨by have h9 := hLl; simp only; omega, by simp only; omega, by omega, by omega⟩).mono fun e w' hq => ?_
      obtain ⟨he, hp, hk⟩ := hq
      exact ⟨(), he, ⟨hp, ((hO40open.keptT hm.kept (turned_tys hm40) rfl).keptT (es := [59, 61]) hk (fun _ h => h.2) rfl)⟩, hm0.offA (fun _ h => h) hk (fun y h => .inr h.1) (off_tys hm (es := [59, 61]) (fun _ h => h.2) rfl)⟩
    obtain ⟨hP41, hO41open⟩ := hX41
    rw [show (askC ⟨201, 5 + (k : Int), L⟩ NOW p ⟨8, 0, 0, 0, 0, 0, 0, 0, ⟨#[]⟩⟩ : CM) = ⟨201, 5 + (k : Int) + 1, L ++ [⟨p, 5 + (k : Int) + 1, ⟨8, 0, 0, 0, 0, 0, 0, 0, ⟨#[]⟩⟩, NOW, NOW⟩]⟩ from ask_M (within_id (by omega))] at hP41
    refine hgE 22 [oh0, oh0, oh0, oh0, ⟨false, 0, [⟨false, 0, 0, 26⟩]⟩, oh0, oh0, oh0, oh0, oh0, ⟨false, 0, [⟨false, 0, 0, 26⟩]⟩, oh0] [0, 1, 2, 3, 8, 10, 11, 12, 63, 65] [fF] [(W41.heap.size, 0, 26), (W41.heap.size, 0, 26)] [.ops [1, 1, 1, 1, 1, 1, 1, 0, 1, 0, 0, 1, 0, 0, 1, 1] [3, 4], .blk 1, .code agl_n1, .inv J, .blk 0, .code agl_n21] ⟨[(0, .slice (some ⟨b1, o1, none⟩) n cp), (1, .slice B nb bp), (2, .int .i64 AT), (3, .int .i64 NOW), (8, .bool false), (10, (pt cb 0)), (11, .slice A0 k c0), (12, .int .i64 (k : Int)), (63, .slice A0 k c0), (65, .slice (some ⟨W41.heap.size + 1, 0, none⟩) 1 1)], [⟨W41.heap.size, 37, true, (agl_v6 k p)⟩, ⟨W41.heap.size + 1, 37, true, (agl_v6 k p)⟩], [], W41.heap.size + 2⟩ ?_
    refine holds_opV (w := w) (S' := (fun _ => False)) (Y := Option Addr × Nat) (dst := (some 66)) (x := Builtin.append_ #[27, 27] 27 #[.slice A0 k c0, .slice (some ⟨W41.heap.size + 1, 0, none⟩) 1 1]) (fun yq => .slice yq.1 (k + 1) yq.2) [] (fun yq W_ => PartyAt 59 61 W_ w.heap.size cb (⟨201, 5 + (k : Int) + 1, L ++ [⟨p, 5 + (k : Int) + 1, ⟨8, 0, 0, 0, 0, 0, 0, 0, ⟨#[]⟩⟩, NOW, NOW⟩]⟩) ∧ OwnR W_ w.heap.size 37 26 yq.1 (k + 1) yq.2 (lettersC 201 (L ++ [⟨p, 5 + (k : Int) + 1, ⟨8, 0, 0, 0, 0, 0, 0, 0, ⟨#[]⟩⟩, NOW, NOW⟩]))) (fun yq => [(66, .slice yq.1 (k + 1) yq.2), (0, .slice (some ⟨b1, o1, none⟩) n cp), (1, .slice B nb bp), (2, .int .i64 AT), (3, .int .i64 NOW), (8, .bool false), (10, (pt cb 0)), (11, .slice A0 k c0), (12, .int .i64 (k : Int)), (63, .slice A0 k c0), (65, .slice (some ⟨W41.heap.size + 1, 0, none⟩) 1 1)]) (by kernel_rfl) (by kernel_rfl) (fun _ => rfl) (fun wx hm => ?_) (fun yq W42 hX42 hm42 => ?_)
    · have hO_ := (hO41open.keptT hm.kept (turned_tys hm41) rfl)
      have hm0 := (MemOk.bck hm41 hm)
      obtain ⟨A', cp', w', h1, h2, h3, h4⟩ := run_appendR (P := Try.prog) wx w.heap.size 27 27 37 (.agg (List.toArray (agl_v7))) 26 232 A0 k c0 (lettersC 201 L) ⟨W41.heap.size + 1, 0, none⟩ 1 1 (agl_v6 k p) (by kernel_rfl) (by kernel_rfl) (by kernel_rfl) (by decide) hO_ rfl (fun j x hj => by rw [add_norm, Nat.zero_add]; exact (hm.at_ 1 rfl).at_ hj) (ones_all (by kernel_rfl)) (by omega) (by decide) hm0.kept.size
      rw [show (agl_v6 k p) = letC 201 ⟨p, 5 + (k : Int) + 1, ⟨8, 0, 0, 0, 0, 0, 0, 0, ⟨#[]⟩⟩, NOW, NOW⟩ from rfl, lettersC_snoc] at h2
      exact ⟨(A', cp'), w', h1, ⟨((hP41.keptT hm.kept (turned_tys hm41) rfl rfl).keptT (es := [37]) h3 (own_tys hO_) rfl rfl), h2⟩, (hm0.sub (bk' := []) (by simp)).offA (fun _ h => h) h3 (fun y hy => .inr (hO_.own y hy).1) (off_tys (hm0.sub (bk' := []) (by simp)) (own_tys hO_) rfl)⟩
    obtain ⟨A42, c42⟩ := yq
    obtain ⟨hP42, hO42open⟩ := hX42
    refine hgE 11 [oh0, oh0, oh2, oh0] [0, 1, 2, 3, 8, 10, 11, 12] [n64 (((k : Int) + 1))] [] [.inv J, .blk 0, .code agl_n21] ⟨[(0, .slice (some ⟨b1, o1, none⟩) n cp), (1, .slice B nb bp), (2, .int .i64 AT), (3, .int .i64 NOW), (8, .bool false), (10, (pt cb 0)), (11, .slice A42 (k + 1) c42), (12, .int .i64 ((k : Int) + 1))], [], [], W42.heap.size⟩ ?_
    have hLN : ∀ o ∈ L ++ [(⟨p, 5 + (k : Int) + 1, ⟨8, 0, 0, 0, 0, 0, 0, 0, ⟨#[]⟩⟩, NOW, NOW⟩ : OneM)], 5 < o.id ∧ o.id ≤ 5 + ((k + 1 : Nat) : Int) ∧ o.asked = NOW ∧ o.sent = NOW := by
      intro o ho
      rcases List.mem_append.1 ho with ho | ho
      · have h9 := hL o ho
        exact ⟨h9.1, by omega, h9.2.2⟩
      · obtain rfl := List.mem_singleton.1 ho
        refine ⟨?_, ?_, rfl, rfl⟩ <;> simp only <;> omega
    have hLNp : (L ++ [(⟨p, 5 + (k : Int) + 1, ⟨8, 0, 0, 0, 0, 0, 0, 0, ⟨#[]⟩⟩, NOW, NOW⟩ : OneM)]).Pairwise (fun a b => a.id < b.id) := List.pairwise_append.2 ⟨hLp, List.pairwise_singleton _ _, fun a ha b hb => by obtain rfl := List.mem_singleton.1 hb; have h9 := hL a ha; simp only; omega⟩
    intro a_ w9 hf hm
    exact hJ (m - 1) _ a_ w9 (by omega) ⟨k + 1, L ++ [⟨p, 5 + (k : Int) + 1, ⟨8, 0, 0, 0, 0, 0, 0, 0, ⟨#[]⟩⟩, NOW, NOW⟩], A42, c42, _, by omega, by omega, by rw [List.length_append, hLl]; rfl, hLNp, hLN, (by have h := (hP42.keptT hm.kept (turned_tys hm42) rfl rfl); rw [show (5 + ((k + 1 : Nat) : Int)) = 5 + (k : Int) + 1 by omega]; exact h), (hO42open.keptT hm.kept (turned_tys hm42) rfl), by rw [← cast_succ k]⟩ hf (MemOk.bck hm42 hm)
  suffices HX : Holds [] Try.prog (bodyOf Try.f3) 189 W40 (Turned []) (agl_Q w) [.code agl_n19, .blk 2, .code agl_n20] ⟨[(1, .slice B nb bp), (2, .int .i64 AT), (3, .int .i64 NOW), (8, .bool false), (10, (pt cb 0)), (11, .slice A0 k c0), (15, .int .i64 1)], [], [], W40.heap.size⟩ by
    by_cases h2 : k < n
    · skip
      refine hgE 23 [oh0, oh0, oh0, oh0, oh0, oh1, oh1, oh3, oh0, oh0] [1, 2, 3, 8, 10, 11, 15] [dT (((k : Int) : Int) < (n : Int)), dT (((k : Int) : Int) < (n : Int)), dT (((k : Int) : Int) < (n : Int)), dF (((k : Int) : Int) < 8)] [] [.code agl_n19, .blk 2, .code agl_n20] ⟨[(1, .slice B nb bp), (2, .int .i64 AT), (3, .int .i64 NOW), (8, .bool false), (10, (pt cb 0)), (11, .slice A0 k c0), (15, .int .i64 1)], [], [], W40.heap.size⟩ ?_
      exact HX
    · skip
      refine hgE 23 [oh0, oh0, oh0, oh0, oh0, oh0, oh0, ⟨false, 3, []⟩, oh0, oh0] [1, 2, 3, 8, 10, 11, 15] [dF (((k : Int) : Int) < (n : Int)), dF (((k : Int) : Int) < (n : Int)), dF (((k : Int) : Int) < (n : Int)), fF] [] [.code agl_n19, .blk 2, .code agl_n20] ⟨[(1, .slice B nb bp), (2, .int .i64 AT), (3, .int .i64 NOW), (8, .bool false), (10, (pt cb 0)), (11, .slice A0 k c0), (15, .int .i64 1)], [], [], W40.heap.size⟩ ?_
      exact HX
  have hi8 : k ≤ 8 := by omega
  clear hJ hmk h1
  obtain ⟨i0, h_i0⟩ : ∃ i0, i0 = k := ⟨_, rfl⟩
  refine holds_loopW (w := w) (S' := fun _ => False) (AgainI2 B nb bp cb w NOW AT i0) 20 (by kernel_rfl) (fun W0 hm => ⟨⟨0, L, k, A0, c0, _, rfl, hLl, hi8, hLp, (fun o ho => by have h9 := hL o ho; refine ⟨h9.2.2.1, ?_⟩; rw [h9.2.2.2]; simp), (by have h := (hP40.keptT hm.kept (turned_tys hm40) rfl rfl); rw [← h_i0] at h; exact h), (hO40open.keptT hm.kept (turned_tys hm40) rfl), rfl⟩, (MemOk.bck hm40 hm)⟩) ?_
  clear hLl hLp hL hP40 hO40open h_i0
  rintro m _ W45 ⟨tt, L, ln, A0, c0, z, hmt, hLl, hln8, hLp, hL, hP45, hO45open, rfl⟩ hm45 J hJ
  by_cases h1 : tt < 20
  rotate_left
  · skip
    refine hgE 15 [oh0, oh0, oh0, oh0] [8] [dF ((((tt : Int) + 1) : Int) ≤ 20)] [] [.code [1, 1, 1, 1, 1, 1, 1, 1, 1, 1]] ⟨[(8, .bool true)], [], [], W45.heap.size⟩ ?_
    refine hrt [] [.bool true] [] ?_
    intro wx hm
    exact ⟨rfl, (MemOk.bck hm45 hm).kept⟩
  have HX : ∀ (L : List OneM) (ln : Nat) (A0 : Option Addr) (c0 : Nat) (W46 : World), (L.length = ln ∧ ln ≤ 8 ∧ L.Pairwise (fun a b => a.id < b.id) ∧ (∀ o ∈ L, o.asked = NOW ∧ o.sent = NOW + 2 * ((tt / 2 : Nat) : Int))) → (PartyAt 59 61 W46 w.heap.size cb (⟨201, 5 + (i0 : Int), L⟩) ∧ OwnR W46 w.heap.size 37 26 A0 ln c0 (lettersC 201 L)) → MemOk w (fun _ => False) [] [] W46.heap.size W46 → Holds [] Try.prog (bodyOf Try.f3) 189 W46 (Turned []) (agl_Q w) [.ops agl_n7 [0, 1, 2, 3, 4, 5], .code agl_n16, .blk 3, .code agl_n18, .inv J, .blk 2, .code agl_n20] ⟨[(1, .slice B nb bp), (2, .int .i64 AT), (3, .int .i64 NOW), (8, .bool false), (10, (pt cb 0)), (11, .slice A0 ln c0), (15, .int .i64 ((tt : Int) + 1))], [], [], W46.heap.size⟩ := by
    clear hP45 hO45open hm45 hLl hln8 hLp hL
    rintro L ln A0 c0 W46 ⟨hLl, hln8, hLp, hL⟩ ⟨hP46, hO46open⟩ hm46
    refine hgE 7 [oh0, oh0, oh0, oh2] [1, 2, 3, 8, 10, 11, 15, 118, 121] [n64 ((NOW + ((tt : Int) + 1)))] [] [.ops agl_n7 [4, 5], .code agl_n16, .blk 3, .code agl_n18, .inv J, .blk 2, .code agl_n20] ⟨[(1, .slice B nb bp), (2, .int .i64 AT), (3, .int .i64 NOW), (8, .bool false), (10, (pt cb 0)), (11, .slice A0 ln c0), (15, .int .i64 ((tt : Int) + 1)), (118, (pt cb 0)), (121, .int .i64 (NOW + ((tt : Int) + 1)))], [], [], W46.heap.size⟩ ?_
    have hnw : within14 (NOW + ((tt : Int) + 1)) = (NOW + ((tt : Int) + 1)) := within_id (by omega)
    obtain ⟨an, han⟩ : ∃ an, an = (againL (within14 (NOW + ((tt : Int) + 1))) (⟨201, 5 + (i0 : Int), L⟩ : CM).opn).length := ⟨_, rfl⟩
    have hodd : tt % 2 = 0 → againL (within14 (NOW + ((tt : Int) + 1))) (⟨201, 5 + (i0 : Int), L⟩ : CM).opn = [] ∧ an = 0 := fun h => by
      have e : againL (within14 (NOW + ((tt : Int) + 1))) (⟨201, 5 + (i0 : Int), L⟩ : CM).opn = [] := by
        rw [hnw]
        exact againL_none (fun o ho => by have h9 := (hL o ho).2; rw [h9]; omega)
      exact ⟨e, by rw [han, e]; rfl⟩
    have heven : tt % 2 = 1 → againL (within14 (NOW + ((tt : Int) + 1))) (⟨201, 5 + (i0 : Int), L⟩ : CM).opn = L ∧ an = ln := fun h => by
      have e : againL (within14 (NOW + ((tt : Int) + 1))) (⟨201, 5 + (i0 : Int), L⟩ : CM).opn = L := by
        rw [hnw]
        exact againL_all (fun o ho => by have h9 := (hL o ho).2; rw [h9]; omega)
      exact ⟨e, by rw [han, e, hLl]⟩
    refine holds_callV (w := w) (S' := (fun _ => False)) (Y := Option Addr × Nat) (fun (⟨Al, cl⟩ : Option Addr × Nat) => .slice Al an cl) (fun (⟨Al, cl⟩ : Option Addr × Nat) => []) (fun (⟨Al, cl⟩ : Option Addr × Nat) W_ => PartyAt 59 61 W_ w.heap.size cb ({ (⟨201, 5 + (i0 : Int), L⟩ : CM) with opn := againS (within14 (NOW + ((tt : Int) + 1))) (⟨201, 5 + (i0 : Int), L⟩ : CM).opn }) ∧ OwnR W_ w.heap.size 37 26 A0 ln c0 (lettersC 201 L) ∧ OwnR W_ w.heap.size 37 26 Al an cl (lettersC 201 (againL (within14 (NOW + ((tt : Int) + 1))) (⟨201, 5 + (i0 : Int), L⟩ : CM).opn)) ∧ (∀ yy, ownS A0 yy → ¬ ownS Al yy)) (fun (⟨Al, cl⟩ : Option Addr × Nat) => [(122, .slice Al an cl), (1, .slice B nb bp), (2, .int .i64 AT), (3, .int .i64 NOW), (8, .bool false), (10, (pt cb 0)), (11, .slice A0 ln c0), (15, .int .i64 ((tt : Int) + 1)), (118, (pt cb 0)), (121, .int .i64 (NOW + ((tt : Int) + 1)))]) (show _ = some (11, [(pt cb 0), .int .i64 (NOW + ((tt : Int) + 1))], some 122, []) by kernel_rfl) trivial (fun _ => rfl) (fun wx hm => ?_) (fun ⟨A47, c47⟩ W47 hX47 hm47 => ?_)
    · have hm0 := (MemOk.bck hm46 hm)
      refine (again_party (NOW + ((tt : Int) + 1)) (hP46.keptT hm.kept (turned_tys hm46) rfl rfl)).mono fun e w' hq => ?_
      obtain ⟨Al, cl, he, ho, hp, hk⟩ := hq
      rw [← han] at he ho
      exact ⟨(⟨Al, cl⟩ : Option Addr × Nat), he, ⟨hp, ((hO46open.keptT hm.kept (turned_tys hm46) rfl).keptT (es := [59, 61]) hk (fun _ h => h.2) rfl), (ho.below hm0.kept.size), (fun y hy hy' => absurd ((hO46open.keptT hm.kept (turned_tys hm46) rfl).own y hy).2 (Nat.not_lt.2 (ho.own y hy').1))⟩, hm0.offA (fun _ h => h) hk (fun y h => .inr h.1) (off_tys hm (es := [59, 61]) (fun _ h => h.2) rfl)⟩
    obtain ⟨hP47, hO47open, hO47l2, hA47openl2⟩ := hX47
    refine hgE 12 [oh0, oh0, oh2, oh0, oh0] [1, 2, 3, 8, 10, 11, 15, 20, 126] [oE ((0 : Int) ≤ ((tt : Int) + 1) ∧ (0 : Int) < 2)] [] [.ops agl_n8 [4, 5, 6, 7, 8, 9, 10, 11, 12, 13, 14, 15, 16, 17, 18], .code agl_n9, .code agl_n15, .blk 3, .code agl_n18, .inv J, .blk 2, .code agl_n20] ⟨[(1, .slice B nb bp), (2, .int .i64 AT), (3, .int .i64 NOW), (8, .bool false), (10, (pt cb 0)), (11, .slice A0 ln c0), (15, .int .i64 ((tt : Int) + 1)), (20, .slice A47 an c47), (126, .bool ((((tt : Int) + 1) % 2) == 0))], [], [], W47.heap.size⟩ ?_
    suffices HX2 : ∀ z9 : Nat, Holds [] Try.prog (bodyOf Try.f3) 189 W47 (Turned []) (agl_Q w) [.ops agl_n10 [4, 5], .code agl_n14, .blk 3, .code agl_n18, .inv J, .blk 2, .code agl_n20] ⟨[(1, .slice B nb bp), (2, .int .i64 AT), (3, .int .i64 NOW), (8, .bool false), (10, (pt cb 0)), (11, .slice A0 ln c0), (15, .int .i64 ((tt : Int) + 1)), (142, (pt cb 0)), (145, .int .i64 (NOW + ((tt : Int) + 1)))], [], [], z9⟩ by
      rcases (by omega : tt % 2 = 0 ∨ tt % 2 = 1) with h3 | h3
      · skip
        refine hgE 27 [oh0, oh0, oh0, oh0, ⟨false, 3, []⟩, oh0, oh0, oh2, oh0, oh0, oh1, oh1, oh1, oh3, ⟨false, 3, []⟩, oh0, oh0, oh0, oh0, oh2] [1, 2, 3, 8, 10, 11, 15, 142, 145] [oE (((((tt : Int) + 1) % 2) == 0) = false) (beq_eq_false_iff_ne.2 (by omega)), oE (((((tt : Int) + 1) % 2) == 0) = false) (beq_eq_false_iff_ne.2 (by omega)), oE (((((tt : Int) + 1) % 2) == 0) = false) (beq_eq_false_iff_ne.2 (by omega)), oE (((((tt : Int) + 1) % 2) == 0) = false) (beq_eq_false_iff_ne.2 (by omega)), oE (((((tt : Int) + 1) % 2) == 0) = false) (beq_eq_false_iff_ne.2 (by omega)), fF, fF, oE ((0 : Int) ≤ ((tt : Int) + 1) ∧ (0 : Int) < 2), fF, fF, oE (((((tt : Int) + 1) % 2) == 1) = true) (beq_iff_eq.2 (by omega)), oE (((((tt : Int) + 1) % 2) == 1) = true) (beq_iff_eq.2 (by omega)), oE (((((tt : Int) + 1) % 2) == 1) = true) (beq_iff_eq.2 (by omega)), fF, oE (((((tt : Int) + 1) % 2) == 1) = true) (beq_iff_eq.2 (by omega)), fF, oE (((an : Int) != 0) = false) (bne_eq_false_iff_eq.2 (by have := (hodd h3).2; omega)), n64 ((NOW + ((tt : Int) + 1)))] [] [.ops agl_n10 [4, 5], .code agl_n14, .blk 3, .code agl_n18, .inv J, .blk 2, .code agl_n20] ⟨[(1, .slice B nb bp), (2, .int .i64 AT), (3, .int .i64 NOW), (8, .bool false), (10, (pt cb 0)), (11, .slice A0 ln c0), (15, .int .i64 ((tt : Int) + 1)), (142, (pt cb 0)), (145, .int .i64 (NOW + ((tt : Int) + 1)))], [], [], W47.heap.size⟩ ?_
        exact HX2 _
      · skip
        refine hgE 5 [oh1, oh1] [1, 2, 3, 8, 10, 11, 15, 20, 126, 127, 128] [oE (((((tt : Int) + 1) % 2) == 0) = true) (beq_iff_eq.2 (by omega)), oE (((((tt : Int) + 1) % 2) == 0) = true) (beq_iff_eq.2 (by omega))] [] [.ops agl_n8 [6, 7, 8, 9, 10, 11, 12, 13, 14, 15, 16, 17, 18], .code agl_n9, .code agl_n15, .blk 3, .code agl_n18, .inv J, .blk 2, .code agl_n20] ⟨[(1, .slice B nb bp), (2, .int .i64 AT), (3, .int .i64 NOW), (8, .bool false), (10, (pt cb 0)), (11, .slice A0 ln c0), (15, .int .i64 ((tt : Int) + 1)), (20, .slice A47 an c47), (126, .bool ((((tt : Int) + 1) % 2) == 0)), (127, .slice A47 an c47), (128, .slice A0 ln c0)], [], [], W47.heap.size⟩ ?_
        refine hcp (.bool true) 12 [.slice A47 an c47, .slice A0 ln c0] (some 129) [((((tt : Int) + 1) % 2) == 0) = true] ⟨beq_iff_eq.2 (by omega), trivial⟩ rfl (fun wx hm => by
          have h9 := heven h3
          have h8 := letters_same 201 L A47 A0 ln c47 c0 w.heap.size w.heap.size hLl (by omega) wx (by have h7 := (hO47l2.keptT hm.kept (turned_tys hm47) rfl); rw [h9.1, h9.2] at h7; exact h7) (hO47open.keptT hm.kept (turned_tys hm47) rfl)
          rw [h9.2]
          exact h8) fun z26 hz26 => ?_
        replace hz26 : W47.heap.size ≤ z26 := hz26
        refine hgE 24 [oh1, oh3, oh0, oh0, oh2, oh0, oh0, oh0, oh0, oh0, ⟨false, 3, []⟩, ⟨false, 3, []⟩, oh0, oh0, oh0, oh0, oh2] [1, 2, 3, 8, 10, 11, 15, 142, 145] [oE (((((tt : Int) + 1) % 2) == 0) = true) (beq_iff_eq.2 (by omega)), oE (((((tt : Int) + 1) % 2) == 0) = true) (beq_iff_eq.2 (by omega)), fF, fF, oE ((0 : Int) ≤ ((tt : Int) + 1) ∧ (0 : Int) < 2), fF, fF, oE (((((tt : Int) + 1) % 2) == 1) = false) (beq_eq_false_iff_ne.2 (by omega)), oE (((((tt : Int) + 1) % 2) == 1) = false) (beq_eq_false_iff_ne.2 (by omega)), oE (((((tt : Int) + 1) % 2) == 1) = false) (beq_eq_false_iff_ne.2 (by omega)), fF, oE (((((tt : Int) + 1) % 2) == 1) = false) (beq_eq_false_iff_ne.2 (by omega)), fF, fF, n64 ((NOW + ((tt : Int) + 1)))] [] [.ops agl_n10 [4, 5], .code agl_n14, .blk 3, .code agl_n18, .inv J, .blk 2, .code agl_n20] ⟨[(1, .slice B nb bp), (2, .int .i64 AT), (3, .int .i64 NOW), (8, .bool false), (10, (pt cb 0)), (11, .slice A0 ln c0), (15, .int .i64 ((tt : Int) + 1)), (142, (pt cb 0)), (145, .int .i64 (NOW + ((tt : Int) + 1)))], [], [], z26⟩ ?_
        exact HX2 _
    intro z9
    obtain ⟨L2, hL2⟩ : ∃ L2, L2 = againS (within14 (NOW + ((tt : Int) + 1))) (⟨201, 5 + (i0 : Int), L⟩ : CM).opn := ⟨_, rfl⟩
    rw [show ({ (⟨201, 5 + (i0 : Int), L⟩ : CM) with opn := againS (within14 (NOW + ((tt : Int) + 1))) (⟨201, 5 + (i0 : Int), L⟩ : CM).opn } : CM) = ⟨201, 5 + (i0 : Int), L2⟩ from by rw [hL2]] at hP47
    have hL2c : lettersC 201 L = lettersC 201 L2 := by rw [hL2]; exact (lettersC_again _ _ _).symm
    have hL2l : L2.length = ln := by rw [hL2, againS_len]; exact hLl
    have hL2p : L2.Pairwise (fun a b => a.id < b.id) := by rw [hL2]; exact againS_pair hLp
    have hL2s : ∀ o ∈ L2, o.asked = NOW ∧ o.sent = NOW + 2 * (((tt + 1) / 2 : Nat) : Int) := by
      intro o ho
      rcases (by omega : tt % 2 = 0 ∨ tt % 2 = 1) with h3 | h3
      · rw [hL2, hnw, againS_none (fun o ho => by have h9 := (hL o ho).2; rw [h9]; omega)] at ho
        have h9 := hL o ho
        refine ⟨h9.1, ?_⟩
        rw [h9.2]
        omega
      · rw [hL2, hnw] at ho
        obtain ⟨h8, o', h9, h10, _⟩ := againS_all (fun o ho => by have h9 := (hL o ho).2; rw [h9]; omega) o ho
        refine ⟨by rw [← h10]; exact (hL o' h9).1, ?_⟩
        rw [h8]
        omega
    rw [hL2c] at hO47open
    refine holds_callV (w := w) (S' := (fun _ => False)) (Y := Option Addr × Nat × List Int) (fun (⟨Al, cl, ys⟩ : Option Addr × Nat × List Int) => .slice Al (List.length ys) cl) (fun (⟨Al, cl, ys⟩ : Option Addr × Nat × List Int) => []) (fun (⟨Al, cl, ys⟩ : Option Addr × Nat × List Int) W_ => PartyAt 59 61 W_ w.heap.size cb (⟨201, 5 + (i0 : Int), L2⟩) ∧ OwnR W_ w.heap.size 37 26 A0 ln c0 (lettersC 201 L2) ∧ OwnR W_ w.heap.size 3 1 Al (List.length ys) cl (i64s ys) ∧ lateM (within14 (NOW + ((tt : Int) + 1))) L2 ys) (fun (⟨Al, cl, ys⟩ : Option Addr × Nat × List Int) => [(146, .slice Al (List.length ys) cl), (1, .slice B nb bp), (2, .int .i64 AT), (3, .int .i64 NOW), (8, .bool false), (10, (pt cb 0)), (11, .slice A0 ln c0), (15, .int .i64 ((tt : Int) + 1)), (142, (pt cb 0)), (145, .int .i64 (NOW + ((tt : Int) + 1)))]) (show _ = some (13, [(pt cb 0), .int .i64 (NOW + ((tt : Int) + 1))], some 146, []) by kernel_rfl) trivial (fun _ => rfl) (fun wx hm => ?_) (fun ⟨A48, c48, ys⟩ W48 hX48 hm48 => ?_)
    · have hm0 := (MemOk.bck hm47 hm)
      refine (late_party (NOW + ((tt : Int) + 1)) (hP47.keptT hm.kept (turned_tys hm47) rfl rfl)).mono fun e w' hq => ?_
      obtain ⟨Al, cl, ys, he, ho, hl, hk⟩ := hq
      exact ⟨(⟨Al, cl, ys⟩ : Option Addr × Nat × List Int), he, ⟨((hP47.keptT hm.kept (turned_tys hm47) rfl rfl).keptT (es := []) hk (fun _ h => h.elim) rfl rfl), ((hO47open.keptT hm.kept (turned_tys hm47) rfl).keptT (es := []) hk (fun _ h => h.elim) rfl), (ho.below hm0.kept.size), hl⟩, hm0.offA (fun _ h => h) hk (fun _ h => h.elim) (fun _ _ h => h)⟩
    obtain ⟨hP48, hO48open, hO48late, hZ48⟩ := hX48
    have hlate := hZ48
    have hyl : List.length ys ≤ 9223372036854775807 := by
      rcases hO48late.blk with ⟨_, h, _⟩ | ⟨_, _, _, _, _, h1, h2, _⟩
      · omega
      · simp only [maxLen] at h2
        omega
    refine hgE 10 [oh0, oh0] agl_n25 [] [] [.code [1, 1, 1, 1, 1, 1, 1, 1, 0, 1, 0, 0, 1, 0, 0, 1, 1, 1, 1, 1, 0], .blk 6, .blk 3, .code agl_n18, .inv J, .blk 2, .code agl_n20] ⟨[(1, .slice B nb bp), (2, .int .i64 AT), (3, .int .i64 NOW), (8, .bool false), (10, (pt cb 0)), (11, .slice A0 ln c0), (15, .int .i64 ((tt : Int) + 1)), (21, .slice A48 (List.length ys) c48), (22, .int .i64 0)], [], [], W48.heap.size⟩ ?_
    rw [hnw] at hlate
    refine holds_loopW (w := w) (S' := fun _ => False) (AgainI3 A0 A48 c0 c48 B nb bp cb ys L2 w NOW AT i0 tt ln) 6 (by kernel_rfl) (fun W0 hm => ⟨⟨0, _, rfl, (hP48.keptT hm.kept (turned_tys hm48) rfl rfl), (hO48open.keptT hm.kept (turned_tys hm48) rfl), (hO48late.keptT hm.kept (turned_tys hm48) rfl), rfl⟩, (MemOk.bck hm48 hm)⟩) ?_
    rintro m3 _ W60 ⟨nn, z, hmn, hP60, hO60open, hO60late, rfl⟩ hm60 J2 hJ2
    by_cases h4 : nn < 6
    rotate_left
    · skip
      refine hgE 17 [oh0, oh0, oh0, oh0, oh2, oh0] [1, 2, 3, 8, 10, 11, 15] [dF (((nn : Int) : Int) < 6), n64 ((((tt : Int) + 1) + 1))] [] [.inv J, .blk 2, .code agl_n20] ⟨[(1, .slice B nb bp), (2, .int .i64 AT), (3, .int .i64 NOW), (8, .bool false), (10, (pt cb 0)), (11, .slice A0 ln c0), (15, .int .i64 (((tt : Int) + 1) + 1))], [], [], W60.heap.size⟩ ?_
      intro a_ w9 hf hm
      exact hJ (m - 1) _ a_ w9 (by omega) ⟨tt + 1, L2, ln, A0, c0, _, by omega, hL2l, hln8, hL2p, hL2s, (hP60.keptT hm.kept (turned_tys hm60) rfl rfl), (hO60open.keptT hm.kept (turned_tys hm60) rfl), by rw [← cast_succ tt]⟩ hf (MemOk.bck hm60 hm)
    refine hgE 23 [oh0, oh0, oh1, oh0, oh0] agl_n23 [dT (((nn : Int) : Int) < 6)] [] [.code [1, 1, 1, 1, 1, 1, 1, 1, 0, 1, 0, 0, 1, 0, 0, 1, 1, 1, 1, 1, 0, 0, 1, 0, 0, 1, 0, 1, 0], .blk 8, .code agl_n12, .blk 7, .code agl_n13, .inv J2, .blk 6, .blk 3, .code agl_n18, .inv J, .blk 2, .code agl_n20] ⟨[(1, .slice B nb bp), (2, .int .i64 AT), (3, .int .i64 NOW), (8, .bool false), (10, (pt cb 0)), (11, .slice A0 ln c0), (15, .int .i64 ((tt : Int) + 1)), (21, .slice A48 (List.length ys) c48), (22, .int .i64 (nn : Int)), (23, .bool false), (24, .int .i64 0)], [], [], W60.heap.size⟩ ?_
    refine holds_loopW (w := w) (S' := fun _ => False) (AgainI4 A0 A48 c0 c48 B nb bp cb ys L2 w NOW AT i0 tt ln nn) ln (by kernel_rfl) (fun W0 hm => ⟨⟨0, _, by omega, (hP60.keptT hm.kept (turned_tys hm60) rfl rfl), (hO60open.keptT hm.kept (turned_tys hm60) rfl), (hO60late.keptT hm.kept (turned_tys hm60) rfl), by rw [hasB_zero]; rfl⟩, (MemOk.bck hm60 hm)⟩) ?_
    rintro m4 _ W61 ⟨j, z, hmj, hP61, hO61open, hO61late, rfl⟩ hm61 J3 hJ3
    by_cases h5 : j < ln
    · skip
      obtain ⟨o, ho⟩ : ∃ o, L2[j]? = some o := ⟨_, List.getElem?_eq_getElem (by omega)⟩
      rcases Bool.eq_false_or_eq_true (hasB L2 nn j) with d1 | d1
      · skip
        refine hgE 34 [oh0, oh0, oh0, oh0, oh1, oh0, oh0, oh1, oh1, oh1, oh1, oh1, oh1, oh1, oh3, oh0, oh0, oh2, oh0] agl_n23 [dT (((j : Int) : Int) < (ln : Int)), eD d1, eD d1, eD d1, eD d1, eD d1, eD d1, eD d1, eD d1, n64 (((j : Int) + 1))] [] [.inv J3, .blk 8, .code agl_n12, .blk 7, .code agl_n13, .inv J2, .blk 6, .blk 3, .code agl_n18, .inv J, .blk 2, .code agl_n20] ⟨[(1, .slice B nb bp), (2, .int .i64 AT), (3, .int .i64 NOW), (8, .bool false), (10, (pt cb 0)), (11, .slice A0 ln c0), (15, .int .i64 ((tt : Int) + 1)), (21, .slice A48 (List.length ys) c48), (22, .int .i64 (nn : Int)), (23, .bool true), (24, .int .i64 ((j : Int) + 1))], [], [], W61.heap.size⟩ ?_
        intro a_ w9 hf hm
        exact hJ3 (m4 - 1) _ a_ w9 (by omega) ⟨j + 1, _, by omega, (hP61.keptT hm.kept (turned_tys hm61) rfl rfl), (hO61open.keptT hm.kept (turned_tys hm61) rfl), (hO61late.keptT hm.kept (turned_tys hm61) rfl), by rw [hasB_succ ho, d1, ← cast_succ j]; rfl⟩ hf (MemOk.bck hm61 hm)
      · skip
        obtain ⟨g1, hA1, hg1, hc1⟩ := row_own hO61open (xs := letC 201 o) (fun j v hj => letters_get ho hj)
        obtain rfl := hA1
        refine holds_wins [⟨g1, 0 + j * 26, [.int .i64 201, .int .i64 o.to]⟩] (fun _ y hy => ?_) ?_
        · simp only [List.mem_cons, List.not_mem_nil, or_false] at hy
          subst hy
          refine ⟨fun ⟨_, hb, _⟩ => (by cases hb), hg1, fun i v hv => hc1 i v ?_⟩
          match i, hv with
          | 0, hv => exact hv
          | 1, hv => exact hv
          | i + 2, hv => simp at hv
        refine hgE 34 [oh0, oh0, oh0, oh0, oh1, oh0, oh0, oh0, oh0, oh2, oh0, ⟨false, 0, [⟨true, 0, 1, 1⟩]⟩, oh0, oh0, ⟨false, 3, []⟩, oh0, oh0, oh2, oh0] agl_n23 [dT (((j : Int) : Int) < (ln : Int)), eD d1, eD d1, eD d1, oE ((0 : Int) ≤ (j : Int) ∧ (j : Int) < ((ln : Nat) : Int)), eD d1, eD d1, eD d1, eD d1, eD d1, n64 (((j : Int) + 1))] [(g1, 0 + j * 26 + 1, 1)] [.inv J3, .blk 8, .code agl_n12, .blk 7, .code agl_n13, .inv J2, .blk 6, .blk 3, .code agl_n18, .inv J, .blk 2, .code agl_n20] ⟨[(1, .slice B nb bp), (2, .int .i64 AT), (3, .int .i64 NOW), (8, .bool false), (10, (pt cb 0)), (11, .slice (some ⟨g1, 0, none⟩) ln c0), (15, .int .i64 ((tt : Int) + 1)), (21, .slice A48 (List.length ys) c48), (22, .int .i64 (nn : Int)), (23, .bool (o.to == (nn : Int))), (24, .int .i64 ((j : Int) + 1))], [], [⟨g1, 0 + j * 26, [.int .i64 201, .int .i64 o.to]⟩], W61.heap.size⟩ ?_
        refine holds_wins [] (fun _ _ h => by cases h) ?_
        intro a_ w9 hf hm
        exact hJ3 (m4 - 1) _ a_ w9 (by omega) ⟨j + 1, _, by omega, (hP61.keptT hm.kept (turned_tys hm61) rfl rfl), (hO61open.keptT hm.kept (turned_tys hm61) rfl), (hO61late.keptT hm.kept (turned_tys hm61) rfl), by rw [hasB_succ ho, d1, ← cast_succ j]; rfl⟩ hf (MemOk.bck hm61 hm)
    have hjl : j = ln := by omega
    clear hJ3 hmj h5
    refine hgE 23 [oh0, oh0, oh0, oh0, oh0, oh0, oh0] agl_n24 [dF (((j : Int) : Int) < (ln : Int))] [] [.code [1, 1, 1, 1, 1, 1, 1, 1, 0, 1, 0, 0, 1, 0, 0, 1, 1, 1, 1, 1, 0, 0, 1, 0, 0, 1, 1, 1, 0, 1, 0], .blk 10, .code agl_n11, .blk 7, .code agl_n13, .inv J2, .blk 6, .blk 3, .code agl_n18, .inv J, .blk 2, .code agl_n20] ⟨[(1, .slice B nb bp), (2, .int .i64 AT), (3, .int .i64 NOW), (8, .bool false), (10, (pt cb 0)), (11, .slice A0 ln c0), (15, .int .i64 ((tt : Int) + 1)), (21, .slice A48 (List.length ys) c48), (22, .int .i64 (nn : Int)), (23, .bool (hasB L2 nn j)), (25, .bool false), (26, .int .i64 0)], [], [], W61.heap.size⟩ ?_
    obtain ⟨d0, hd0⟩ : ∃ d0, d0 = j := ⟨_, rfl⟩
    subst hd0
    refine holds_loopW (w := w) (S' := fun _ => False) (AgainI5 A0 A48 c0 c48 B nb bp cb ys L2 w NOW AT i0 tt ln nn d0) (List.length ys) (by kernel_rfl) (fun W0 hm => ⟨⟨0, _, by omega, (hP61.keptT hm.kept (turned_tys hm61) rfl rfl), (hO61open.keptT hm.kept (turned_tys hm61) rfl), (hO61late.keptT hm.kept (turned_tys hm61) rfl), by rw [toldB_zero]; rfl⟩, (MemOk.bck hm61 hm)⟩) ?_
    rintro m4 _ W62 ⟨j, z, hmj, hP62, hO62open, hO62late, rfl⟩ hm62 J3 hJ3
    by_cases h5 : j < (List.length ys)
    · skip
      obtain ⟨u, ho⟩ : ∃ o, ys[j]? = some o := ⟨_, List.getElem?_eq_getElem (by omega)⟩
      rcases Bool.eq_false_or_eq_true (toldB ys nn j) with d1 | d1
      · skip
        refine hgE 33 [oh0, oh0, oh0, oh0, oh1, oh0, oh0, oh1, oh1, oh1, oh1, oh1, oh1, oh3, oh0, oh0, oh2, oh0] agl_n24 [dT (((j : Int) : Int) < (((List.length ys) : Nat) : Int)), eD d1, eD d1, eD d1, eD d1, eD d1, eD d1, eD d1, n64 (((j : Int) + 1))] [] [.inv J3, .blk 10, .code agl_n11, .blk 7, .code agl_n13, .inv J2, .blk 6, .blk 3, .code agl_n18, .inv J, .blk 2, .code agl_n20] ⟨[(1, .slice B nb bp), (2, .int .i64 AT), (3, .int .i64 NOW), (8, .bool false), (10, (pt cb 0)), (11, .slice A0 ln c0), (15, .int .i64 ((tt : Int) + 1)), (21, .slice A48 (List.length ys) c48), (22, .int .i64 (nn : Int)), (23, .bool (hasB L2 nn d0)), (25, .bool true), (26, .int .i64 ((j : Int) + 1))], [], [], W62.heap.size⟩ ?_
        intro a_ w9 hf hm
        exact hJ3 (m4 - 1) _ a_ w9 (by omega) ⟨j + 1, _, by omega, (hP62.keptT hm.kept (turned_tys hm62) rfl rfl), (hO62open.keptT hm.kept (turned_tys hm62) rfl), (hO62late.keptT hm.kept (turned_tys hm62) rfl), by rw [toldB_succ ho, d1, ← cast_succ j]; rfl⟩ hf (MemOk.bck hm62 hm)
      · skip
        obtain ⟨g1, hA1, hg1, hc1⟩ := row_own hO62late (xs := [.int .i64 u]) (fun j v hj => ints_get ho hj)
        obtain rfl := hA1
        refine holds_wins [⟨g1, 0 + j * 1, [.int .i64 u]⟩] (fun _ y hy => ?_) ?_
        · simp only [List.mem_cons, List.not_mem_nil, or_false] at hy
          subst hy
          refine ⟨fun ⟨_, hb, _⟩ => (by cases hb), hg1, fun i v hv => hc1 i v ?_⟩
          match i, hv with
          | 0, hv => exact hv
          | i + 1, hv => simp at hv
        refine hgE 33 [oh0, oh0, oh0, oh0, oh1, oh0, oh0, oh0, oh0, oh2, ⟨false, 0, [⟨true, 0, 0, 1⟩]⟩, oh0, oh0, ⟨false, 3, []⟩, oh0, oh0, oh2, oh0] agl_n24 [dT (((j : Int) : Int) < (((List.length ys) : Nat) : Int)), eD d1, eD d1, eD d1, oE ((0 : Int) ≤ (j : Int) ∧ (j : Int) < (((List.length ys) : Nat) : Int)), eD d1, eD d1, eD d1, eD d1, n64 (((j : Int) + 1))] [(g1, 0 + j * 1, 1)] [.inv J3, .blk 10, .code agl_n11, .blk 7, .code agl_n13, .inv J2, .blk 6, .blk 3, .code agl_n18, .inv J, .blk 2, .code agl_n20] ⟨[(1, .slice B nb bp), (2, .int .i64 AT), (3, .int .i64 NOW), (8, .bool false), (10, (pt cb 0)), (11, .slice A0 ln c0), (15, .int .i64 ((tt : Int) + 1)), (21, .slice (some ⟨g1, 0, none⟩) (List.length ys) c48), (22, .int .i64 (nn : Int)), (23, .bool (hasB L2 nn d0)), (25, .bool (u == (nn : Int))), (26, .int .i64 ((j : Int) + 1))], [], [⟨g1, 0 + j * 1, [.int .i64 u]⟩], W62.heap.size⟩ ?_
        refine holds_wins [] (fun _ _ h => by cases h) ?_
        intro a_ w9 hf hm
        exact hJ3 (m4 - 1) _ a_ w9 (by omega) ⟨j + 1, _, by omega, (hP62.keptT hm.kept (turned_tys hm62) rfl rfl), (hO62open.keptT hm.kept (turned_tys hm62) rfl), (hO62late.keptT hm.kept (turned_tys hm62) rfl), by rw [toldB_succ ho, d1, ← cast_succ j]; rfl⟩ hf (MemOk.bck hm62 hm)
    have hjl : j = (List.length ys) := by omega
    clear hJ3 hmj h5
    have hH : hasB L2 nn d0 = true ↔ ∃ o ∈ L2, o.to = (nn : Int) := by rw [show d0 = L2.length by omega]; exact hasB_all
    have hT : toldB ys nn j = true ↔ (nn : Int) ∈ ys := by rw [hjl]; exact toldB_all
    have hfin : toldB ys nn j = (hasB L2 nn d0 && decide ((tt : Int) + 1 ≥ 8)) := by
      rw [Bool.eq_iff_iff, Bool.and_eq_true, decide_eq_true_eq, hH, hT, hlate.1]
      constructor
      · rintro ⟨o, h6, h7, h8⟩
        have h9 := (hL2s o h6).1
        exact ⟨⟨o, h6, h8⟩, by omega⟩
      · rintro ⟨⟨o, h6, h8⟩, h7⟩
        have h9 := (hL2s o h6).1
        exact ⟨o, h6, by omega, h8⟩
    rcases Bool.eq_false_or_eq_true (hasB L2 nn d0) with d2 | d2
    · skip
      refine hgE 31 [oh0, oh0, oh0, oh0, oh0, oh0, oh0, oh0, oh1, oh1, oh3, oh0, oh0, oh0, oh2, oh0] agl_n25 [dF (((j : Int) : Int) < (((List.length ys) : Nat) : Int)), eD d2, eD d2, eD d2, oE ((!((toldB ys nn j) == (decide ((((tt : Int) + 1) : Int) ≥ 8)))) = false) (by rw [show ((toldB ys nn j) == (decide ((((tt : Int) + 1) : Int) ≥ 8))) = true from (by rw [hfin, d2]; simp)]; rfl), n64 (((nn : Int) + 1))] [] [.inv J2, .blk 6, .blk 3, .code agl_n18, .inv J, .blk 2, .code agl_n20] ⟨[(1, .slice B nb bp), (2, .int .i64 AT), (3, .int .i64 NOW), (8, .bool false), (10, (pt cb 0)), (11, .slice A0 ln c0), (15, .int .i64 ((tt : Int) + 1)), (21, .slice A48 (List.length ys) c48), (22, .int .i64 ((nn : Int) + 1))], [], [], W62.heap.size⟩ ?_
      intro a_ w9 hf hm
      exact hJ2 (m3 - 1) _ a_ w9 (by omega) ⟨nn + 1, _, by omega, (hP62.keptT hm.kept (turned_tys hm62) rfl rfl), (hO62open.keptT hm.kept (turned_tys hm62) rfl), (hO62late.keptT hm.kept (turned_tys hm62) rfl), by rw [← cast_succ nn]⟩ hf (MemOk.bck hm62 hm)
    · skip
      refine hgE 31 [oh0, oh0, oh0, oh0, oh0, oh0, oh0, oh0, oh0, oh0, ⟨false, 3, []⟩, oh0, oh0, oh0, oh2, oh0] agl_n25 [dF (((j : Int) : Int) < (((List.length ys) : Nat) : Int)), eD d2, eD d2, eD d2, oE ((!((toldB ys nn j) == false)) = false) (by rw [show ((toldB ys nn j) == false) = true from (by rw [hfin, d2]; simp)]; rfl), n64 (((nn : Int) + 1))] [] [.inv J2, .blk 6, .blk 3, .code agl_n18, .inv J, .blk 2, .code agl_n20] ⟨[(1, .slice B nb bp), (2, .int .i64 AT), (3, .int .i64 NOW), (8, .bool false), (10, (pt cb 0)), (11, .slice A0 ln c0), (15, .int .i64 ((tt : Int) + 1)), (21, .slice A48 (List.length ys) c48), (22, .int .i64 ((nn : Int) + 1))], [], [], W62.heap.size⟩ ?_
      intro a_ w9 hf hm
      exact hJ2 (m3 - 1) _ a_ w9 (by omega) ⟨nn + 1, _, by omega, (hP62.keptT hm.kept (turned_tys hm62) rfl rfl), (hO62open.keptT hm.kept (turned_tys hm62) rfl), (hO62late.keptT hm.kept (turned_tys hm62) rfl), by rw [← cast_succ nn]⟩ hf (MemOk.bck hm62 hm)
  rcases Bool.eq_false_or_eq_true (((tt : Int) + 1) == AT) with d0 | d0
  rotate_left
  · skip
    refine hgE 24 [oh0, oh0, oh1, oh0, oh0, oh0, oh0] [1, 2, 3, 8, 10, 11, 15] [dT ((((tt : Int) + 1) : Int) ≤ 20), eD d0] [] [.ops agl_n7 [0, 1, 2, 3, 4, 5], .code agl_n16, .blk 3, .code agl_n18, .inv J, .blk 2, .code agl_n20] ⟨[(1, .slice B nb bp), (2, .int .i64 AT), (3, .int .i64 NOW), (8, .bool false), (10, (pt cb 0)), (11, .slice A0 ln c0), (15, .int .i64 ((tt : Int) + 1))], [], [], W45.heap.size⟩ ?_
    refine holds_gnd (fun W46 hm => ?_)
    exact HX L ln A0 c0 W46 ⟨hLl, hln8, hLp, hL⟩ ⟨(hP45.keptT hm.kept (turned_tys hm45) rfl rfl), (hO45open.keptT hm.kept (turned_tys hm45) rfl)⟩ (MemOk.bck hm45 hm)
  refine hgE 31 [oh0, oh0, oh1, oh0, oh0, oh0, oh1, oh0, oh0] agl_n22 [dT ((((tt : Int) + 1) : Int) ≤ 20), eD d0] [] [.code [1, 1, 1, 1, 1, 1, 1, 1, 0, 1, 0, 0, 1, 0, 0, 0, 1, 0, 1, 0, 1, 0], .blk 4, .code agl_n6, .code agl_n17, .blk 3, .code agl_n18, .inv J, .blk 2, .code agl_n20] ⟨[(1, .slice B nb bp), (2, .int .i64 AT), (3, .int .i64 NOW), (8, .bool false), (10, (pt cb 0)), (11, .slice A0 ln c0), (15, .int .i64 ((tt : Int) + 1)), (16, .slice none 0 0), (17, .int .i64 0)], [], [], W45.heap.size⟩ ?_
  refine holds_loopW (w := w) (S' := fun _ => False) (AgainI6 A0 c0 B nb bp cb L w NOW AT i0 tt ln) ln (by kernel_rfl) (fun W0 hm => ⟨⟨0, [], 0, none, 0, _, rfl, rfl, Nat.le_refl _, List.nil_sublist _, (hP45.keptT hm.kept (turned_tys hm45) rfl rfl), (hO45open.keptT hm.kept (turned_tys hm45) rfl), OwnR.nil _ _ _ _, (fun y _ h => (by obtain ⟨a, ha, _⟩ := h; cases ha)), rfl⟩, (MemOk.bck hm45 hm)⟩) ?_
  rintro m5 _ W70 ⟨i, Kp, kn, A1, c1, z, hmi, hKl, hKi, hKs, hP70, hO70open, hO70rest, hA70openrest, rfl⟩ hm70 J2 hJ2
  by_cases h6 : i < ln
  rotate_left
  · skip
    have hdl : L.drop i = [] := List.drop_eq_nil_of_le (by omega)
    have hKn : Kp.Sublist L := hKs.trans (List.take_sublist _ _)
    rw [hdl, List.append_nil] at hP70
    refine hgE 19 [oh0, oh0, oh0, oh0, oh0, oh0, oh0] [1, 2, 3, 8, 10, 11, 15] [dF (((i : Int) : Int) < (ln : Int))] [] [.ops agl_n7 [0, 1, 2, 3, 4, 5], .code agl_n16, .blk 3, .code agl_n18, .inv J, .blk 2, .code agl_n20] ⟨[(1, .slice B nb bp), (2, .int .i64 AT), (3, .int .i64 NOW), (8, .bool false), (10, (pt cb 0)), (11, .slice A1 kn c1), (15, .int .i64 ((tt : Int) + 1))], [], [], W70.heap.size⟩ ?_
    refine holds_gnd (fun W46 hm => ?_)
    exact HX Kp kn A1 c1 W46 ⟨hKl, by omega, hLp.sublist hKn, fun o ho => hL o (hKn.subset ho)⟩ ⟨(hP70.keptT hm.kept (turned_tys hm70) rfl rfl), (hO70rest.keptT hm.kept (turned_tys hm70) rfl)⟩ (MemOk.bck hm70 hm)
  obtain ⟨o, ho⟩ : ∃ o, L[i]? = some o := ⟨_, List.getElem?_eq_getElem (by omega)⟩
  have hdr : L.drop i = o :: L.drop (i + 1) := by
    have h7 := List.drop_eq_getElem_cons (l := L) (i := i) (by omega)
    rw [h7]
    have h8 := (List.getElem?_eq_some_iff.1 ho).2
    rw [h8]
  have htk : L.take (i + 1) = L.take i ++ [o] := by rw [List.take_add_one, ho]; rfl
  have hKid : ∀ o' ∈ Kp, o'.id ≠ o.id := fun o' ho' => by
    have h7 : (L.take i ++ o :: L.drop (i + 1)).Pairwise (fun a b => a.id < b.id) := by rw [← hdr, List.take_append_drop]; exact hLp
    have h8 := (List.pairwise_append.1 h7).2.2 o' (hKs.subset ho') o (by simp)
    omega
  obtain ⟨g1, hA1, hg1, hc1⟩ := row_own hO70open (xs := letC 201 o) (fun j v hj => letters_get ho hj)
  subst hA1
  by_cases h7 : i < nb
  rotate_left
  · skip
    refine holds_wins [⟨g1, 0 + i * 26, letC 201 o⟩] (fun _ y hy => ?_) ?_
    · simp only [List.mem_cons, List.not_mem_nil, or_false] at hy
      subst hy
      exact ⟨fun ⟨_, hb, _⟩ => (by cases hb), hg1, hc1⟩
    refine hgE 38 [oh0, oh0, oh0, oh0, oh1, oh0, oh0, oh0, oh0, oh0, oh0, oh0, oh0, oh0, oh0, oh0, ⟨false, 3, []⟩, oh0, oh0, oh0, oh0, oh2, ⟨false, 0, [⟨true, 0, 0, 26⟩]⟩, oh0] [1, 2, 3, 8, 10, 11, 15, 16, 17, 110, 115] [dT (((i : Int) : Int) < (ln : Int)), dF (((i : Int) : Int) < (nb : Int)), dF (((i : Int) : Int) < (nb : Int)), dF (((i : Int) : Int) < (nb : Int)), dF (((i : Int) : Int) < (nb : Int)), dF (((i : Int) : Int) < (nb : Int)), dF (((i : Int) : Int) < (nb : Int)), dF (((i : Int) : Int) < (nb : Int)), fF, oE ((0 : Int) ≤ (i : Int) ∧ (i : Int) < ((ln : Nat) : Int))] [(g1, 0 + i * 26, 26)] [.ops agl_n4 [6, 7], .blk 5, .code agl_n5, .inv J2, .blk 4, .code agl_n6, .code agl_n17, .blk 3, .code agl_n18, .inv J, .blk 2, .code agl_n20] ⟨[(1, .slice B nb bp), (2, .int .i64 AT), (3, .int .i64 NOW), (8, .bool false), (10, (pt cb 0)), (11, .slice (some ⟨g1, 0, none⟩) ln c0), (15, .int .i64 ((tt : Int) + 1)), (16, .slice A1 kn c1), (17, .int .i64 (i : Int)), (110, .slice A1 kn c1), (115, .slice (some ⟨W70.heap.size, 0, none⟩) 1 1)], [⟨W70.heap.size, 37, true, (agl_v1 o)⟩], [⟨g1, 0 + i * 26, (agl_v1 o)⟩], W70.heap.size + 1⟩ ?_
    refine holds_opV (w := w) (S' := (fun _ => False)) (Y := Option Addr × Nat) (dst := (some 116)) (x := Builtin.append_ #[27, 27] 27 #[.slice A1 kn c1, .slice (some ⟨W70.heap.size, 0, none⟩) 1 1]) (fun yq => .slice yq.1 (kn + 1) yq.2) [] (fun yq W_ => PartyAt 59 61 W_ w.heap.size cb (⟨201, 5 + (i0 : Int), Kp ++ L.drop i⟩) ∧ OwnR W_ w.heap.size 37 26 (some ⟨g1, 0, none⟩) ln c0 (lettersC 201 L) ∧ OwnR W_ w.heap.size 37 26 yq.1 (kn + 1) yq.2 (lettersC 201 (Kp ++ [o])) ∧ (∀ yy, ownS (some ⟨g1, 0, none⟩) yy → ¬ ownS yq.1 yy)) (fun yq => [(116, .slice yq.1 (kn + 1) yq.2), (1, .slice B nb bp), (2, .int .i64 AT), (3, .int .i64 NOW), (8, .bool false), (10, (pt cb 0)), (11, .slice (some ⟨g1, 0, none⟩) ln c0), (15, .int .i64 ((tt : Int) + 1)), (16, .slice A1 kn c1), (17, .int .i64 (i : Int)), (110, .slice A1 kn c1), (115, .slice (some ⟨W70.heap.size, 0, none⟩) 1 1)]) (by kernel_rfl) (by kernel_rfl) (fun _ => rfl) (fun wx hm => ?_) (fun yq W71 hX71 hm71 => ?_)
    · have hO_ := (hO70rest.keptT hm.kept (turned_tys hm70) rfl)
      have hm0 := (MemOk.bck hm70 hm)
      obtain ⟨A', cp', w', h1, h2, h3, h4⟩ := run_appendR (P := Try.prog) wx w.heap.size 27 27 37 (.agg (List.toArray (agl_v7))) 26 232 A1 kn c1 (lettersC 201 Kp) ⟨W70.heap.size, 0, none⟩ 1 1 (agl_v1 o) (by kernel_rfl) (by kernel_rfl) (by kernel_rfl) (by decide) hO_ rfl (fun j x hj => by rw [add_norm, Nat.zero_add]; exact (hm.at_ 0 rfl).at_ hj) (ones_all (by kernel_rfl)) (by omega) (by decide) hm0.kept.size
      rw [show (agl_v1 o) = letC 201 o from rfl, lettersC_snoc] at h2
      exact ⟨(A', cp'), w', h1, ⟨((hP70.keptT hm.kept (turned_tys hm70) rfl rfl).keptT (es := [37]) h3 (own_tys hO_) rfl rfl), ((hO70open.keptT hm.kept (turned_tys hm70) rfl).kept h3 (fun y hy hy' => hA70openrest y hy hy')), h2, (fun y hy hy' => (h4 y hy').elim (fun h => hA70openrest y hy h) (fun h => absurd ((hO70open.keptT hm.kept (turned_tys hm70) rfl).own y hy).2 (Nat.not_lt.2 h)))⟩, (hm0.sub (bk' := []) (by simp)).offA (fun _ h => h) h3 (fun y hy => .inr (hO_.own y hy).1) (off_tys (hm0.sub (bk' := []) (by simp)) (own_tys hO_) rfl)⟩
    obtain ⟨A71, c71⟩ := yq
    obtain ⟨hP71, hO71open, hO71rest, hA71openrest⟩ := hX71
    refine hgE 11 [oh0, oh0, oh2, oh0] agl_n22 [n64 (((i : Int) + 1))] [] [.inv J2, .blk 4, .code agl_n6, .code agl_n17, .blk 3, .code agl_n18, .inv J, .blk 2, .code agl_n20] ⟨[(1, .slice B nb bp), (2, .int .i64 AT), (3, .int .i64 NOW), (8, .bool false), (10, (pt cb 0)), (11, .slice (some ⟨g1, 0, none⟩) ln c0), (15, .int .i64 ((tt : Int) + 1)), (16, .slice A71 (kn + 1) c71), (17, .int .i64 ((i : Int) + 1))], [], [], W71.heap.size⟩ ?_
    intro a_ w9 hf hm
    exact hJ2 (m5 - 1) _ a_ w9 (by omega) ⟨i + 1, Kp ++ [o], kn + 1, A71, c71, _, by omega, by rw [List.length_append, hKl]; rfl, by omega, by rw [htk]; exact hKs.append (List.Sublist.refl _), (by have h7 := (hP71.keptT hm.kept (turned_tys hm71) rfl rfl); rw [hdr] at h7; rw [List.append_assoc]; exact h7), (hO71open.keptT hm.kept (turned_tys hm71) rfl), (hO71rest.keptT hm.kept (turned_tys hm71) rfl), hA71openrest, by rw [← cast_succ i]⟩ hf (MemOk.bck hm71 hm)
  obtain ⟨hok, b1, o1, hB1, hb1lt, hb1c⟩ := HB i h7
  subst hB1
  obtain ⟨p, hp⟩ : ∃ p, pickZ (numb i).v 2 = p := ⟨_, rfl⟩
  refine holds_wins [⟨b1, o1 + i * 1, [.int .i64 ((numb i).v)]⟩] (fun _ y hy => ?_) ?_
  · simp only [List.mem_cons, List.not_mem_nil, or_false] at hy
    subst hy
    exact ⟨fun h => absurd (turned_new hm70 h) (Nat.not_le.2 hb1lt), Nat.lt_of_lt_of_le hb1lt hm70.kept.size, fun j v hj => num_cell hm70.kept hb1lt hb1c hj⟩
  refine hgE 26 [oh0, oh0, oh0, oh0, oh1, oh0, oh0, oh0, oh0, oh0, oh1, oh1, ⟨true, 1, []⟩, ⟨true, 0, [⟨true, 0, 0, 1⟩]⟩] [1, 2, 3, 8, 10, 11, 15, 16, 17, 84, 88] [dT (((i : Int) : Int) < (ln : Int)), dT (((i : Int) : Int) < (nb : Int)), dT (((i : Int) : Int) < (nb : Int)), dT (((i : Int) : Int) < (nb : Int)), oE ((0 : Int) ≤ (i : Int) ∧ (i : Int) < ((nb : Nat) : Int)), dT (((i : Int) : Int) < (nb : Int))] [(b1, o1 + i * 1, 1)] [.ops [1, 1, 1, 1, 1, 1, 1, 1, 0, 1, 0, 0, 1, 0, 0, 0, 1, 0, 1, 0, 1, 0, 0, 1, 0, 0, 0] [9, 10, 11], .code [1, 1, 1, 1, 1, 1, 1, 1, 0, 1, 0, 0, 1, 0, 0, 0, 1, 0, 1, 0, 1, 0, 0, 1, 0, 0, 1], .blk 5, .code agl_n5, .inv J2, .blk 4, .code agl_n6, .code agl_n17, .blk 3, .code agl_n18, .inv J, .blk 2, .code agl_n20] ⟨[(1, .slice (some ⟨b1, o1, none⟩) nb bp), (2, .int .i64 AT), (3, .int .i64 NOW), (8, .bool false), (10, (pt cb 0)), (11, .slice (some ⟨g1, 0, none⟩) ln c0), (15, .int .i64 ((tt : Int) + 1)), (16, .slice A1 kn c1), (17, .int .i64 (i : Int)), (84, .bool (decide (((i : Int) : Int) < (nb : Int)))), (88, .int .i64 ((numb i).v))], [], [⟨b1, o1 + i * 1, [.int .i64 ((numb i).v)]⟩], W70.heap.size⟩ ?_
  refine hcp (.int .i64 p) 8 [.int .i64 ((numb i).v), .int .i64 2] (some 89) [(decide (((i : Int) : Int) < (nb : Int))) = true] ⟨decide_eq_true (by omega), trivial⟩ rfl (fun wx hm => pick14 _ _ _ hp wx (by omega) (by omega) hok.v) fun z46 hz46 => ?_
  replace hz46 : W70.heap.size ≤ z46 := hz46
  refine holds_wins [] (fun _ _ h => by cases h) ?_
  rcases Bool.eq_false_or_eq_true (p == 1) with d1 | d1
  rotate_left
  · skip
    refine holds_wins [⟨g1, 0 + i * 26, letC 201 o⟩] (fun _ y hy => ?_) ?_
    · simp only [List.mem_cons, List.not_mem_nil, or_false] at hy
      subst hy
      exact ⟨fun ⟨_, hb, _⟩ => (by cases hb), hg1, hc1⟩
    refine hgE 14 [oh1, oh3, oh0, oh0, oh0, oh0, oh2, ⟨false, 0, [⟨true, 0, 0, 26⟩]⟩, oh0] [1, 2, 3, 8, 10, 11, 15, 16, 17, 110, 115] [dT (((i : Int) : Int) < (nb : Int)), dT (((i : Int) : Int) < (nb : Int)), eD d1, oE ((0 : Int) ≤ (i : Int) ∧ (i : Int) < ((ln : Nat) : Int))] [(g1, 0 + i * 26, 26)] [.ops agl_n4 [6, 7], .blk 5, .code agl_n5, .inv J2, .blk 4, .code agl_n6, .code agl_n17, .blk 3, .code agl_n18, .inv J, .blk 2, .code agl_n20] ⟨[(1, .slice (some ⟨b1, o1, none⟩) nb bp), (2, .int .i64 AT), (3, .int .i64 NOW), (8, .bool false), (10, (pt cb 0)), (11, .slice (some ⟨g1, 0, none⟩) ln c0), (15, .int .i64 ((tt : Int) + 1)), (16, .slice A1 kn c1), (17, .int .i64 (i : Int)), (110, .slice A1 kn c1), (115, .slice (some ⟨z46, 0, none⟩) 1 1)], [⟨z46, 37, true, (agl_v1 o)⟩], [⟨g1, 0 + i * 26, (agl_v1 o)⟩], z46 + 1⟩ ?_
    refine holds_opV (w := w) (S' := (fun _ => False)) (Y := Option Addr × Nat) (dst := (some 116)) (x := Builtin.append_ #[27, 27] 27 #[.slice A1 kn c1, .slice (some ⟨z46, 0, none⟩) 1 1]) (fun yq => .slice yq.1 (kn + 1) yq.2) [] (fun yq W_ => PartyAt 59 61 W_ w.heap.size cb (⟨201, 5 + (i0 : Int), Kp ++ L.drop i⟩) ∧ OwnR W_ w.heap.size 37 26 (some ⟨g1, 0, none⟩) ln c0 (lettersC 201 L) ∧ OwnR W_ w.heap.size 37 26 yq.1 (kn + 1) yq.2 (lettersC 201 (Kp ++ [o])) ∧ (∀ yy, ownS (some ⟨g1, 0, none⟩) yy → ¬ ownS yq.1 yy)) (fun yq => [(116, .slice yq.1 (kn + 1) yq.2), (1, .slice (some ⟨b1, o1, none⟩) nb bp), (2, .int .i64 AT), (3, .int .i64 NOW), (8, .bool false), (10, (pt cb 0)), (11, .slice (some ⟨g1, 0, none⟩) ln c0), (15, .int .i64 ((tt : Int) + 1)), (16, .slice A1 kn c1), (17, .int .i64 (i : Int)), (110, .slice A1 kn c1), (115, .slice (some ⟨z46, 0, none⟩) 1 1)]) (by kernel_rfl) (by kernel_rfl) (fun _ => rfl) (fun wx hm => ?_) (fun yq W71 hX71 hm71 => ?_)
    · have hO_ := (hO70rest.keptT hm.kept (turned_tys hm70) rfl)
      have hm0 := (MemOk.bck hm70 hm)
      obtain ⟨A', cp', w', h1, h2, h3, h4⟩ := run_appendR (P := Try.prog) wx w.heap.size 27 27 37 (.agg (List.toArray (agl_v7))) 26 232 A1 kn c1 (lettersC 201 Kp) ⟨z46, 0, none⟩ 1 1 (agl_v1 o) (by kernel_rfl) (by kernel_rfl) (by kernel_rfl) (by decide) hO_ rfl (fun j x hj => by rw [add_norm, Nat.zero_add]; exact (hm.at_ 0 rfl).at_ hj) (ones_all (by kernel_rfl)) (by omega) (by decide) hm0.kept.size
      rw [show (agl_v1 o) = letC 201 o from rfl, lettersC_snoc] at h2
      exact ⟨(A', cp'), w', h1, ⟨((hP70.keptT hm.kept (turned_tys hm70) rfl rfl).keptT (es := [37]) h3 (own_tys hO_) rfl rfl), ((hO70open.keptT hm.kept (turned_tys hm70) rfl).kept h3 (fun y hy hy' => hA70openrest y hy hy')), h2, (fun y hy hy' => (h4 y hy').elim (fun h => hA70openrest y hy h) (fun h => absurd ((hO70open.keptT hm.kept (turned_tys hm70) rfl).own y hy).2 (Nat.not_lt.2 h)))⟩, (hm0.sub (bk' := []) (by simp)).offA (fun _ h => h) h3 (fun y hy => .inr (hO_.own y hy).1) (off_tys (hm0.sub (bk' := []) (by simp)) (own_tys hO_) rfl)⟩
    obtain ⟨A71, c71⟩ := yq
    obtain ⟨hP71, hO71open, hO71rest, hA71openrest⟩ := hX71
    refine hgE 11 [oh0, oh0, oh2, oh0] agl_n22 [n64 (((i : Int) + 1))] [] [.inv J2, .blk 4, .code agl_n6, .code agl_n17, .blk 3, .code agl_n18, .inv J, .blk 2, .code agl_n20] ⟨[(1, .slice (some ⟨b1, o1, none⟩) nb bp), (2, .int .i64 AT), (3, .int .i64 NOW), (8, .bool false), (10, (pt cb 0)), (11, .slice (some ⟨g1, 0, none⟩) ln c0), (15, .int .i64 ((tt : Int) + 1)), (16, .slice A71 (kn + 1) c71), (17, .int .i64 ((i : Int) + 1))], [], [], W71.heap.size⟩ ?_
    intro a_ w9 hf hm
    exact hJ2 (m5 - 1) _ a_ w9 (by omega) ⟨i + 1, Kp ++ [o], kn + 1, A71, c71, _, by omega, by rw [List.length_append, hKl]; rfl, by omega, by rw [htk]; exact hKs.append (List.Sublist.refl _), (by have h7 := (hP71.keptT hm.kept (turned_tys hm71) rfl rfl); rw [hdr] at h7; rw [List.append_assoc]; exact h7), (hO71open.keptT hm.kept (turned_tys hm71) rfl), (hO71rest.keptT hm.kept (turned_tys hm71) rfl), hA71openrest, by rw [← cast_succ i]⟩ hf (MemOk.bck hm71 hm)
  · skip
    refine holds_wins [⟨g1, 0 + i * 26, letC 201 o⟩] (fun _ y hy => ?_) ?_
    · simp only [List.mem_cons, List.not_mem_nil, or_false] at hy
      subst hy
      exact ⟨fun ⟨_, hb, _⟩ => (by cases hb), hg1, hc1⟩
    refine hgE 8 [oh1, oh3, oh1] agl_n22 [dT (((i : Int) : Int) < (nb : Int)), dT (((i : Int) : Int) < (nb : Int)), eD d1] [] [.code agl_n2, .code agl_n3, .blk 5, .code agl_n5, .inv J2, .blk 4, .code agl_n6, .code agl_n17, .blk 3, .code agl_n18, .inv J, .blk 2, .code agl_n20] ⟨[(1, .slice (some ⟨b1, o1, none⟩) nb bp), (2, .int .i64 AT), (3, .int .i64 NOW), (8, .bool false), (10, (pt cb 0)), (11, .slice (some ⟨g1, 0, none⟩) ln c0), (15, .int .i64 ((tt : Int) + 1)), (16, .slice A1 kn c1), (17, .int .i64 (i : Int))], [], [⟨g1, 0 + i * 26, (agl_v1 o)⟩], z46⟩ ?_
    have HZ51 : ∀ (W72 : World) (g51 : Nat), (PartyAt 59 61 W72 w.heap.size cb (⟨201, 5 + (i0 : Int), Kp ++ L.drop (i + 1)⟩) ∧ OwnR W72 w.heap.size 37 26 (some ⟨g1, 0, none⟩) ln c0 (lettersC 201 L) ∧ OwnR W72 w.heap.size 37 26 A1 kn c1 (lettersC 201 Kp) ∧ (∀ yy, ownS (some ⟨g1, 0, none⟩) yy → ¬ ownS A1 yy)) → MemOk w (fun _ => False) [⟨g51, 31, true, (agl_v3 o)⟩] [] W72.heap.size W72 → Holds [] Try.prog (bodyOf Try.f3) 189 W72 (Turned [⟨g51, 31, true, (agl_v3 o)⟩]) (agl_Q w) [.code agl_n3, .blk 5, .code agl_n5, .inv J2, .blk 4, .code agl_n6, .code agl_n17, .blk 3, .code agl_n18, .inv J, .blk 2, .code agl_n20] ⟨[(1, .slice (some ⟨b1, o1, none⟩) nb bp), (2, .int .i64 AT), (3, .int .i64 NOW), (8, .bool false), (10, (pt cb 0)), (11, .slice (some ⟨g1, 0, none⟩) ln c0), (15, .int .i64 ((tt : Int) + 1)), (16, .slice A1 kn c1), (17, .int .i64 (i : Int)), (19, .bool true)], [⟨g51, 31, true, (agl_v3 o)⟩], [], W72.heap.size⟩ := by
      intro W72 g51 hX72 hm72
      obtain ⟨hP72, hO72open, hO72rest, hA72openrest⟩ := hX72
      refine holds_go (f := 16) (hs := [oh0, oh0, oh0, oh0, oh2, oh0]) agl_n22 [false] (show _ = some (Res.mk [false = false, inR .i64 (((i : Int) + 1))] (dupR []) [.inv J2, .blk 4, .code agl_n6, .code agl_n17, .blk 3, .code agl_n18, .inv J, .blk 2, .code agl_n20] ⟨[(1, .slice (some ⟨b1, o1, none⟩) nb bp), (2, .int .i64 AT), (3, .int .i64 NOW), (8, .bool false), (10, (pt cb 0)), (11, .slice (some ⟨g1, 0, none⟩) ln c0), (15, .int .i64 ((tt : Int) + 1)), (16, .slice A1 kn c1), (17, .int .i64 ((i : Int) + 1))], [], [], W72.heap.size⟩) by kernel_rfl) ⟨rfl, in64 (by omega), trivial⟩ ?_
      intro a_ w9 hf hm
      exact hJ2 (m5 - 1) _ a_ w9 (by omega) ⟨i + 1, Kp, kn, A1, c1, _, by omega, hKl, by omega, by rw [htk]; exact hKs.trans (List.sublist_append_left _ _), (hP72.keptT hm.kept (turned_tys hm72) rfl rfl), (hO72open.keptT hm.kept (turned_tys hm72) rfl), (hO72rest.keptT hm.kept (turned_tys hm72) rfl), hA72openrest, by rw [← cast_succ i]⟩ hf (MemOk.bck hm72 hm)
    have H1 : ∀ (g51 y51 : Nat), z46 ≤ g51 → z46 ≤ y51 → Holds [] Try.prog (bodyOf Try.f3) 189 W70 (Turned []) (agl_Q w) (.any agl_n2 6 agl_n26 :: [.code agl_n3, .blk 5, .code agl_n5, .inv J2, .blk 4, .code agl_n6, .code agl_n17, .blk 3, .code agl_n18, .inv J, .blk 2, .code agl_n20]) ⟨[(18, (pt g51 0)), (1, .slice (some ⟨b1, o1, none⟩) nb bp), (2, .int .i64 AT), (3, .int .i64 NOW), (8, .bool false), (10, (pt cb 0)), (11, .slice (some ⟨g1, 0, none⟩) ln c0), (15, .int .i64 ((tt : Int) + 1)), (16, .slice A1 kn c1), (17, .int .i64 (i : Int)), (93, (pt cb 0)), (104, .agg (List.toArray (agl_v2 o)))], [⟨g51, 31, true, (agl_v4)⟩], [⟨g1, 0 + i * 26, (agl_v1 o)⟩], y51⟩ := by
      intro g51 y51 hg51 hy51
      refine holds_callAnyU (i := 12) (ls' := agl_n28) (w := w) (S' := fun _ => False) (Y := Unit) (fun _ => .tuple #[.agg (List.toArray (agl_v3 o)), .bool true]) (fun _ => [⟨g51, 31, true, (agl_v4)⟩]) (fun _ W_ => PartyAt 59 61 W_ w.heap.size cb (⟨201, 5 + (i0 : Int), Kp ++ L.drop (i + 1)⟩) ∧ OwnR W_ w.heap.size 37 26 (some ⟨g1, 0, none⟩) ln c0 (lettersC 201 L) ∧ OwnR W_ w.heap.size 37 26 A1 kn c1 (lettersC 201 Kp) ∧ (∀ yy, ownS (some ⟨g1, 0, none⟩) yy → ¬ ownS A1 yy)) (fun _ => [(105, .tuple #[.agg (List.toArray (agl_v3 o)), .bool true]), (18, (pt g51 0)), (1, .slice (some ⟨b1, o1, none⟩) nb bp), (2, .int .i64 AT), (3, .int .i64 NOW), (8, .bool false), (10, (pt cb 0)), (11, .slice (some ⟨g1, 0, none⟩) ln c0), (15, .int .i64 ((tt : Int) + 1)), (16, .slice A1 kn c1), (17, .int .i64 (i : Int)), (93, (pt cb 0)), (104, .agg (List.toArray (agl_v2 o)))]) (by kernel_rfl) (by kernel_rfl) (show _ = some (10, [(pt cb 0), .agg (List.toArray (agl_v2 o))], some 105, []) by kernel_rfl) trivial (fun _ => rfl) (fun wx hm => ?_) (fun _ W71 hXc hmc => ?_)
      · have hm0 := (MemOk.bck hm70 hm)
        refine (hit_party (Kp := Kp) (R := L.drop (i + 1)) (o := o) (hP70.keptT hm.kept (turned_tys hm70) rfl rfl) (by show Kp ++ L.drop i = _; rw [hdr]) hKid).mono fun e w' hq => ?_
        obtain ⟨he, hp, hk⟩ := hq
        exact ⟨(), he, ⟨hp, ((hO70open.keptT hm.kept (turned_tys hm70) rfl).keptT (es := [59, 61]) hk (fun _ h => h.2) rfl), ((hO70rest.keptT hm.kept (turned_tys hm70) rfl).keptT (es := [59, 61]) hk (fun _ h => h.2) rfl), hA70openrest⟩, hm0.offA (fun _ h => h) hk (fun y h => .inr h.1) (off_tys hm (es := [59, 61]) (fun _ h => h.2) rfl)⟩
      refine holds_tail panicOk_body _ _ (agl_t53 A1 c0 c1 nb bp cb i o W71 b1 o1 NOW AT tt ln kn g1 g51) trivial ?_
      refine holds_done (by kernel_rfl) ?_
      obtain ⟨hP71, hO71open, hO71rest, hA71openrest⟩ := hXc
      refine holds_gnd (fun Wq hm => ?_)
      exact HZ51 Wq _ ⟨(hP71.keptT hm.kept (turned_tys hmc) rfl rfl), (hO71open.keptT hm.kept (turned_tys hmc) rfl), (hO71rest.keptT hm.kept (turned_tys hmc) rfl), hA71openrest⟩ (MemOk.bck hmc hm)
    refine holds_float (fl := 16) (t := 31) (d := 18) (cs := (agl_v4)) (ls0 := #[true, true, true, true, true, true, true, true, true, true, true, true, false, false, false, false, false, false, false]) (ls1 := agl_n26) (f := 6) 12 _ _ (by kernel_rfl) (by kernel_rfl) (by kernel_rfl) (by kernel_rfl) (by decide) (by kernel_rfl) (by kernel_rfl) (by kernel_rfl) (agl_q51 A1 c0 c1 nb bp cb i o W70 b1 o1 NOW AT tt ln kn g1 z46) ⟨⟨by omega, by omega⟩, ⟨by omega, by omega⟩, trivial⟩ H1 ?_
    intro y51 hy51
    replace hy51 : z46 ≤ y51 := hy51
    refine holds_fork (i := 12) (j := 16) (by kernel_rfl) (edge_callU (i := 12) (w := w) (S' := fun _ => False) (ls' := agl_n27) (.tuple #[.agg (List.toArray (agl_v3 o)), .bool true]) [105, 1, 2, 3, 8, 10, 11, 15, 16, 17, 93, 104] (fun W_ => PartyAt 59 61 W_ w.heap.size cb (⟨201, 5 + (i0 : Int), Kp ++ L.drop (i + 1)⟩) ∧ OwnR W_ w.heap.size 37 26 (some ⟨g1, 0, none⟩) ln c0 (lettersC 201 L) ∧ OwnR W_ w.heap.size 37 26 A1 kn c1 (lettersC 201 Kp) ∧ (∀ yy, ownS (some ⟨g1, 0, none⟩) yy → ¬ ownS A1 yy)) (by kernel_rfl) (show _ = some (10, [(pt cb 0), .agg (List.toArray (agl_v2 o))], some 105, []) by kernel_rfl) trivial rfl rfl (fun wx hm => ?_) (fun W71 hXc hmc => ?_)) (lsj := agl_n26) (by kernel_rfl) (agl_f55 A1 c0 c1 nb bp cb i o b1 o1 NOW AT tt ln kn g1 y51) trivial (H1 _ _ (by omega) (by omega))
    · have hm0 := (MemOk.bck hm70 hm)
      refine (hit_party (Kp := Kp) (R := L.drop (i + 1)) (o := o) (hP70.keptT hm.kept (turned_tys hm70) rfl rfl) (by show Kp ++ L.drop i = _; rw [hdr]) hKid).mono fun e w' hq => ?_
      obtain ⟨he, hp, hk⟩ := hq
      exact ⟨he, ⟨hp, ((hO70open.keptT hm.kept (turned_tys hm70) rfl).keptT (es := [59, 61]) hk (fun _ h => h.2) rfl), ((hO70rest.keptT hm.kept (turned_tys hm70) rfl).keptT (es := [59, 61]) hk (fun _ h => h.2) rfl), hA70openrest⟩, hm0.offA (fun _ h => h) hk (fun y h => .inr h.1) (off_tys hm (es := [59, 61]) (fun _ h => h.2) rfl)⟩
    refine holds_tail panicOk_body _ _ (agl_t56 A1 c0 c1 nb bp cb i o W71 b1 o1 NOW AT tt ln kn g1) trivial ?_
    refine holds_done (by kernel_rfl) ?_
    obtain ⟨hP71, hO71open, hO71rest, hA71openrest⟩ := hXc
    refine holds_gnd (fun Wq hm => ?_)
    exact HZ51 Wq _ ⟨(hP71.keptT hm.kept (turned_tys hmc) rfl rfl), (hO71open.keptT hm.kept (turned_tys hmc) rfl), (hO71rest.keptT hm.kept (turned_tys hmc) rfl), hA71openrest⟩ (MemOk.bck hmc hm)

end Go.Proofs.Ytmeddeaphmpjcaa
