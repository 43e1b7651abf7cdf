/- ShelfLasts, walked. -/
import Derived.Test.YtpilmccjjbgmiaaAwake8
import Derived.Test.YtpilmccjjbgmiaaFit8
import Derived.Test.YtpilmccjjbgmiaaPlat5
import Derived.Test.YtpilmccjjbgmiaaLastL
import Derived.Test.YtpilmccjjbgmiaaLawM
namespace Go.Proofs.Ytpilmccjjbgmiaa
open Go.RowKit

def initR (j : Nat) : List RecM := List.replicate j fmtR ++ List.replicate (8 - j) (blankR 0)
theorem initR_len {j : Nat} (h : j ≤ 8) : (initR j).length = 8 := by simp [initR]; omega
theorem initR_set {j : Nat} (h : j < 8) : (initR j).set j fmtR = initR (j + 1) := by
  apply List.ext_getElem?
  intro i
  rw [List.getElem?_set, initR_len (by omega)]
  unfold initR
  by_cases e : j = i
  · subst e
    rw [if_pos rfl, if_pos h, List.getElem?_append_left (by simp), List.getElem?_replicate, if_pos (by omega)]
  · rw [if_neg e]
    by_cases h1 : i < j
    · rw [List.getElem?_append_left (by simpa using h1), List.getElem?_append_left (by simp; omega), List.getElem?_replicate, List.getElem?_replicate, if_pos h1, if_pos (by omega)]
    · rw [List.getElem?_append_right (by simp; omega), List.getElem?_append_right (by simp; omega), List.getElem?_replicate, List.getElem?_replicate]
      simp only [List.length_replicate]
      by_cases h2 : i < 8
      · rw [if_pos (by omega), if_pos (by omega)]
      · rw [if_neg (by omega), if_neg (by omega)]
theorem initR_get {k : Nat} (h : k < 8) : fmtR = getR (initR 8) k := by
  unfold getR initR
  rw [List.getElem?_append_left (by simpa using h), List.getElem?_replicate, if_pos h]
  rfl
theorem getR_set_ne {now : List RecM} {k j : Nat} {r : RecM} (h : k ≠ j) : getR (now.set k r) j = getR now j := by
  unfold getR
  rw [List.getElem?_set_ne h]
theorem getR_set_self {now : List RecM} {k : Nat} {r : RecM} (h : k < now.length) : getR (now.set k r) k = r := by
  unfold getR
  rw [List.getElem?_set_self h]
  rfl
theorem getR_some {now : List RecM} {k : Nat} {x : RecM} (h : k < now.length) (e : getR now k = x) : now[k]? = some x := by
  unfold getR at e
  rw [List.getElem?_eq_getElem h] at e ⊢
  exact congrArg some e
theorem arm_none {lb mb n : Nat} {c : Int} {M : Pl} (h : ClPl lb mb n c M) : armPl M 0 = M := by
  rw [arm_is (by omega)]
  have h1 := h.on.armed
  obtain ⟨a1, a2, a3, a4, a5, a6, a7, a8, a9⟩ := M
  dsimp only at h1
  rw [h1]
def lst_v1 (r : RecM) : List Value := [.bool r.used, .int .i64 r.fence, .int .i64 r.de, .int .i64 r.ds, .string r.block, .bool r.op, .int .i64 r.ie, .int .i64 r.is, .int .i64 r.mask, .string r.staged]
def lst_v2 (x : RecM) : List Value := [.bool x.used, .int .i64 x.fence, .int .i64 x.de, .int .i64 x.ds, .string x.block, .bool x.op, .int .i64 x.ie, .int .i64 x.is, .int .i64 x.mask, .string x.staged]
def lst_v3 : List Value := [.int .u8 0, .int .u8 0, .int .u8 0, .int .u8 0, .int .u8 0, .int .u8 0, .int .u8 0, .int .u8 0, .int .u8 0, .int .u8 0, .int .u8 0, .int .u8 0, .int .u8 0, .int .u8 0, .int .u8 0, .int .u8 0]
def lst_v4 : List Value := [.bool true, .int .i64 0, .int .i64 0, .int .i64 0, .string zeros16, .bool false, .int .i64 0, .int .i64 0, .int .i64 0, .string ⟨#[]⟩]
def lst_v5 (raws : Nat → Raw8) (i : Nat) : List Value := [.int .i64 ((raws i).flags), .int .i64 ((raws i).fence), .int .i64 ((raws i).epoch), .int .i64 ((raws i).seq), .int .i64 ((raws i).ie), .int .i64 ((raws i).is), .int .i64 ((raws i).mask), .string ((raws i).block), .string ((raws i).staged)]
def lst_n1 : List Nat := [0, 1, 2, 3, 8, 10, 12, 14, 15]
def lst_n2 : List Nat := [0, 1, 2, 3, 8, 10, 12, 14, 16, 17, 18, 20, 21, 145]
def lst_n3 : List Nat := [0, 1, 2, 3, 8, 10, 12, 14, 16, 17, 18, 20, 21, 22]
def lst_n4 : List Nat := [0, 1, 2, 3, 8, 10, 12, 14, 16, 17, 18, 20, 21]
def lst_n5 : List Nat := [0, 1, 2, 3, 8, 10, 12, 14, 16, 17, 18, 93, 94, 95]
def lst_n6 : List Nat := [0, 1, 2, 3, 8, 10, 12, 14, 16, 17]
def lst_n7 : List Nat := [0, 1, 2, 3, 8, 10, 12, 14, 16]
def lst_n8 : List Nat := [1, 1, 1, 1, 1, 1, 1, 0, 1, 0, 0, 1, 0, 0, 1, 1, 0, 0]
def lst_n9 : List Nat := [1, 1, 1, 1, 1, 1, 1, 0, 1, 0, 0, 1, 0, 0, 1, 1, 0, 1, 0]
def lst_n10 : List Nat := [1, 1, 1, 1, 1, 1, 1, 0, 1, 0, 0, 1, 0, 0, 1, 1, 0, 1]
def lst_n11 : List Nat := [1, 1, 1, 1, 1, 1, 1, 0, 1, 0, 0, 1, 0, 0, 1, 1, 1, 0]
def lst_n12 : List Nat := [1, 1, 1, 1, 1, 1, 1, 0, 1, 0, 0, 1, 0, 0, 1, 1, 1, 1, 0]
def lst_n13 : List Nat := [1, 1, 1, 1, 1, 1, 1, 0, 1, 0, 0, 1, 0, 0, 1, 1, 1, 1, 1, 0]
def lst_n14 : List Nat := [1, 1, 1, 1, 1, 1, 1, 0, 1, 0, 0, 1, 0, 0, 1, 1, 1, 1, 1, 1, 0]
def lst_n15 : List Nat := [1, 1, 1, 1, 1, 1, 1, 0, 1, 0, 0, 1, 0, 0, 1, 1, 1, 1, 1, 1, 1, 1, 0]
def lst_n16 : List Nat := [1, 1, 1, 1, 1, 1, 1, 0, 1, 0, 0, 1, 0, 0, 1, 1, 1, 1, 1, 1, 1, 1, 1, 1, 0, 0, 1, 0, 0, 1, 1, 1, 0]
def lst_n17 : List Nat := [1, 1, 1, 1, 1, 1, 1, 0, 1, 0, 0, 1, 0, 0, 1, 1, 1, 1, 1, 1, 1, 1, 1, 1, 0, 0, 1, 0, 0, 1, 1, 1, 1]
def lst_n18 : List Nat := [1, 1, 1, 1, 1, 1, 1, 0, 1, 0, 0, 1, 0, 0, 1, 1, 1, 1, 1, 1, 1, 1, 1, 1, 0, 0, 1, 0, 0, 1, 1, 1]
def lst_n19 : List Nat := [1, 1, 1, 1, 1, 1, 1, 0, 1, 0, 0, 1, 0, 0, 1, 1, 1, 1, 1, 1, 1, 1, 1, 1, 0, 0, 1, 1]
def lst_n20 : List Nat := [1, 1, 1, 1, 1, 1, 1, 0, 1, 0, 0, 1, 0, 0, 1, 1, 1, 1, 1, 1, 1, 1, 1]
def lst_n21 : List Nat := [1, 1, 1, 1, 1, 1, 1, 0, 1, 0, 0, 1, 0, 0, 1, 1, 1, 1, 1, 1, 1]
def lst_n22 : List Nat := [1, 1, 1, 1, 1, 1, 1, 0, 1, 0, 0, 1, 0, 0, 1, 1, 1, 1, 1, 1]
def lst_n23 : List Nat := [1, 1, 1, 1, 1, 1, 1, 0, 1, 0, 0, 1, 0, 0, 1, 1, 1, 1, 1]
def lst_n24 : List Nat := [1, 1, 1, 1, 1, 1, 1, 0, 1, 0, 0, 1, 0, 0, 1, 1, 1, 1]
def lst_n25 : List Nat := [1, 1, 1, 1, 1, 1, 1, 0, 1, 0, 0, 1, 0, 0, 1, 1, 1]
def lst_n26 : List Nat := [1, 1, 1, 1, 1, 1, 1, 0, 1, 0, 0, 1, 1]
def lst_n27 : List Nat := [1, 1, 1, 1, 1, 1, 1, 1]
@[simp] def lst_b1 (pb : Nat) (sb : Nat) (now : List RecM) (W3 : World) : List Bk := [⟨sb, 92, false, [(pt pb 0), .int .i64 8]⟩, ⟨W3.heap.size, 53, true, (rowsR now)⟩]
@[simp] def lst_b2 (pb : Nat) (sb : Nat) (nv : List RecM) (r : RecM) (W3 : World) (z33 : Nat) : List Bk := [⟨sb, 92, false, [(pt pb 0), .int .i64 8]⟩, ⟨W3.heap.size, 53, true, (rowsR nv)⟩, ⟨z33, 25, true, (lst_v1 r)⟩]
@[simp] def lst_b3 (pb : Nat) (sb : Nat) (nv : List RecM) (r : RecM) (x : RecM) (W3 : World) (z33 : Nat) (z56 : Nat) : List Bk := [⟨sb, 92, false, [(pt pb 0), .int .i64 8]⟩, ⟨W3.heap.size, 53, true, (rowsR nv)⟩, ⟨z33, 25, true, (lst_v1 r)⟩, ⟨z56, 25, true, (lst_v2 x)⟩]
@[simp] def lst_b4 (pb : Nat) (sb : Nat) (nw : List RecM) (r : RecM) (W3 : World) (z33 : Nat) : List Bk := [⟨sb, 92, false, [(pt pb 0), .int .i64 8]⟩, ⟨W3.heap.size, 53, true, (rowsR nw)⟩, ⟨z33, 25, true, (lst_v1 r)⟩]
@[simp] def lst_b5 (k : Nat) (pb : Nat) (sb : Nat) (nv : List RecM) (r : RecM) (x : RecM) (W3 : World) (z33 : Nat) (z56 : Nat) : List Bk := [⟨sb, 92, false, [(pt pb 0), .int .i64 8]⟩, ⟨W3.heap.size, 53, true, (rowsR (List.set nv k r))⟩, ⟨z33, 25, true, (lst_v1 r)⟩, ⟨z56, 25, true, (lst_v2 x)⟩]
@[simp] def lst_b6 (k : Nat) (pb : Nat) (sb : Nat) (z : Nat) (W3 : World) : List Bk := [⟨sb, 92, false, [(pt pb 0), .int .i64 8]⟩, ⟨W3.heap.size, 53, true, (rowsR (initR k))⟩, ⟨z, 5, true, (lst_v3)⟩]
@[simp] def lst_b7 (k : Nat) (pb : Nat) (sb : Nat) (z : Nat) (W3 : World) : List Bk := [⟨sb, 92, false, [(pt pb 0), .int .i64 8]⟩, ⟨W3.heap.size, 53, true, (rowsR (initR (k + 1)))⟩, ⟨z, 5, true, (lst_v3)⟩]
@[simp] def lst_b8 (pb : Nat) (sb : Nat) (now : List RecM) (r : RecM) (W3 : World) (z33 : Nat) : List Bk := [⟨sb, 92, false, [(pt pb 0), .int .i64 8]⟩, ⟨W3.heap.size, 53, true, (rowsR now)⟩, ⟨z33, 25, true, (lst_v1 r)⟩]
@[simp] def lst_b9 (B : Int) (pb : Nat) (sb : Nat) (now : List RecM) (r : RecM) (W3 : World) (z33 : Nat) : List Bk := [⟨sb, 92, false, [(pt pb 0), .int .i64 8]⟩, ⟨W3.heap.size, 53, true, (rowsR (List.set now (Int.toNat B) r))⟩, ⟨z33, 25, true, (lst_v1 r)⟩]
def LastsI0 (A : Option Addr) (n : Nat) (cp : Nat) (A2 : Option Addr) (n2 : Nat) (cp2 : Nat) (A3 : Option Addr) (n3 : Nat) (cp3 : Nat) (K : Option Addr) (nk : Nat) (kcp : Nat) (pb : Nat) (sb : Nat) (W3 : World)  (m : Nat) (st : St) : Prop := ∃ (k : Nat) (z : Nat), m + k = 8 ∧ W3.heap.size + 1 ≤ z ∧ st = ⟨[(0, .slice A n cp), (1, .slice A2 n2 cp2), (2, .slice A3 n3 cp3), (3, .slice K nk kcp), (8, .bool false), (10, (pt pb 0)), (12, (pt sb 0)), (14, (pt W3.heap.size 0)), (15, .int .i64 (k : Int))], [⟨sb, 92, false, [(pt pb 0), .int .i64 8]⟩, ⟨W3.heap.size, 53, true, (rowsR (initR k))⟩], [], z⟩
def LastsI (A : Option Addr) (n : Nat) (cp : Nat) (A2 : Option Addr) (n2 : Nat) (cp2 : Nat) (A3 : Option Addr) (n3 : Nat) (cp3 : Nat) (K : Option Addr) (nk : Nat) (kcp : Nat) (lb : Nat) (mb : Nat) (pb : Nat) (sb : Nat) (W3 : World)  (m : Nat) (st : St) (W1 : World) : Prop :=
  ∃ (i : Nat) (M : Pl) (now : List RecM) (z : Nat), m + i = 30 ∧ ClPl lb mb 8 (16 + 2 * (i : Int)) M ∧ now.length = 8 ∧ (∀ j_ : Nat, j_ < 8 → gotM M (j_ : Int) = getR now j_) ∧ PlatAt 90 94 W1 pb M ∧ st = ⟨[(0, .slice A n cp), (1, .slice A2 n2 cp2), (2, .slice A3 n3 cp3), (3, .slice K nk kcp), (8, .bool false), (10, (pt pb 0)), (12, (pt sb 0)), (14, (pt W3.heap.size 0)), (16, .int .i64 (i : Int))], (lst_b1 pb sb now W3), [], z⟩
def LastsK (n : Nat) (cp : Nat) (A2 : Option Addr) (n2 : Nat) (cp2 : Nat) (A3 : Option Addr) (n3 : Nat) (cp3 : Nat) (K : Option Addr) (nk : Nat) (kcp : Nat) (b : Nat) (o : Nat) (i : Nat) (B : Int) (F : Bool) (pb : Nat) (sb : Nat) (M4 : Pl) (r : RecM) (W3 : World) (z33 : Nat) (W42 : World)  (m : Nat) (st : St) : Prop := ∃ (k : Nat) (nv : List RecM) (z : Nat), m + k = 8 ∧ W42.heap.size ≤ z ∧ nv.length = 8 ∧ (∀ k : Nat, k < 8 → (k : Int) ≠ B → gotM M4 (k : Int) = getR nv k) ∧ (gotM M4 B = getR nv (Int.toNat B) ∨ (k : Int) ≤ B ∧ F = true ∧ gotM M4 B = r) ∧ st = ⟨[(0, .slice (some ⟨b, o, none⟩) n cp), (1, .slice A2 n2 cp2), (2, .slice A3 n3 cp3), (3, .slice K nk kcp), (8, .bool false), (10, (pt pb 0)), (12, (pt sb 0)), (14, (pt W3.heap.size 0)), (16, .int .i64 (i : Int)), (17, .int .i64 B), (18, (pt z33 0)), (20, .bool F), (21, .int .i64 (k : Int))], (lst_b2 pb sb nv r W3 z33), [], z⟩
def lst_g59s (n : Nat) (cp : Nat) (A2 : Option Addr) (n2 : Nat) (cp2 : Nat) (A3 : Option Addr) (n3 : Nat) (cp3 : Nat) (K : Option Addr) (nk : Nat) (kcp : Nat) (b : Nat) (o : Nat) (i : Nat) (k : Nat) (B : Int) (F : Bool) (pb : Nat) (sb : Nat) (W3 : World) (z33 : Nat) (z56 : Nat) : List (Nat × Value) := [(0, .slice (some ⟨b, o, none⟩) n cp), (1, .slice A2 n2 cp2), (2, .slice A3 n3 cp3), (3, .slice K nk kcp), (8, .bool false), (10, (pt pb 0)), (12, (pt sb 0)), (14, (pt W3.heap.size 0)), (16, .int .i64 (i : Int)), (17, .int .i64 B), (18, (pt z33 0)), (20, .bool F), (21, .int .i64 (k : Int)), (22, (pt z56 0))]
def lst_g59v (k : Nat) (x : RecM) (W3 : World) : List (Option Value) := [some (.agg (List.toArray (lst_v2 x))), some (.int .i64 (k : Int)), some (.pointer (some ⟨W3.heap.size, 0 + (Int.toNat (k : Int)) * 10, none⟩)), some (.agg (List.toArray (lst_v2 x))), some (.bool (!(((x.used == x.used) && (((x.fence : Int) == x.fence) && ((((x.de : Int) == x.de) && (((x.ds : Int) == x.ds) && true)) && (((x.block : ByteArray) == x.block) && ((x.op == x.op) && ((((x.ie : Int) == x.ie) && (((x.is : Int) == x.is) && true)) && (((x.mask : Int) == x.mask) && (((x.staged : ByteArray) == x.staged) && true)))))))))))]
def lst_g59m (pb : Nat) (sb : Nat) (nv : List RecM) (r : RecM) (x : RecM) (W3 : World) (z33 : Nat) (z56 : Nat) : List (List Bk) := [(lst_b3 pb sb nv r x W3 z33 z56)]
def lst_g59t : List (Option Nat) := [none, none, none, none, none]
def lst_g59E (n : Nat) (cp : Nat) (A2 : Option Addr) (n2 : Nat) (cp2 : Nat) (A3 : Option Addr) (n3 : Nat) (cp3 : Nat) (K : Option Addr) (nk : Nat) (kcp : Nat) (b : Nat) (o : Nat) (i : Nat) (k : Nat) (B : Int) (F : Bool) (pb : Nat) (sb : Nat) (nv : List RecM) (r : RecM) (x : RecM) (W3 : World) (z33 : Nat) (z56 : Nat) (i_ : Nat) (h_ : OH) (o_ : List Prop) (r_ : List (Nat × Nat × Nat)) : Prop := ∀ sz, (List.range (0 + 1)).map (regEnt Try.prog (opsOf (getCode (bodyOf Try.f9) lst_n16)) (slI (opsOf (getCode (bodyOf Try.f9) lst_n16)) (lst_g59s n cp A2 n2 cp2 A3 n3 cp3 K nk kcp b o i k B F pb sb W3 z33 z56) i_) (lst_g59v k x W3) (lst_g59m pb sb nv r x W3 z33 z56) [] sz i_ h_) = (List.range (0 + 1)).map (regExp (lst_g59v k x W3) (lst_g59m pb sb nv r x W3 z33 z56) sz i_ o_ r_)
def lst_g59C (n : Nat) (cp : Nat) (A2 : Option Addr) (n2 : Nat) (cp2 : Nat) (A3 : Option Addr) (n3 : Nat) (cp3 : Nat) (K : Option Addr) (nk : Nat) (kcp : Nat) (b : Nat) (o : Nat) (i : Nat) (k : Nat) (B : Int) (F : Bool) (pb : Nat) (sb : Nat) (nw : List RecM) (nv : List RecM) (r : RecM) (x : RecM) (w : World) (W3 : World) (J : Act → World → Prop) (J2 : Act → World → Prop) (z33 : Nat) (W42 : World) (z56 : Nat) (i_ : Nat) : Prop := CertG (wpOp Try.prog (opsOf (getCode (bodyOf Try.f9) lst_n16)) (sem Try.prog (bodyOf Try.f9) (bodyPost Try.prog Try.f9 (RetK (.bool true) w)) [.code lst_n17, .blk 5, .code lst_n19, .inv J2, .blk 4, .blk 3, .code lst_n26, .inv J, .blk 2, .code lst_n27])) [] 146 (opsOf (getCode (bodyOf Try.f9) lst_n16)) (slI (opsOf (getCode (bodyOf Try.f9) lst_n16)) (lst_g59s n cp A2 n2 cp2 A3 n3 cp3 K nk kcp b o i k B F pb sb W3 z33 z56) i_) (lst_g59t) 0 (MG W42 (Turned (lst_b4 pb sb nw r W3 z33)) (lst_g59m pb sb nv r x W3 z33 z56) [] (z56 + 1)) (Turned (lst_b3 pb sb nv r x W3 z33 z56)) (PvG (lst_g59v k x W3) (fun _ _ _ => False)) i_
def lst_g64s (n : Nat) (cp : Nat) (A2 : Option Addr) (n2 : Nat) (cp2 : Nat) (A3 : Option Addr) (n3 : Nat) (cp3 : Nat) (K : Option Addr) (nk : Nat) (kcp : Nat) (b : Nat) (o : Nat) (i : Nat) (k : Nat) (B : Int) (F : Bool) (pb : Nat) (sb : Nat) (W3 : World) (z33 : Nat) (z56 : Nat) : List (Nat × Value) := [(0, .slice (some ⟨b, o, none⟩) n cp), (1, .slice A2 n2 cp2), (2, .slice A3 n3 cp3), (3, .slice K nk kcp), (8, .bool false), (10, (pt pb 0)), (12, (pt sb 0)), (14, (pt W3.heap.size 0)), (16, .int .i64 (i : Int)), (17, .int .i64 B), (18, (pt z33 0)), (20, .bool F), (21, .int .i64 (k : Int)), (22, (pt z56 0))]
def lst_g64v (k : Nat) (r : RecM) (x : RecM) (W3 : World) : List (Option Value) := [some (.agg (List.toArray (lst_v2 x))), some (.int .i64 (k : Int)), some (.pointer (some ⟨W3.heap.size, 0 + (Int.toNat (k : Int)) * 10, none⟩)), some (.agg (List.toArray (lst_v1 r))), some (.bool (!(((x.used == r.used) && (((x.fence : Int) == r.fence) && ((((x.de : Int) == r.de) && (((x.ds : Int) == r.ds) && true)) && (((x.block : ByteArray) == r.block) && ((x.op == r.op) && ((((x.ie : Int) == r.ie) && (((x.is : Int) == r.is) && true)) && (((x.mask : Int) == r.mask) && (((x.staged : ByteArray) == r.staged) && true)))))))))))]
def lst_g64m (k : Nat) (pb : Nat) (sb : Nat) (nv : List RecM) (r : RecM) (x : RecM) (W3 : World) (z33 : Nat) (z56 : Nat) : List (List Bk) := [(lst_b5 k pb sb nv r x W3 z33 z56)]
def lst_g64t : List (Option Nat) := [none, none, none, none, none]
def lst_g64E (n : Nat) (cp : Nat) (A2 : Option Addr) (n2 : Nat) (cp2 : Nat) (A3 : Option Addr) (n3 : Nat) (cp3 : Nat) (K : Option Addr) (nk : Nat) (kcp : Nat) (b : Nat) (o : Nat) (i : Nat) (k : Nat) (B : Int) (F : Bool) (pb : Nat) (sb : Nat) (nv : List RecM) (r : RecM) (x : RecM) (W3 : World) (z33 : Nat) (z56 : Nat) (i_ : Nat) (h_ : OH) (o_ : List Prop) (r_ : List (Nat × Nat × Nat)) : Prop := ∀ sz, (List.range (0 + 1)).map (regEnt Try.prog (opsOf (getCode (bodyOf Try.f9) lst_n16)) (slI (opsOf (getCode (bodyOf Try.f9) lst_n16)) (lst_g64s n cp A2 n2 cp2 A3 n3 cp3 K nk kcp b o i k B F pb sb W3 z33 z56) i_) (lst_g64v k r x W3) (lst_g64m k pb sb nv r x W3 z33 z56) [] sz i_ h_) = (List.range (0 + 1)).map (regExp (lst_g64v k r x W3) (lst_g64m k pb sb nv r x W3 z33 z56) sz i_ o_ r_)
def lst_g64C (n : Nat) (cp : Nat) (A2 : Option Addr) (n2 : Nat) (cp2 : Nat) (A3 : Option Addr) (n3 : Nat) (cp3 : Nat) (K : Option Addr) (nk : Nat) (kcp : Nat) (b : Nat) (o : Nat) (i : Nat) (k : Nat) (B : Int) (F : Bool) (pb : Nat) (sb : Nat) (nw : List RecM) (nv : List RecM) (r : RecM) (x : RecM) (w : World) (W3 : World) (J : Act → World → Prop) (J2 : Act → World → Prop) (z33 : Nat) (W42 : World) (z56 : Nat) (z62 : Nat) (i_ : Nat) : Prop := CertG (wpOp Try.prog (opsOf (getCode (bodyOf Try.f9) lst_n16)) (sem Try.prog (bodyOf Try.f9) (bodyPost Try.prog Try.f9 (RetK (.bool true) w)) [.code lst_n17, .blk 5, .code lst_n19, .inv J2, .blk 4, .blk 3, .code lst_n26, .inv J, .blk 2, .code lst_n27])) [] 146 (opsOf (getCode (bodyOf Try.f9) lst_n16)) (slI (opsOf (getCode (bodyOf Try.f9) lst_n16)) (lst_g64s n cp A2 n2 cp2 A3 n3 cp3 K nk kcp b o i k B F pb sb W3 z33 z56) i_) (lst_g64t) 0 (MG W42 (Turned (lst_b4 pb sb nw r W3 z33)) (lst_g64m k pb sb nv r x W3 z33 z56) [] z62) (Turned (lst_b5 k pb sb nv r x W3 z33 z56)) (PvG (lst_g64v k r x W3) (fun _ _ _ => False)) i_
def lst_g67s (n : Nat) (cp : Nat) (A2 : Option Addr) (n2 : Nat) (cp2 : Nat) (A3 : Option Addr) (n3 : Nat) (cp3 : Nat) (K : Option Addr) (nk : Nat) (kcp : Nat) (b : Nat) (o : Nat) (i : Nat) (k : Nat) (B : Int) (pb : Nat) (sb : Nat) (W3 : World) (z33 : Nat) (z56 : Nat) : List (Nat × Value) := [(0, .slice (some ⟨b, o, none⟩) n cp), (1, .slice A2 n2 cp2), (2, .slice A3 n3 cp3), (3, .slice K nk kcp), (8, .bool false), (10, (pt pb 0)), (12, (pt sb 0)), (14, (pt W3.heap.size 0)), (16, .int .i64 (i : Int)), (17, .int .i64 B), (18, (pt z33 0)), (20, .bool false), (21, .int .i64 (k : Int)), (22, (pt z56 0))]
def lst_g67v (k : Nat) (x : RecM) (W3 : World) : List (Option Value) := [some (.agg (List.toArray (lst_v2 x))), some (.int .i64 (k : Int)), some (.pointer (some ⟨W3.heap.size, 0 + (Int.toNat (k : Int)) * 10, none⟩)), some (.agg (List.toArray (lst_v2 x))), some (.bool (!(((x.used == x.used) && (((x.fence : Int) == x.fence) && ((((x.de : Int) == x.de) && (((x.ds : Int) == x.ds) && true)) && (((x.block : ByteArray) == x.block) && ((x.op == x.op) && ((((x.ie : Int) == x.ie) && (((x.is : Int) == x.is) && true)) && (((x.mask : Int) == x.mask) && (((x.staged : ByteArray) == x.staged) && true)))))))))))]
def lst_g67m (pb : Nat) (sb : Nat) (nv : List RecM) (r : RecM) (x : RecM) (W3 : World) (z33 : Nat) (z56 : Nat) : List (List Bk) := [(lst_b3 pb sb nv r x W3 z33 z56)]
def lst_g67t : List (Option Nat) := [none, none, none, none, none]
def lst_g67E (n : Nat) (cp : Nat) (A2 : Option Addr) (n2 : Nat) (cp2 : Nat) (A3 : Option Addr) (n3 : Nat) (cp3 : Nat) (K : Option Addr) (nk : Nat) (kcp : Nat) (b : Nat) (o : Nat) (i : Nat) (k : Nat) (B : Int) (pb : Nat) (sb : Nat) (nv : List RecM) (r : RecM) (x : RecM) (W3 : World) (z33 : Nat) (z56 : Nat) (i_ : Nat) (h_ : OH) (o_ : List Prop) (r_ : List (Nat × Nat × Nat)) : Prop := ∀ sz, (List.range (0 + 1)).map (regEnt Try.prog (opsOf (getCode (bodyOf Try.f9) lst_n16)) (slI (opsOf (getCode (bodyOf Try.f9) lst_n16)) (lst_g67s n cp A2 n2 cp2 A3 n3 cp3 K nk kcp b o i k B pb sb W3 z33 z56) i_) (lst_g67v k x W3) (lst_g67m pb sb nv r x W3 z33 z56) [] sz i_ h_) = (List.range (0 + 1)).map (regExp (lst_g67v k x W3) (lst_g67m pb sb nv r x W3 z33 z56) sz i_ o_ r_)
def lst_g67C (n : Nat) (cp : Nat) (A2 : Option Addr) (n2 : Nat) (cp2 : Nat) (A3 : Option Addr) (n3 : Nat) (cp3 : Nat) (K : Option Addr) (nk : Nat) (kcp : Nat) (b : Nat) (o : Nat) (i : Nat) (k : Nat) (B : Int) (pb : Nat) (sb : Nat) (nw : List RecM) (nv : List RecM) (r : RecM) (x : RecM) (w : World) (W3 : World) (J : Act → World → Prop) (J2 : Act → World → Prop) (z33 : Nat) (W42 : World) (z56 : Nat) (i_ : Nat) : Prop := CertG (wpOp Try.prog (opsOf (getCode (bodyOf Try.f9) lst_n16)) (sem Try.prog (bodyOf Try.f9) (bodyPost Try.prog Try.f9 (RetK (.bool true) w)) [.code lst_n17, .blk 5, .code lst_n19, .inv J2, .blk 4, .blk 3, .code lst_n26, .inv J, .blk 2, .code lst_n27])) [] 146 (opsOf (getCode (bodyOf Try.f9) lst_n16)) (slI (opsOf (getCode (bodyOf Try.f9) lst_n16)) (lst_g67s n cp A2 n2 cp2 A3 n3 cp3 K nk kcp b o i k B pb sb W3 z33 z56) i_) (lst_g67t) 0 (MG W42 (Turned (lst_b4 pb sb nw r W3 z33)) (lst_g67m pb sb nv r x W3 z33 z56) [] (z56 + 1)) (Turned (lst_b3 pb sb nv r x W3 z33 z56)) (PvG (lst_g67v k x W3) (fun _ _ _ => False)) i_
def lst_g70s (n : Nat) (cp : Nat) (A2 : Option Addr) (n2 : Nat) (cp2 : Nat) (A3 : Option Addr) (n3 : Nat) (cp3 : Nat) (K : Option Addr) (nk : Nat) (kcp : Nat) (b : Nat) (o : Nat) (i : Nat) (k : Nat) (B : Int) (pb : Nat) (sb : Nat) (W3 : World) (z33 : Nat) (z56 : Nat) : List (Nat × Value) := [(0, .slice (some ⟨b, o, none⟩) n cp), (1, .slice A2 n2 cp2), (2, .slice A3 n3 cp3), (3, .slice K nk kcp), (8, .bool false), (10, (pt pb 0)), (12, (pt sb 0)), (14, (pt W3.heap.size 0)), (16, .int .i64 (i : Int)), (17, .int .i64 B), (18, (pt z33 0)), (20, .bool true), (21, .int .i64 (k : Int)), (22, (pt z56 0))]
def lst_g70v (k : Nat) (x : RecM) (W3 : World) : List (Option Value) := [some (.agg (List.toArray (lst_v2 x))), some (.int .i64 (k : Int)), some (.pointer (some ⟨W3.heap.size, 0 + (Int.toNat (k : Int)) * 10, none⟩)), some (.agg (List.toArray (lst_v2 x))), some (.bool (!(((x.used == x.used) && (((x.fence : Int) == x.fence) && ((((x.de : Int) == x.de) && (((x.ds : Int) == x.ds) && true)) && (((x.block : ByteArray) == x.block) && ((x.op == x.op) && ((((x.ie : Int) == x.ie) && (((x.is : Int) == x.is) && true)) && (((x.mask : Int) == x.mask) && (((x.staged : ByteArray) == x.staged) && true)))))))))))]
def lst_g70m (pb : Nat) (sb : Nat) (nv : List RecM) (r : RecM) (x : RecM) (W3 : World) (z33 : Nat) (z56 : Nat) : List (List Bk) := [(lst_b3 pb sb nv r x W3 z33 z56)]
def lst_g70t : List (Option Nat) := [none, none, none, none, none]
def lst_g70E (n : Nat) (cp : Nat) (A2 : Option Addr) (n2 : Nat) (cp2 : Nat) (A3 : Option Addr) (n3 : Nat) (cp3 : Nat) (K : Option Addr) (nk : Nat) (kcp : Nat) (b : Nat) (o : Nat) (i : Nat) (k : Nat) (B : Int) (pb : Nat) (sb : Nat) (nv : List RecM) (r : RecM) (x : RecM) (W3 : World) (z33 : Nat) (z56 : Nat) (i_ : Nat) (h_ : OH) (o_ : List Prop) (r_ : List (Nat × Nat × Nat)) : Prop := ∀ sz, (List.range (0 + 1)).map (regEnt Try.prog (opsOf (getCode (bodyOf Try.f9) lst_n16)) (slI (opsOf (getCode (bodyOf Try.f9) lst_n16)) (lst_g70s n cp A2 n2 cp2 A3 n3 cp3 K nk kcp b o i k B pb sb W3 z33 z56) i_) (lst_g70v k x W3) (lst_g70m pb sb nv r x W3 z33 z56) [] sz i_ h_) = (List.range (0 + 1)).map (regExp (lst_g70v k x W3) (lst_g70m pb sb nv r x W3 z33 z56) sz i_ o_ r_)
def lst_g70C (n : Nat) (cp : Nat) (A2 : Option Addr) (n2 : Nat) (cp2 : Nat) (A3 : Option Addr) (n3 : Nat) (cp3 : Nat) (K : Option Addr) (nk : Nat) (kcp : Nat) (b : Nat) (o : Nat) (i : Nat) (k : Nat) (B : Int) (pb : Nat) (sb : Nat) (nw : List RecM) (nv : List RecM) (r : RecM) (x : RecM) (w : World) (W3 : World) (J : Act → World → Prop) (J2 : Act → World → Prop) (z33 : Nat) (W42 : World) (z56 : Nat) (i_ : Nat) : Prop := CertG (wpOp Try.prog (opsOf (getCode (bodyOf Try.f9) lst_n16)) (sem Try.prog (bodyOf Try.f9) (bodyPost Try.prog Try.f9 (RetK (.bool true) w)) [.code lst_n17, .blk 5, .code lst_n19, .inv J2, .blk 4, .blk 3, .code lst_n26, .inv J, .blk 2, .code lst_n27])) [] 146 (opsOf (getCode (bodyOf Try.f9) lst_n16)) (slI (opsOf (getCode (bodyOf Try.f9) lst_n16)) (lst_g70s n cp A2 n2 cp2 A3 n3 cp3 K nk kcp b o i k B pb sb W3 z33 z56) i_) (lst_g70t) 0 (MG W42 (Turned (lst_b4 pb sb nw r W3 z33)) (lst_g70m pb sb nv r x W3 z33 z56) [] (z56 + 1)) (Turned (lst_b3 pb sb nv r x W3 z33 z56)) (PvG (lst_g70v k x W3) (fun _ _ _ => False)) i_
set_option maxRecDepth 100000 in
set_option maxHeartbeats 4000000 in
theorem lasts_any (A : Option Addr) (n cp : Nat) (raws : Nat → Raw8) (A2 : Option Addr) (n2 cp2 : Nat) (nums : Nat → Num1) (A3 : Option Addr) (n3 cp3 : Nat) (arms : Nat → Num1) (K : Option Addr) (nk kcp : Nat) (kf : Nat → Num1) (w : World) (HR : Raw8sAt w A n raws) (HN : NumsAt w A2 n2 nums) (HA : NumsAt w A3 n3 arms) (HK : NumsAt w K nk kf) :
    Calls Try.prog 9 #[.slice A n cp, .slice A2 n2 cp2, .slice A3 n3 cp3, .slice K nk kcp] w (RetK (.bool true) w) := by
  refine calls_of_holds (S := (fun _ => False)) (l := [.slice A n cp, .slice A2 n2 cp2, .slice A3 n3 cp3, .slice K nk kcp]) (n := 146) Try.func9 (body_of (by kernel_rfl)) rfl (by simp) (MemOk.none w _) ?_
  refine hgE 9 [oh0] [0, 1, 2, 3, 8] [] [] [.ops [1, 0] [0, 1], .code [1, 1]] ⟨[(0, .slice A n cp), (1, .slice A2 n2 cp2), (2, .slice A3 n3 cp3), (3, .slice K nk kcp), (8, .bool false)], [], [], w.heap.size⟩ ?_
  refine hcp (.bool true) 11 [] (some 24) [] trivial rfl (fun wx hm => awake8P wx) fun z2 hz2 => ?_
  replace hz2 : w.heap.size ≤ z2 := hz2
  refine hgE 7 [oh0] [0, 1, 2, 3, 8, 9] [] [] [.ops [1, 1, 0] [0, 1, 2, 3, 4, 5], .code [1, 1, 1]] ⟨[(0, .slice A n cp), (1, .slice A2 n2 cp2), (2, .slice A3 n3 cp3), (3, .slice K nk kcp), (8, .bool false), (9, .bool true)], [], [], z2⟩ ?_
  refine holds_callW (w := w) (S' := (fun _ => False)) (Y := Nat × Nat × Nat) (fun (⟨lb, mb, pb⟩ : Nat × Nat × Nat) => .tuple #[(pt pb 0), .int .i64 0]) (fun (⟨lb, mb, pb⟩ : Nat × Nat × Nat) => []) (fun (⟨lb, mb, pb⟩ : Nat × Nat × Nat) W_ => z2 ≤ lb ∧ lb < mb ∧ mb < pb ∧ PlatAt 90 94 W_ pb (newPl lb mb 8)) (fun (⟨lb, mb, pb⟩ : Nat × Nat × Nat) => [(26, .tuple #[(pt pb 0), .int .i64 0]), (0, .slice A n cp), (1, .slice A2 n2 cp2), (2, .slice A3 n3 cp3), (3, .slice K nk kcp), (8, .bool false), (9, .bool true)]) (show _ = some (20, [.int .i64 8], some 26, []) by kernel_rfl) trivial (fun _ => rfl) (fun wx hm => ?_) (fun y W1 hX1 hm1 => ?_)
  · refine (new_pl 8 (by omega) wx).mono fun e w' ⟨lb, mb, pb, he, h1, h2, h3, h4, h5⟩ => ?_
    exact ⟨(lb, mb, pb), he, ⟨by rw [hm.size] at h1; exact h1, h2, h3, h4⟩, (hm.same h5).2⟩
  obtain ⟨lb, mb, pb⟩ := y
  obtain ⟨hl_lb, hl_mb, hl_pb, hP1⟩ := hX1
  have hlt_pb : pb < W1.heap.size := hP1.lt.1
  have hw0 : w.heap.size ≤ lb := by omega
  have hO := (on_new lb mb 8).lm
  have hnT : ∀ xx, (xx = pb ∨ xx = lb ∨ xx = mb) → ¬ Turned [] xx := by
    rintro xx _ ⟨b, hb, hr, he⟩
    simp at hb
  have hnB : ∀ b ∈ ([] : List Bk), ¬ (b.g = pb ∨ b.g = lb ∨ b.g = mb) := by simp
  refine hgE 12 [oh0, oh0, oh0, oh0, oh0, oh0] [0, 1, 2, 3, 8, 9, 10, 30] [] [] [.ops [1, 1, 1, 0] [1, 2, 3, 4, 5, 6], .code [1, 1, 1, 1]] ⟨[(0, .slice A n cp), (1, .slice A2 n2 cp2), (2, .slice A3 n3 cp3), (3, .slice K nk kcp), (8, .bool false), (9, .bool true), (10, (pt pb 0)), (30, (pt pb 0))], [], [], W1.heap.size⟩ ?_
  refine holds_callW (w := w) (S' := (fun _ => False)) (Y := Nat) (fun sb => .tuple #[(pt sb 0), .int .i64 0]) (fun sb => [⟨sb, 92, false, [(pt pb 0), .int .i64 8]⟩]) (fun sb W_ => W1.heap.size ≤ sb ∧ PlatAt 90 94 W_ pb (newPl lb mb 8)) (fun sb => [(31, .tuple #[(pt sb 0), .int .i64 0]), (0, .slice A n cp), (1, .slice A2 n2 cp2), (2, .slice A3 n3 cp3), (3, .slice K nk kcp), (8, .bool false), (9, .bool true), (10, (pt pb 0)), (30, (pt pb 0))]) (show _ = some (21, [(pt pb 0), .int .i64 8], some 31, []) by kernel_rfl) trivial (fun _ => rfl) (fun wx hm => ?_) (fun sb W2 hX2 hm2 => ?_)
  · refine (shelfNew_st (newPl lb mb 8) pb 8 (by omega) (by show (8 : Int) ≤ ((8 : Nat) : Int); omega) wx (hP1.kept hm.kept (fun x h => hnT x (hO.mine x h)))).mono fun e w' ⟨sb', he, h1, h2, h3⟩ => ?_
    have hs : wx.heap.size = W1.heap.size := hm.size
    exact ⟨sb', he, ⟨by omega, (hP1.kept hm.kept (fun x h => hnT x (hO.mine x h))).kept h3 (fun _ _ h => h)⟩, ((MemOk.back2 hm1 hm).add h3 [⟨sb', 92, false, _⟩] ⟨h2, trivial⟩ (by simp; omega) (by simp)).2⟩
  obtain ⟨hsbz, hP2⟩ := hX2
  clear hnT hnB
  have hPlW2 := hP2.lt.1
  have hgbW2_0 : sb < W2.heap.size := (hm2.at_ 0 rfl).lt
  have hwwW2 := hm2.kept.size
  have hnT : ∀ xx, (xx = pb ∨ xx = lb ∨ xx = mb) → ¬ Turned [⟨sb, 92, false, [(pt pb 0), .int .i64 8]⟩] xx := by
    rintro xx hx2 ⟨b, hb, hr, he⟩
    simp at hb
    subst hb <;> simp at he hr <;> omega
  have hnB : ∀ b ∈ ([⟨sb, 92, false, [(pt pb 0), .int .i64 8]⟩] : List Bk), ¬ (b.g = pb ∨ b.g = lb ∨ b.g = mb) := by
    intro b hb hx2
    simp at hb
    subst hb <;> simp at hx2 <;> omega
  refine hgE 24 [oh0, oh0, oh0, oh0, oh0, oh0, oh0, oh0, oh0, oh0, ⟨false, 3, []⟩, oh0, oh0, oh0, ⟨false, 3, []⟩, oh0, oh0] [0, 1, 2, 3, 8, 10, 12, 44, 45] [fF, fF, fF, fF, fF, fF, fF] [] [.ops [1, 1, 1, 1, 0, 0] [12, 13, 14], .code [1, 1, 1, 1, 0, 1], .code [1, 1, 1, 1, 1]] ⟨[(0, .slice A n cp), (1, .slice A2 n2 cp2), (2, .slice A3 n3 cp3), (3, .slice K nk kcp), (8, .bool false), (10, (pt pb 0)), (12, (pt sb 0)), (44, .bool false), (45, (pt sb 0))], [⟨sb, 92, false, [(pt pb 0), .int .i64 8]⟩], [], W2.heap.size⟩ ?_
  refine holds_callW (w := w) (S' := (fun _ => False)) (Y := Nat) (fun _ => .int .i64 0) (fun _ => [⟨sb, 92, false, [(pt pb 0), .int .i64 8]⟩]) (fun _ W_ => PlatAt 90 94 W_ pb (fmtPl (newPl lb mb 8) 8)) (fun _ => [(46, .int .i64 0), (0, .slice A n cp), (1, .slice A2 n2 cp2), (2, .slice A3 n3 cp3), (3, .slice K nk kcp), (8, .bool false), (10, (pt pb 0)), (12, (pt sb 0)), (44, .bool false), (45, (pt sb 0))]) (show _ = some (25, [(pt sb 0)], some 46, [false = false]) by kernel_rfl) ⟨rfl, trivial⟩ (fun _ => rfl) (fun wx hm => ?_) (fun _ W3 hP3 hm3 => ?_)
  · refine (format_pl (newPl lb mb 8) pb sb 8 lb mb 0 (by omega) (on_new lb mb 8) (by omega) (fun h => by have := hO.mine sb h; omega) wx (hP2.kept hm.kept (fun x h => hnT x (hO.mine x h))) (hm.at_ 0 rfl)).mono fun e w' ⟨h1, h2, h3⟩ => ?_
    exact ⟨0, h1, h2, (MemOk.back2 hm2 hm).off (fun _ h => h) h3 (fun x h => .inr (by have := hO.mine x h; omega)) (fun b hb h => hnB b hb (hO.mine _ h))⟩
  clear hnT hnB
  have hO' := (cl_fmt (on_new lb mb 8) hP2.ok (by omega) 7 (by omega)).on.lm
  clear hO
  have hO := hO'
  clear hO'
  have hPlW3 := hP3.lt.1
  have hgbW3_0 : sb < W3.heap.size := (hm3.at_ 0 rfl).lt
  have hwwW3 := hm3.kept.size
  have hnT : ∀ xx, (xx = pb ∨ xx = lb ∨ xx = mb) → ¬ Turned [⟨sb, 92, false, [(pt pb 0), .int .i64 8]⟩] xx := by
    rintro xx hx2 ⟨b, hb, hr, he⟩
    simp at hb
    subst hb <;> simp at he hr <;> omega
  have hnB : ∀ b ∈ ([⟨sb, 92, false, [(pt pb 0), .int .i64 8]⟩] : List Bk), ¬ (b.g = pb ∨ b.g = lb ∨ b.g = mb) := by
    intro b hb hx2
    simp at hb
    subst hb <;> simp at hx2 <;> omega
  refine hgE 18 [oh0, ⟨false, 3, []⟩, oh0, oh0, oh0] lst_n1 [fF, fF, fF] [] [.code [1, 1, 1, 1, 1, 1, 0, 1, 0], .blk 0, .code [1, 1, 1, 1, 1, 1, 1]] ⟨[(0, .slice A n cp), (1, .slice A2 n2 cp2), (2, .slice A3 n3 cp3), (3, .slice K nk kcp), (8, .bool false), (10, (pt pb 0)), (12, (pt sb 0)), (14, (pt W3.heap.size 0)), (15, .int .i64 0)], [⟨sb, 92, false, [(pt pb 0), .int .i64 8]⟩, ⟨W3.heap.size, 53, true, [.bool false, .int .i64 0, .int .i64 0, .int .i64 0, .string ⟨#[]⟩, .bool false, .int .i64 0, .int .i64 0, .int .i64 0, .string ⟨#[]⟩, .bool false, .int .i64 0, .int .i64 0, .int .i64 0, .string ⟨#[]⟩, .bool false, .int .i64 0, .int .i64 0, .int .i64 0, .string ⟨#[]⟩, .bool false, .int .i64 0, .int .i64 0, .int .i64 0, .string ⟨#[]⟩, .bool false, .int .i64 0, .int .i64 0, .int .i64 0, .string ⟨#[]⟩, .bool false, .int .i64 0, .int .i64 0, .int .i64 0, .string ⟨#[]⟩, .bool false, .int .i64 0, .int .i64 0, .int .i64 0, .string ⟨#[]⟩, .bool false, .int .i64 0, .int .i64 0, .int .i64 0, .string ⟨#[]⟩, .bool false, .int .i64 0, .int .i64 0, .int .i64 0, .string ⟨#[]⟩, .bool false, .int .i64 0, .int .i64 0, .int .i64 0, .string ⟨#[]⟩, .bool false, .int .i64 0, .int .i64 0, .int .i64 0, .string ⟨#[]⟩, .bool false, .int .i64 0, .int .i64 0, .int .i64 0, .string ⟨#[]⟩, .bool false, .int .i64 0, .int .i64 0, .int .i64 0, .string ⟨#[]⟩, .bool false, .int .i64 0, .int .i64 0, .int .i64 0, .string ⟨#[]⟩, .bool false, .int .i64 0, .int .i64 0, .int .i64 0, .string ⟨#[]⟩]⟩], [], W3.heap.size + 1⟩ ?_
  obtain ⟨_, _, hG0⟩ := on_fmt (on_new lb mb 8) hP2.ok (by omega) 8 (by omega)
  have hC0 := cl_fmt (on_new lb mb 8) hP2.ok (by omega) 7 (by omega)
  refine holds_loop (LastsI0 A n cp A2 n2 cp2 A3 n3 cp3 K nk kcp pb sb W3) 8 (by kernel_rfl) ⟨0, _, rfl, Nat.le_refl _, rfl⟩ ?_
  rintro m' _ ⟨k, z, hmk, hz, rfl⟩ J hJ
  by_cases hk8 : k < 8
  · skip
    refine hgE 16 [oh0, oh0, oh1, oh0, oh0] [0, 1, 2, 3, 8, 10, 12, 14, 15, 53, 54] [dT (((k : Int) : Int) < 8)] [] [.ops [1, 1, 1, 1, 1, 1, 0, 1, 0, 0, 1, 0, 0] [2, 3, 4, 5], .blk 1, .code [1, 1, 1, 1, 1, 1, 0, 1, 0, 0, 1, 1], .inv J, .blk 0, .code [1, 1, 1, 1, 1, 1, 1]] ⟨[(0, .slice A n cp), (1, .slice A2 n2 cp2), (2, .slice A3 n3 cp3), (3, .slice K nk kcp), (8, .bool false), (10, (pt pb 0)), (12, (pt sb 0)), (14, (pt W3.heap.size 0)), (15, .int .i64 (k : Int)), (53, .int .i64 (k : Int)), (54, .slice (some ⟨z, 0, none⟩) 16 16)], (lst_b6 k pb sb z W3), [], z + 1⟩ ?_
    refine holds_opR (dst := (some 55)) (x := convert 40 9 (.slice (some ⟨z, 0, none⟩) 16 16)) (.string zeros16) (by kernel_rfl) (by kernel_rfl) rfl (fun wx hm => ?_) ?_
    · exact run_bytesAt (P := Try.prog) wx 40 9 5 _ _ _ _ _ (List.replicate 16 0) [] [] (by kernel_rfl) (by kernel_rfl) (by kernel_rfl) (hm.at_ 2 rfl) rfl rfl byts16
    refine hgE 5 [oh0, oh2] [0, 1, 2, 3, 8, 10, 12, 14, 15, 56, 57] [oE ((0 : Int) ≤ (k : Int) ∧ (k : Int) < ((8 : Nat) : Int))] [] [.ops [1, 1, 1, 1, 1, 1, 0, 1, 0, 0, 1, 0, 0] [5], .blk 1, .code [1, 1, 1, 1, 1, 1, 0, 1, 0, 0, 1, 1], .inv J, .blk 0, .code [1, 1, 1, 1, 1, 1, 1]] ⟨[(0, .slice A n cp), (1, .slice A2 n2 cp2), (2, .slice A3 n3 cp3), (3, .slice K nk kcp), (8, .bool false), (10, (pt pb 0)), (12, (pt sb 0)), (14, (pt W3.heap.size 0)), (15, .int .i64 (k : Int)), (56, .agg (List.toArray (lst_v4))), (57, .pointer (some ⟨W3.heap.size, 0 + (Int.toNat (k : Int)) * 10, none⟩))], (lst_b6 k pb sb z W3), [], z + 1⟩ ?_
    refine holds_opS (x := Instr.storeAt 25 (.pointer (some ⟨W3.heap.size, 0 + (Int.toNat (k : Int)) * 10, none⟩)) (.agg (List.toArray (lst_v4)))) (lst_b7 k pb sb z W3) (by kernel_rfl) (by kernel_rfl) rfl (fun wx hm => ?_) (fun z13 hz13 => ?_)
    · have h := store_rec (P := Try.prog) (t := 25) hm (i := 1) (k := k) (now := initR k) (r := fmtR) rfl (by rw [initR_len (by omega)]; exact hk8) (by kernel_rfl)
      rw [initR_set hk8] at h
      exact h
    replace hz13 : z + 1 ≤ z13 := hz13
    refine hgE 10 [oh0, oh2, oh0] lst_n1 [n64 (((k : Int) + 1))] [] [.inv J, .blk 0, .code [1, 1, 1, 1, 1, 1, 1]] ⟨[(0, .slice A n cp), (1, .slice A2 n2 cp2), (2, .slice A3 n3 cp3), (3, .slice K nk kcp), (8, .bool false), (10, (pt pb 0)), (12, (pt sb 0)), (14, (pt W3.heap.size 0)), (15, .int .i64 ((k : Int) + 1))], (lst_b7 k pb sb z W3), [], z13⟩ ?_
    refine holds_prune lst_n1 [true, true, false] ?_
    exact hJ (m' - 1) _ (by omega) ⟨k + 1, z13, by omega, by omega, by rw [cast_succ]; rfl⟩
  have hk9 : k = 8 := by omega
  clear hJ
  refine hgE 17 [oh0, oh0, oh0, oh0] lst_n7 [dF (((k : Int) : Int) < 8)] [] [.code [1, 1, 1, 1, 1, 1, 1, 0, 1, 0], .blk 2, .code lst_n27] ⟨[(0, .slice A n cp), (1, .slice A2 n2 cp2), (2, .slice A3 n3 cp3), (3, .slice K nk kcp), (8, .bool false), (10, (pt pb 0)), (12, (pt sb 0)), (14, (pt W3.heap.size 0)), (16, .int .i64 0)], [⟨sb, 92, false, [(pt pb 0), .int .i64 8]⟩, ⟨W3.heap.size, 53, true, (rowsR (initR k))⟩], [], z⟩ ?_
  have hga : w.heap.size ≤ W3.heap.size := by omega
  refine holds_loopW (w := w) (S' := fun _ => False) (LastsI A n cp A2 n2 cp2 A3 n3 cp3 K nk kcp lb mb pb sb W3) 30 (by kernel_rfl) (fun W4 hm => ⟨⟨0, fmtPl (newPl lb mb 8) 8, initR k, _, rfl, hC0, initR_len (by omega), fun j hj => by rw [hk9, hG0 j (by omega), if_pos (by omega), initR_get hj], hP3.kept hm.kept (fun x h => hnT x (hO.mine x h)), rfl⟩, MemOk.back2 hm3 hm⟩) ?_
  clear hG0 hC0 hnT hnB hO
  rintro m _ W10 ⟨i, M, now, z', hmi, hC, hlen, hgot, hP10, rfl⟩ hm10 J hJ
  have hO := hC.on.lm
  have hPlW10 := hP10.lt.1
  have hgbW10_0 : sb < W10.heap.size := (hm10.at_ 0 rfl).lt
  have hgbW10_1 : W3.heap.size < W10.heap.size := (hm10.at_ 1 rfl).lt
  have hwwW10 := hm10.kept.size
  have hnT : ∀ xx, (xx = pb ∨ xx = lb ∨ xx = mb) → ¬ Turned (lst_b1 pb sb now W3) xx := by
    rintro xx hx2 ⟨b, hb, hr, he⟩
    simp at hb
    rcases hb with rfl | rfl <;> simp at he hr <;> omega
  have hnB : ∀ b ∈ ((lst_b1 pb sb now W3) : List Bk), ¬ (b.g = pb ∨ b.g = lb ∨ b.g = mb) := by
    intro b hb hx2
    simp at hb
    rcases hb with rfl | rfl <;> simp at hx2 <;> omega
  by_cases h1 : i < n
  rotate_left
  · skip
    refine hgE 21 [oh0, oh0, oh0, oh0, oh0, oh0, oh0, ⟨false, 3, []⟩, oh0, oh0] [8] [dF (((i : Int) : Int) < (n : Int)), dF (((i : Int) : Int) < (n : Int)), dF (((i : Int) : Int) < (n : Int)), fF] [] [.code [1, 1, 1, 1, 1, 1, 1, 1, 1]] ⟨[(8, .bool true)], (lst_b1 pb sb now W3), [], W10.heap.size⟩ ?_
    refine hrt [] [.bool true] [] ?_
    intro wx hm
    exact ⟨rfl, (MemOk.back2 hm10 hm).kept⟩
  by_cases h2 : i < 30
  rotate_left
  · skip
    refine hgE 21 [oh0, oh0, oh0, oh0, oh0, oh1, oh1, oh3, oh0, oh0] [8] [dT (((i : Int) : Int) < (n : Int)), dT (((i : Int) : Int) < (n : Int)), dT (((i : Int) : Int) < (n : Int)), dF (((i : Int) : Int) < 30)] [] [.code [1, 1, 1, 1, 1, 1, 1, 1, 1]] ⟨[(8, .bool true)], (lst_b1 pb sb now W3), [], W10.heap.size⟩ ?_
    refine hrt [] [.bool true] [] ?_
    intro wx hm
    exact ⟨rfl, (MemOk.back2 hm10 hm).kept⟩
  obtain ⟨ha, b, o, rfl, hb, hc⟩ := HR i h1
  refine hgE 31 [oh0, oh0, oh0, oh0, oh0, oh1, oh1, oh3, oh1, oh0, oh0, oh0, oh0, oh0] [0, 1, 2, 3, 8, 10, 12, 14, 16, 17, 71] [dT (((i : Int) : Int) < (n : Int)), dT (((i : Int) : Int) < (n : Int)), dT (((i : Int) : Int) < (n : Int)), dT (((i : Int) : Int) < 30)] [] [.code [1, 1, 1, 1, 1, 1, 1, 0, 1, 0, 0, 1, 0, 0, 1, 0, 1], .code [1, 1, 1, 1, 1, 1, 1, 0, 1, 0, 0, 1, 0, 0, 1, 1], .blk 3, .code lst_n26, .inv J, .blk 2, .code lst_n27] ⟨[(0, .slice (some ⟨b, o, none⟩) n cp), (1, .slice A2 n2 cp2), (2, .slice A3 n3 cp3), (3, .slice K nk kcp), (8, .bool false), (10, (pt pb 0)), (12, (pt sb 0)), (14, (pt W3.heap.size 0)), (16, .int .i64 (i : Int)), (17, .int .i64 0), (71, .bool (decide (((i : Int) : Int) < (n2 : Int))))], (lst_b1 pb sb now W3), [], W10.heap.size⟩ ?_
  suffices HXW11 : ∀ (W11 : World) (B : Int), 0 ≤ B ∧ B ≤ 7 → PlatAt 90 94 W11 pb M → MemOk w (fun _ => False) (lst_b1 pb sb now W3) [] W11.heap.size W11 → Holds [] Try.prog (bodyOf Try.f9) 146 W11 (Turned (lst_b1 pb sb now W3)) (bodyPost Try.prog Try.f9 (RetK (.bool true) w)) [.ops lst_n8 [0, 1, 2, 3], .code lst_n10, .code lst_n25, .blk 3, .code lst_n26, .inv J, .blk 2, .code lst_n27] ⟨[(0, .slice (some ⟨b, o, none⟩) n cp), (1, .slice A2 n2 cp2), (2, .slice A3 n3 cp3), (3, .slice K nk kcp), (8, .bool false), (10, (pt pb 0)), (12, (pt sb 0)), (14, (pt W3.heap.size 0)), (16, .int .i64 (i : Int)), (17, .int .i64 B)], (lst_b1 pb sb now W3), [], W11.heap.size⟩ by
    by_cases h3 : i < n2
    rotate_left
    · skip
      refine hgE 8 [oh0] lst_n6 [dF (((i : Int) : Int) < (n2 : Int))] [] [.ops lst_n8 [0, 1, 2, 3], .code lst_n10, .code lst_n25, .blk 3, .code lst_n26, .inv J, .blk 2, .code lst_n27] ⟨[(0, .slice (some ⟨b, o, none⟩) n cp), (1, .slice A2 n2 cp2), (2, .slice A3 n3 cp3), (3, .slice K nk kcp), (8, .bool false), (10, (pt pb 0)), (12, (pt sb 0)), (14, (pt W3.heap.size 0)), (16, .int .i64 (i : Int)), (17, .int .i64 0)], (lst_b1 pb sb now W3), [], W10.heap.size⟩ ?_
      exact holds_ground [true, true] rfl (fun W hm hmW => HXW11 W 0 (by omega) (hP10.kept hm.kept (fun x h => hnT x (hO.mine x h))) (MemOk.back2 hm10 hmW))
    obtain ⟨ha2, b2, o2, rfl, hb2, hc2⟩ := HN i h3
    obtain ⟨B, hB⟩ : ∃ B, pickZ (nums i).v 8 = B := ⟨_, rfl⟩
    have hBb : 0 ≤ B ∧ B ≤ 7 := by
      have h := pickZ_bd (nums i).v 8 (by omega)
      rw [hB] at h
      omega
    have hnb : ∀ x, x < w.heap.size → ¬ Turned (lst_b1 pb sb now W3) x := by
      rintro x hx ⟨b, hb, hr, he⟩
      simp at hb
      rcases hb with rfl | rfl <;> simp at he hr <;> omega
    refine holds_wins [⟨b2, o2 + i * 1, (nums i).cells⟩] (fun _ x hx => ?_) ?_
    · simp only [List.mem_cons, List.not_mem_nil, or_false] at hx
      subst hx
      exact ⟨hnb _ hb2, win_kept hb2 hc2 rfl hm10.kept id⟩
    refine hgE 9 [oh1, oh0, oh0, oh2, ⟨false, 0, [⟨true, 0, 0, 1⟩]⟩] [0, 1, 2, 3, 8, 10, 12, 14, 16, 17, 75] [dT (((i : Int) : Int) < (n2 : Int)), oE ((0 : Int) ≤ (i : Int) ∧ (i : Int) < ((n2 : Nat) : Int))] [(b2, o2 + i * 1, 1)] [.ops [1, 1, 1, 1, 1, 1, 1, 0, 1, 0, 0, 1, 0, 0, 1, 0, 1, 0] [4, 5], .code [1, 1, 1, 1, 1, 1, 1, 0, 1, 0, 0, 1, 0, 0, 1, 1], .blk 3, .code lst_n26, .inv J, .blk 2, .code lst_n27] ⟨[(0, .slice (some ⟨b, o, none⟩) n cp), (1, .slice (some ⟨b2, o2, none⟩) n2 cp2), (2, .slice A3 n3 cp3), (3, .slice K nk kcp), (8, .bool false), (10, (pt pb 0)), (12, (pt sb 0)), (14, (pt W3.heap.size 0)), (16, .int .i64 (i : Int)), (17, .int .i64 0), (75, .int .i64 ((nums i).v))], (lst_b1 pb sb now W3), [⟨b2, o2 + i * 1, [.int .i64 ((nums i).v)]⟩], W10.heap.size⟩ ?_
    refine hcp (.int .i64 B) 19 [.int .i64 ((nums i).v), .int .i64 8] (some 76) [] trivial rfl (fun wx hm => pick8 _ _ _ hB wx (by omega) (by omega) ha2.v) fun z23 hz23 => ?_
    replace hz23 : W10.heap.size ≤ z23 := hz23
    refine hgE 8 [oh0] lst_n6 [] [] [.ops lst_n8 [0, 1, 2, 3], .code lst_n10, .code lst_n25, .blk 3, .code lst_n26, .inv J, .blk 2, .code lst_n27] ⟨[(0, .slice (some ⟨b, o, none⟩) n cp), (1, .slice (some ⟨b2, o2, none⟩) n2 cp2), (2, .slice A3 n3 cp3), (3, .slice K nk kcp), (8, .bool false), (10, (pt pb 0)), (12, (pt sb 0)), (14, (pt W3.heap.size 0)), (16, .int .i64 (i : Int)), (17, .int .i64 B)], (lst_b1 pb sb now W3), [⟨b2, o2 + i * 1, [.int .i64 ((nums i).v)]⟩], z23⟩ ?_
    clear hnb
    refine holds_wins [] (fun _ _ h => by cases h) ?_
    exact holds_ground [true, true] rfl (fun W hm hmW => HXW11 W B hBb (hP10.kept hm.kept (fun x h => hnT x (hO.mine x h))) (MemOk.back2 hm10 hmW))
  clear hnT hnB
  intro W11 B hBb hP11 hm11
  have hPlW11 := hP11.lt.1
  have hgbW11_0 : sb < W11.heap.size := (hm11.at_ 0 rfl).lt
  have hgbW11_1 : W3.heap.size < W11.heap.size := (hm11.at_ 1 rfl).lt
  have hwwW11 := hm11.kept.size
  have hnT : ∀ xx, (xx = pb ∨ xx = lb ∨ xx = mb) → ¬ Turned (lst_b1 pb sb now W3) xx := by
    rintro xx hx2 ⟨b, hb, hr, he⟩
    simp at hb
    rcases hb with rfl | rfl <;> simp at he hr <;> omega
  have hnB : ∀ b ∈ ((lst_b1 pb sb now W3) : List Bk), ¬ (b.g = pb ∨ b.g = lb ∨ b.g = mb) := by
    intro b hb hx2
    simp at hb
    rcases hb with rfl | rfl <;> simp at hx2 <;> omega
  refine hgE 8 [oh0, oh0, oh0, oh0] [0, 1, 2, 3, 8, 10, 12, 14, 16, 17, 80] [] [] [.code lst_n10, .code lst_n25, .blk 3, .code lst_n26, .inv J, .blk 2, .code lst_n27] ⟨[(0, .slice (some ⟨b, o, none⟩) n cp), (1, .slice A2 n2 cp2), (2, .slice A3 n3 cp3), (3, .slice K nk kcp), (8, .bool false), (10, (pt pb 0)), (12, (pt sb 0)), (14, (pt W3.heap.size 0)), (16, .int .i64 (i : Int)), (17, .int .i64 B), (80, .bool (decide (((i : Int) : Int) < (n3 : Int))))], (lst_b1 pb sb now W3), [], W11.heap.size⟩ ?_
  suffices HXW21 : ∀ (W21 : World) (d : Int), 0 ≤ d ∧ d ≤ 3 → PlatAt 90 94 W21 pb (armPl M d) → MemOk w (fun _ => False) (lst_b1 pb sb now W3) [] W21.heap.size W21 → Holds [] Try.prog (bodyOf Try.f9) 146 W21 (Turned (lst_b1 pb sb now W3)) (bodyPost Try.prog Try.f9 (RetK (.bool true) w)) [.ops lst_n11 [0, 1, 2, 3, 4, 5, 6], .code lst_n24, .blk 3, .code lst_n26, .inv J, .blk 2, .code lst_n27] ⟨[(0, .slice (some ⟨b, o, none⟩) n cp), (1, .slice A2 n2 cp2), (2, .slice A3 n3 cp3), (3, .slice K nk kcp), (8, .bool false), (10, (pt pb 0)), (12, (pt sb 0)), (14, (pt W3.heap.size 0)), (16, .int .i64 (i : Int)), (17, .int .i64 B)], (lst_b1 pb sb now W3), [], W21.heap.size⟩ by
    by_cases h4 : i < n3
    rotate_left
    · skip
      refine hgE 7 [oh0] lst_n6 [dF (((i : Int) : Int) < (n3 : Int))] [] [.ops lst_n11 [0, 1, 2, 3, 4, 5, 6], .code lst_n24, .blk 3, .code lst_n26, .inv J, .blk 2, .code lst_n27] ⟨[(0, .slice (some ⟨b, o, none⟩) n cp), (1, .slice A2 n2 cp2), (2, .slice A3 n3 cp3), (3, .slice K nk kcp), (8, .bool false), (10, (pt pb 0)), (12, (pt sb 0)), (14, (pt W3.heap.size 0)), (16, .int .i64 (i : Int)), (17, .int .i64 B)], (lst_b1 pb sb now W3), [], W11.heap.size⟩ ?_
      have hP11' := hP11
      rw [show M = armPl M 0 from (arm_none hC).symm] at hP11'
      exact holds_ground [true, true] rfl (fun W hm hmW => HXW21 W 0 (by omega) (hP11'.kept hm.kept (fun x h => hnT x ((hO.arm 0).mine x h))) (MemOk.back2 hm11 hmW))
    obtain ⟨ha3, b3, o3, rfl, hb3, hc3⟩ := HA i h4
    obtain ⟨d, hd⟩ : ∃ d, pickZ (arms i).v 4 = d := ⟨_, rfl⟩
    have hdb : 0 ≤ d ∧ d ≤ 3 := by
      have h := pickZ_bd (arms i).v 4 (by omega)
      rw [hd] at h
      omega
    have hnb : ∀ x, x < w.heap.size → ¬ Turned (lst_b1 pb sb now W3) x := by
      rintro x hx ⟨b, hb, hr, he⟩
      simp at hb
      rcases hb with rfl | rfl <;> simp at he hr <;> omega
    refine holds_wins [⟨b3, o3 + i * 1, (arms i).cells⟩] (fun _ x hx => ?_) ?_
    · simp only [List.mem_cons, List.not_mem_nil, or_false] at hx
      subst hx
      exact ⟨hnb _ hb3, win_kept hb3 hc3 rfl hm11.kept id⟩
    refine hgE 10 [oh1, oh0, oh0, oh0, oh2, ⟨false, 0, [⟨true, 0, 0, 1⟩]⟩] [0, 1, 2, 3, 8, 10, 12, 14, 16, 17, 81, 85] [dT (((i : Int) : Int) < (n3 : Int)), oE ((0 : Int) ≤ (i : Int) ∧ (i : Int) < ((n3 : Nat) : Int))] [(b3, o3 + i * 1, 1)] [.ops lst_n9 [5, 6], .code lst_n25, .blk 3, .code lst_n26, .inv J, .blk 2, .code lst_n27] ⟨[(0, .slice (some ⟨b, o, none⟩) n cp), (1, .slice A2 n2 cp2), (2, .slice (some ⟨b3, o3, none⟩) n3 cp3), (3, .slice K nk kcp), (8, .bool false), (10, (pt pb 0)), (12, (pt sb 0)), (14, (pt W3.heap.size 0)), (16, .int .i64 (i : Int)), (17, .int .i64 B), (81, (pt pb 0)), (85, .int .i64 ((arms i).v))], (lst_b1 pb sb now W3), [⟨b3, o3 + i * 1, [.int .i64 ((arms i).v)]⟩], W11.heap.size⟩ ?_
    refine hcp (.int .i64 d) 19 [.int .i64 ((arms i).v), .int .i64 4] (some 86) [] trivial rfl (fun wx hm => pick8 _ _ _ hd wx (by omega) (by omega) ha3.v) fun z28 hz28 => ?_
    replace hz28 : W11.heap.size ≤ z28 := hz28
    refine hgE 3 [] [0, 1, 2, 3, 8, 10, 12, 14, 16, 17, 81, 86] [] [] [.ops lst_n9 [6], .code lst_n25, .blk 3, .code lst_n26, .inv J, .blk 2, .code lst_n27] ⟨[(0, .slice (some ⟨b, o, none⟩) n cp), (1, .slice A2 n2 cp2), (2, .slice (some ⟨b3, o3, none⟩) n3 cp3), (3, .slice K nk kcp), (8, .bool false), (10, (pt pb 0)), (12, (pt sb 0)), (14, (pt W3.heap.size 0)), (16, .int .i64 (i : Int)), (17, .int .i64 B), (81, (pt pb 0)), (86, .int .i64 d)], (lst_b1 pb sb now W3), [⟨b3, o3 + i * 1, [.int .i64 ((arms i).v)]⟩], z28⟩ ?_
    clear hnb
    refine holds_wins [] (fun _ _ h => by cases h) ?_
    refine holds_callW (w := w) (S' := (fun _ => False)) (Y := Nat) (fun _ => .int .i64 (armE d)) (fun _ => (lst_b1 pb sb now W3)) (fun _ W_ => PlatAt 90 94 W_ pb (armPl M d)) (fun _ => [(87, .int .i64 (armE d)), (0, .slice (some ⟨b, o, none⟩) n cp), (1, .slice A2 n2 cp2), (2, .slice (some ⟨b3, o3, none⟩) n3 cp3), (3, .slice K nk kcp), (8, .bool false), (10, (pt pb 0)), (12, (pt sb 0)), (14, (pt W3.heap.size 0)), (16, .int .i64 (i : Int)), (17, .int .i64 B), (81, (pt pb 0)), (86, .int .i64 d)]) (show _ = some (26, [(pt pb 0), .int .i64 d], some 87, []) by kernel_rfl) trivial (fun _ => rfl) (fun wx hm => ?_) (fun _ W21 hP21 hm21 => ?_)
    · refine (arm_pl M pb d wx (hP11.kept hm.kept (fun x h => hnT x (hO.mine x h)))).mono fun e w' ⟨h1, h2, h3⟩ => ?_
      exact ⟨0, h1, h2, (MemOk.back2 hm11 hm).off (fun _ h => h) h3 (fun x h => .inr (by have := hO.mine x h; omega)) (fun b hb h => hnB b hb (hO.mine _ h))⟩
    clear hnT hnB
    have hO' := hO.arm d
    clear hO
    have hO := hO'
    clear hO'
    have hPlW21 := hP21.lt.1
    have hgbW21_0 : sb < W21.heap.size := (hm21.at_ 0 rfl).lt
    have hgbW21_1 : W3.heap.size < W21.heap.size := (hm21.at_ 1 rfl).lt
    have hwwW21 := hm21.kept.size
    have hnT : ∀ xx, (xx = pb ∨ xx = lb ∨ xx = mb) → ¬ Turned (lst_b1 pb sb now W3) xx := by
      rintro xx hx2 ⟨b, hb, hr, he⟩
      simp at hb
      rcases hb with rfl | rfl <;> simp at he hr <;> omega
    have hnB : ∀ b ∈ ((lst_b1 pb sb now W3) : List Bk), ¬ (b.g = pb ∨ b.g = lb ∨ b.g = mb) := by
      intro b hb hx2
      simp at hb
      rcases hb with rfl | rfl <;> simp at hx2 <;> omega
    refine hgE 6 [] lst_n6 [] [] [.ops lst_n11 [0, 1, 2, 3, 4, 5, 6], .code lst_n24, .blk 3, .code lst_n26, .inv J, .blk 2, .code lst_n27] ⟨[(0, .slice (some ⟨b, o, none⟩) n cp), (1, .slice A2 n2 cp2), (2, .slice (some ⟨b3, o3, none⟩) n3 cp3), (3, .slice K nk kcp), (8, .bool false), (10, (pt pb 0)), (12, (pt sb 0)), (14, (pt W3.heap.size 0)), (16, .int .i64 (i : Int)), (17, .int .i64 B)], (lst_b1 pb sb now W3), [], W21.heap.size⟩ ?_
    exact holds_ground [true, true] rfl (fun W hm hmW => HXW21 W d hdb (hP21.kept hm.kept (fun x h => hnT x (hO.mine x h))) (MemOk.back2 hm21 hmW))
  clear hnT hnB
  intro W21 d hdb hP21 hm21
  have hO' := hO.arm d
  clear hO
  have hO := hO'
  clear hO'
  have hPlW21 := hP21.lt.1
  have hgbW21_0 : sb < W21.heap.size := (hm21.at_ 0 rfl).lt
  have hgbW21_1 : W3.heap.size < W21.heap.size := (hm21.at_ 1 rfl).lt
  have hwwW21 := hm21.kept.size
  have hnT : ∀ xx, (xx = pb ∨ xx = lb ∨ xx = mb) → ¬ Turned (lst_b1 pb sb now W3) xx := by
    rintro xx hx2 ⟨b, hb, hr, he⟩
    simp at hb
    rcases hb with rfl | rfl <;> simp at he hr <;> omega
  have hnB : ∀ b ∈ ((lst_b1 pb sb now W3) : List Bk), ¬ (b.g = pb ∨ b.g = lb ∨ b.g = mb) := by
    intro b hb hx2
    simp at hb
    rcases hb with rfl | rfl <;> simp at hx2 <;> omega
  obtain ⟨r, hr⟩ : ∃ r, fitR (raws i) = r := ⟨_, rfl⟩
  have hrk : RecOk r := hr ▸ fitR_ok _
  obtain ⟨hC4, hG4, hS4⟩ := last_step hC hP11.ok hdb hrk hBb (by omega) (keepB nk kf)
  have hnb : ∀ x, x < w.heap.size → ¬ Turned (lst_b1 pb sb now W3) x := by
    rintro x hx ⟨b, hb, hr, he⟩
    simp at hb
    rcases hb with rfl | rfl <;> simp at he hr <;> omega
  refine holds_wins [⟨b, o + i * 9, (raws i).cells⟩] (fun _ x hx => ?_) ?_
  · simp only [List.mem_cons, List.not_mem_nil, or_false] at hx
    subst hx
    exact ⟨hnb _ hb, win_kept hb hc rfl hm21.kept id⟩
  refine hgE 7 [oh0, oh0, oh2, ⟨false, 0, [⟨true, 0, 0, 9⟩]⟩] [0, 1, 2, 3, 8, 10, 12, 14, 16, 17, 91] [oE ((0 : Int) ≤ (i : Int) ∧ (i : Int) < ((n : Nat) : Int))] [(b, o + i * 9, 9)] [.ops lst_n11 [4, 5, 6], .code lst_n24, .blk 3, .code lst_n26, .inv J, .blk 2, .code lst_n27] ⟨[(0, .slice (some ⟨b, o, none⟩) n cp), (1, .slice A2 n2 cp2), (2, .slice A3 n3 cp3), (3, .slice K nk kcp), (8, .bool false), (10, (pt pb 0)), (12, (pt sb 0)), (14, (pt W3.heap.size 0)), (16, .int .i64 (i : Int)), (17, .int .i64 B), (91, .agg (List.toArray (lst_v5 raws i)))], (lst_b1 pb sb now W3), [⟨b, o + i * 9, (lst_v5 raws i)⟩], W21.heap.size⟩ ?_
  refine hcp (.agg (List.toArray (lst_v1 r))) 18 [.agg (List.toArray (lst_v5 raws i))] (some 92) [] trivial rfl (fun wx hm => by have h := fitR_any (raws i) ha wx; rw [hr] at h; exact h) fun z33 hz33 => ?_
  replace hz33 : W21.heap.size ≤ z33 := hz33
  refine hgE 11 [oh0, ⟨false, 0, [⟨false, 2, 0, 10⟩]⟩, oh0, oh0, ⟨false, 0, [⟨false, 2, 0, 10⟩]⟩] lst_n5 [] [(z33, 0, 10), (z33, 0, 10)] [.ops lst_n12 [3, 4], .code lst_n23, .blk 3, .code lst_n26, .inv J, .blk 2, .code lst_n27] ⟨[(0, .slice (some ⟨b, o, none⟩) n cp), (1, .slice A2 n2 cp2), (2, .slice A3 n3 cp3), (3, .slice K nk kcp), (8, .bool false), (10, (pt pb 0)), (12, (pt sb 0)), (14, (pt W3.heap.size 0)), (16, .int .i64 (i : Int)), (17, .int .i64 B), (18, (pt z33 0)), (93, (pt sb 0)), (94, .int .i64 B), (95, .agg (List.toArray (lst_v1 r)))], (lst_b8 pb sb now r W3 z33), [⟨b, o + i * 9, (lst_v5 raws i)⟩], z33 + 1⟩ ?_
  clear hnb
  refine holds_wins [] (fun _ _ h => by cases h) ?_
  have hac := hC.on.acts
  have hacd : (armPl M d).acts = M.acts := by rw [arm_is hdb]
  clear hnB
  have hnB : ∀ b ∈ ((lst_b8 pb sb now r W3 z33) : List Bk), ¬ (b.g = pb ∨ b.g = lb ∨ b.g = mb) := by
    intro b hb hx2
    simp at hb
    rcases hb with rfl | rfl | rfl <;> simp at hx2 <;> omega
  suffices HXW41 : ∀ (W41 : World) (nw : List RecM) (F : Bool), nw.length = 8 → (∀ k : Nat, k < 8 → (k : Int) ≠ B → gotM (restartPl (armPl (setPl (armPl M d) B r) 0) (keepB nk kf)) (k : Int) = getR nw k) → (gotM (restartPl (armPl (setPl (armPl M d) B r) 0) (keepB nk kf)) B = getR nw (Int.toNat B) ∨ F = true ∧ gotM (restartPl (armPl (setPl (armPl M d) B r) 0) (keepB nk kf)) B = r) → PlatAt 90 94 W41 pb (armPl (setPl (armPl M d) B r) 0) → MemOk w (fun _ => False) (lst_b4 pb sb nw r W3 z33) [] W41.heap.size W41 → Holds [] Try.prog (bodyOf Try.f9) 146 W41 (Turned (lst_b4 pb sb nw r W3 z33)) (bodyPost Try.prog Try.f9 (RetK (.bool true) w)) [.ops lst_n15 [0, 1, 2], .code lst_n20, .blk 3, .code lst_n26, .inv J, .blk 2, .code lst_n27] ⟨[(0, .slice (some ⟨b, o, none⟩) n cp), (1, .slice A2 n2 cp2), (2, .slice A3 n3 cp3), (3, .slice K nk kcp), (8, .bool false), (10, (pt pb 0)), (12, (pt sb 0)), (14, (pt W3.heap.size 0)), (16, .int .i64 (i : Int)), (17, .int .i64 B), (18, (pt z33 0)), (20, .bool F)], (lst_b4 pb sb nw r W3 z33), [], W41.heap.size⟩ by
    have hoth : ∀ k : Nat, k < 8 → (k : Int) ≠ B → gotM (restartPl (armPl (setPl (armPl M d) B r) 0) (keepB nk kf)) (k : Int) = getR now k := fun k hk hne => (hG4 k (by omega) hne).trans (hgot k hk)
    have hBg : gotM M B = getR now (Int.toNat B) := by have h := hgot (Int.toNat B) (by omega); rwa [show ((Int.toNat B : Nat) : Int) = B by omega] at h
    rcases hS4 with ⟨hE, hF, hgB⟩ | ⟨hE, hF, hgB⟩
    · skip
      refine hgE 3 [] lst_n5 [] [] [.ops lst_n12 [3, 4], .code lst_n23, .blk 3, .code lst_n26, .inv J, .blk 2, .code lst_n27] ⟨[(0, .slice (some ⟨b, o, none⟩) n cp), (1, .slice A2 n2 cp2), (2, .slice A3 n3 cp3), (3, .slice K nk kcp), (8, .bool false), (10, (pt pb 0)), (12, (pt sb 0)), (14, (pt W3.heap.size 0)), (16, .int .i64 (i : Int)), (17, .int .i64 B), (18, (pt z33 0)), (93, (pt sb 0)), (94, .int .i64 B), (95, .agg (List.toArray (lst_v1 r)))], (lst_b8 pb sb now r W3 z33), [], z33 + 1⟩ ?_
      refine holds_callW (w := w) (S' := (fun _ => False)) (Y := Nat) (fun _ => .int .i64 0) (fun _ => (lst_b8 pb sb now r W3 z33)) (fun _ W_ => PlatAt 90 94 W_ pb (setPl (armPl M d) B r)) (fun _ => [(96, .int .i64 0), (0, .slice (some ⟨b, o, none⟩) n cp), (1, .slice A2 n2 cp2), (2, .slice A3 n3 cp3), (3, .slice K nk kcp), (8, .bool false), (10, (pt pb 0)), (12, (pt sb 0)), (14, (pt W3.heap.size 0)), (16, .int .i64 (i : Int)), (17, .int .i64 B), (18, (pt z33 0)), (93, (pt sb 0)), (94, .int .i64 B), (95, .agg (List.toArray (lst_v1 r)))]) (show _ = some (24, [(pt sb 0), .int .i64 B, .agg (List.toArray (lst_v1 r))], some 96, []) by kernel_rfl) trivial (fun _ => rfl) (fun wx hm => ?_) (fun _ W22 hP22 hm22 => ?_)
      · refine (set_pl (armPl M d) sb pb 8 B r hrk hBb (by omega) (by rw [hO.n]; omega) (by omega) (fun h => by have := hO.mine sb h; omega) wx (hP21.kept hm.kept (fun x h => hnT x (hO.mine x h))) (hm.at_ 0 rfl)).mono fun e w' ⟨h1, h2, h3⟩ => ?_
        rw [hE] at h1
        exact ⟨0, h1, h2, (MemOk.back2 hm21 hm).off (fun _ h => h) h3 (fun x h => .inr (by have := hO.mine x h; omega)) (fun b hb h => hnB b hb (hO.mine _ h))⟩
      clear hnT hnB
      have hO' := hO.set B r
      clear hO
      have hO := hO'
      clear hO'
      have hPlW22 := hP22.lt.1
      have hgbW22_0 : sb < W22.heap.size := (hm22.at_ 0 rfl).lt
      have hgbW22_1 : W3.heap.size < W22.heap.size := (hm22.at_ 1 rfl).lt
      have hgbW22_2 : z33 < W22.heap.size := (hm22.at_ 2 rfl).lt
      have hwwW22 := hm22.kept.size
      have hnT : ∀ xx, (xx = pb ∨ xx = lb ∨ xx = mb) → ¬ Turned (lst_b8 pb sb now r W3 z33) xx := by
        rintro xx hx2 ⟨b, hb, hr, he⟩
        simp at hb
        rcases hb with rfl | rfl | rfl <;> simp at he hr <;> omega
      have hnB : ∀ b ∈ ((lst_b8 pb sb now r W3 z33) : List Bk), ¬ (b.g = pb ∨ b.g = lb ∨ b.g = mb) := by
        intro b hb hx2
        simp at hb
        rcases hb with rfl | rfl | rfl <;> simp at hx2 <;> omega
      refine hgE 8 [oh0, oh0] [0, 1, 2, 3, 8, 10, 12, 14, 16, 17, 18, 19, 97] [] [] [.ops lst_n13 [1, 2], .code lst_n22, .blk 3, .code lst_n26, .inv J, .blk 2, .code lst_n27] ⟨[(0, .slice (some ⟨b, o, none⟩) n cp), (1, .slice A2 n2 cp2), (2, .slice A3 n3 cp3), (3, .slice K nk kcp), (8, .bool false), (10, (pt pb 0)), (12, (pt sb 0)), (14, (pt W3.heap.size 0)), (16, .int .i64 (i : Int)), (17, .int .i64 B), (18, (pt z33 0)), (19, .int .i64 0), (97, (pt pb 0))], (lst_b8 pb sb now r W3 z33), [], W22.heap.size⟩ ?_
      refine hcp (.bool false) 27 [(pt pb 0)] (some 98) [] trivial rfl (fun wx hm => by have h := off_pl (setPl (armPl M d) B r) pb wx (hP22.kept hm.kept (fun x h => hnT x (hO.mine x h))); rw [hF] at h; exact h) fun z38 hz38 => ?_
      replace hz38 : W22.heap.size ≤ z38 := hz38
      refine hgE 8 [oh0, oh0] [0, 1, 2, 3, 8, 10, 12, 14, 16, 17, 18, 19, 20, 99] [] [] [.ops lst_n14 [1], .code lst_n21, .blk 3, .code lst_n26, .inv J, .blk 2, .code lst_n27] ⟨[(0, .slice (some ⟨b, o, none⟩) n cp), (1, .slice A2 n2 cp2), (2, .slice A3 n3 cp3), (3, .slice K nk kcp), (8, .bool false), (10, (pt pb 0)), (12, (pt sb 0)), (14, (pt W3.heap.size 0)), (16, .int .i64 (i : Int)), (17, .int .i64 B), (18, (pt z33 0)), (19, .int .i64 0), (20, .bool false), (99, (pt pb 0))], (lst_b8 pb sb now r W3 z33), [], z38⟩ ?_
      refine holds_callW (w := w) (S' := (fun _ => False)) (Y := Nat) (fun _ => .int .i64 0) (fun _ => (lst_b8 pb sb now r W3 z33)) (fun _ W_ => PlatAt 90 94 W_ pb (armPl (setPl (armPl M d) B r) 0)) (fun _ => [(100, .int .i64 0), (0, .slice (some ⟨b, o, none⟩) n cp), (1, .slice A2 n2 cp2), (2, .slice A3 n3 cp3), (3, .slice K nk kcp), (8, .bool false), (10, (pt pb 0)), (12, (pt sb 0)), (14, (pt W3.heap.size 0)), (16, .int .i64 (i : Int)), (17, .int .i64 B), (18, (pt z33 0)), (19, .int .i64 0), (20, .bool false), (99, (pt pb 0))]) (show _ = some (26, [(pt pb 0), .int .i64 0], some 100, []) by kernel_rfl) trivial (fun _ => rfl) (fun wx hm => ?_) (fun _ W23 hP23 hm23 => ?_)
      · refine (arm_pl (setPl (armPl M d) B r) pb 0 wx (hP22.kept hm.kept (fun x h => hnT x (hO.mine x h)))).mono fun e w' ⟨h1, h2, h3⟩ => ?_
        exact ⟨0, h1, h2, (MemOk.back2 hm22 hm).off (fun _ h => h) h3 (fun x h => .inr (by have := hO.mine x h; omega)) (fun b hb h => hnB b hb (hO.mine _ h))⟩
      clear hnT hnB
      have hO' := hO.arm 0
      clear hO
      have hO := hO'
      clear hO'
      have hPlW23 := hP23.lt.1
      have hgbW23_0 : sb < W23.heap.size := (hm23.at_ 0 rfl).lt
      have hgbW23_1 : W3.heap.size < W23.heap.size := (hm23.at_ 1 rfl).lt
      have hgbW23_2 : z33 < W23.heap.size := (hm23.at_ 2 rfl).lt
      have hwwW23 := hm23.kept.size
      have hnT : ∀ xx, (xx = pb ∨ xx = lb ∨ xx = mb) → ¬ Turned (lst_b8 pb sb now r W3 z33) xx := by
        rintro xx hx2 ⟨b, hb, hr, he⟩
        simp at hb
        rcases hb with rfl | rfl | rfl <;> simp at he hr <;> omega
      have hnB : ∀ b ∈ ((lst_b8 pb sb now r W3 z33) : List Bk), ¬ (b.g = pb ∨ b.g = lb ∨ b.g = mb) := by
        intro b hb hx2
        simp at hb
        rcases hb with rfl | rfl | rfl <;> simp at hx2 <;> omega
      refine hgE 15 [oh0, oh0, oh1, oh0, ⟨false, 0, [⟨false, 2, 0, 10⟩]⟩, oh2] [0, 1, 2, 3, 8, 10, 12, 14, 16, 17, 18, 20, 104, 105] [tT, oE ((0 : Int) ≤ B ∧ B < ((8 : Nat) : Int))] [(z33, 0, 10)] [.ops [1, 1, 1, 1, 1, 1, 1, 0, 1, 0, 0, 1, 0, 0, 1, 1, 1, 1, 1, 1, 1, 0, 1, 0] [3], .code [1, 1, 1, 1, 1, 1, 1, 0, 1, 0, 0, 1, 0, 0, 1, 1, 1, 1, 1, 1, 1, 1], .blk 3, .code lst_n26, .inv J, .blk 2, .code lst_n27] ⟨[(0, .slice (some ⟨b, o, none⟩) n cp), (1, .slice A2 n2 cp2), (2, .slice A3 n3 cp3), (3, .slice K nk kcp), (8, .bool false), (10, (pt pb 0)), (12, (pt sb 0)), (14, (pt W3.heap.size 0)), (16, .int .i64 (i : Int)), (17, .int .i64 B), (18, (pt z33 0)), (20, .bool false), (104, .agg (List.toArray (lst_v1 r))), (105, .pointer (some ⟨W3.heap.size, 0 + (Int.toNat B) * 10, none⟩))], (lst_b8 pb sb now r W3 z33), [], W23.heap.size⟩ ?_
      refine holds_opS (x := Instr.storeAt 25 (.pointer (some ⟨W3.heap.size, 0 + (Int.toNat B) * 10, none⟩)) (.agg (List.toArray (lst_v1 r)))) (lst_b9 B pb sb now r W3 z33) (by kernel_rfl) (by kernel_rfl) rfl (fun wx hm => ?_) (fun z42 hz42 => ?_)
      · exact store_rec (P := Try.prog) (t := 25) hm (i := 1) (k := Int.toNat B) (now := now) (r := r) rfl (by rw [hlen]; omega) (by kernel_rfl)
      replace hz42 : W23.heap.size ≤ z42 := hz42
      refine hgE 6 [] [0, 1, 2, 3, 8, 10, 12, 14, 16, 17, 18, 20] [] [] [.ops lst_n15 [0, 1, 2], .code lst_n20, .blk 3, .code lst_n26, .inv J, .blk 2, .code lst_n27] ⟨[(0, .slice (some ⟨b, o, none⟩) n cp), (1, .slice A2 n2 cp2), (2, .slice A3 n3 cp3), (3, .slice K nk kcp), (8, .bool false), (10, (pt pb 0)), (12, (pt sb 0)), (14, (pt W3.heap.size 0)), (16, .int .i64 (i : Int)), (17, .int .i64 B), (18, (pt z33 0)), (20, .bool false)], (lst_b9 B pb sb now r W3 z33), [], z42⟩ ?_
      exact holds_ground [true, true, true] rfl (fun W hm hmW => HXW41 W (List.set now (Int.toNat B) r) false (by rw [List.length_set]; exact hlen) (fun k hk hne => by rw [getR_set_ne (by omega)]; exact hoth k hk hne) (.inl (by rw [hgB, getR_set_self (by omega)])) (hP23.kept hm.kept (fun x h => hnT x (hO.mine x h))) (MemOk.back2 hm23 hmW))
    · skip
      refine hgE 3 [] lst_n5 [] [] [.ops lst_n12 [3, 4], .code lst_n23, .blk 3, .code lst_n26, .inv J, .blk 2, .code lst_n27] ⟨[(0, .slice (some ⟨b, o, none⟩) n cp), (1, .slice A2 n2 cp2), (2, .slice A3 n3 cp3), (3, .slice K nk kcp), (8, .bool false), (10, (pt pb 0)), (12, (pt sb 0)), (14, (pt W3.heap.size 0)), (16, .int .i64 (i : Int)), (17, .int .i64 B), (18, (pt z33 0)), (93, (pt sb 0)), (94, .int .i64 B), (95, .agg (List.toArray (lst_v1 r)))], (lst_b8 pb sb now r W3 z33), [], z33 + 1⟩ ?_
      refine holds_callW (w := w) (S' := (fun _ => False)) (Y := Nat) (fun _ => .int .i64 70) (fun _ => (lst_b8 pb sb now r W3 z33)) (fun _ W_ => PlatAt 90 94 W_ pb (setPl (armPl M d) B r)) (fun _ => [(96, .int .i64 70), (0, .slice (some ⟨b, o, none⟩) n cp), (1, .slice A2 n2 cp2), (2, .slice A3 n3 cp3), (3, .slice K nk kcp), (8, .bool false), (10, (pt pb 0)), (12, (pt sb 0)), (14, (pt W3.heap.size 0)), (16, .int .i64 (i : Int)), (17, .int .i64 B), (18, (pt z33 0)), (93, (pt sb 0)), (94, .int .i64 B), (95, .agg (List.toArray (lst_v1 r)))]) (show _ = some (24, [(pt sb 0), .int .i64 B, .agg (List.toArray (lst_v1 r))], some 96, []) by kernel_rfl) trivial (fun _ => rfl) (fun wx hm => ?_) (fun _ W22 hP22 hm22 => ?_)
      · refine (set_pl (armPl M d) sb pb 8 B r hrk hBb (by omega) (by rw [hO.n]; omega) (by omega) (fun h => by have := hO.mine sb h; omega) wx (hP21.kept hm.kept (fun x h => hnT x (hO.mine x h))) (hm.at_ 0 rfl)).mono fun e w' ⟨h1, h2, h3⟩ => ?_
        rw [hE] at h1
        exact ⟨0, h1, h2, (MemOk.back2 hm21 hm).off (fun _ h => h) h3 (fun x h => .inr (by have := hO.mine x h; omega)) (fun b hb h => hnB b hb (hO.mine _ h))⟩
      clear hnT hnB
      have hO' := hO.set B r
      clear hO
      have hO := hO'
      clear hO'
      have hPlW22 := hP22.lt.1
      have hgbW22_0 : sb < W22.heap.size := (hm22.at_ 0 rfl).lt
      have hgbW22_1 : W3.heap.size < W22.heap.size := (hm22.at_ 1 rfl).lt
      have hgbW22_2 : z33 < W22.heap.size := (hm22.at_ 2 rfl).lt
      have hwwW22 := hm22.kept.size
      have hnT : ∀ xx, (xx = pb ∨ xx = lb ∨ xx = mb) → ¬ Turned (lst_b8 pb sb now r W3 z33) xx := by
        rintro xx hx2 ⟨b, hb, hr, he⟩
        simp at hb
        rcases hb with rfl | rfl | rfl <;> simp at he hr <;> omega
      have hnB : ∀ b ∈ ((lst_b8 pb sb now r W3 z33) : List Bk), ¬ (b.g = pb ∨ b.g = lb ∨ b.g = mb) := by
        intro b hb hx2
        simp at hb
        rcases hb with rfl | rfl | rfl <;> simp at hx2 <;> omega
      refine hgE 8 [oh0, oh0] [0, 1, 2, 3, 8, 10, 12, 14, 16, 17, 18, 19, 97] [] [] [.ops lst_n13 [1, 2], .code lst_n22, .blk 3, .code lst_n26, .inv J, .blk 2, .code lst_n27] ⟨[(0, .slice (some ⟨b, o, none⟩) n cp), (1, .slice A2 n2 cp2), (2, .slice A3 n3 cp3), (3, .slice K nk kcp), (8, .bool false), (10, (pt pb 0)), (12, (pt sb 0)), (14, (pt W3.heap.size 0)), (16, .int .i64 (i : Int)), (17, .int .i64 B), (18, (pt z33 0)), (19, .int .i64 70), (97, (pt pb 0))], (lst_b8 pb sb now r W3 z33), [], W22.heap.size⟩ ?_
      refine hcp (.bool true) 27 [(pt pb 0)] (some 98) [] trivial rfl (fun wx hm => by have h := off_pl (setPl (armPl M d) B r) pb wx (hP22.kept hm.kept (fun x h => hnT x (hO.mine x h))); rw [hF] at h; exact h) fun z47 hz47 => ?_
      replace hz47 : W22.heap.size ≤ z47 := hz47
      refine hgE 8 [oh0, oh0] [0, 1, 2, 3, 8, 10, 12, 14, 16, 17, 18, 19, 20, 99] [] [] [.ops lst_n14 [1], .code lst_n21, .blk 3, .code lst_n26, .inv J, .blk 2, .code lst_n27] ⟨[(0, .slice (some ⟨b, o, none⟩) n cp), (1, .slice A2 n2 cp2), (2, .slice A3 n3 cp3), (3, .slice K nk kcp), (8, .bool false), (10, (pt pb 0)), (12, (pt sb 0)), (14, (pt W3.heap.size 0)), (16, .int .i64 (i : Int)), (17, .int .i64 B), (18, (pt z33 0)), (19, .int .i64 70), (20, .bool true), (99, (pt pb 0))], (lst_b8 pb sb now r W3 z33), [], z47⟩ ?_
      refine holds_callW (w := w) (S' := (fun _ => False)) (Y := Nat) (fun _ => .int .i64 0) (fun _ => (lst_b8 pb sb now r W3 z33)) (fun _ W_ => PlatAt 90 94 W_ pb (armPl (setPl (armPl M d) B r) 0)) (fun _ => [(100, .int .i64 0), (0, .slice (some ⟨b, o, none⟩) n cp), (1, .slice A2 n2 cp2), (2, .slice A3 n3 cp3), (3, .slice K nk kcp), (8, .bool false), (10, (pt pb 0)), (12, (pt sb 0)), (14, (pt W3.heap.size 0)), (16, .int .i64 (i : Int)), (17, .int .i64 B), (18, (pt z33 0)), (19, .int .i64 70), (20, .bool true), (99, (pt pb 0))]) (show _ = some (26, [(pt pb 0), .int .i64 0], some 100, []) by kernel_rfl) trivial (fun _ => rfl) (fun wx hm => ?_) (fun _ W23 hP23 hm23 => ?_)
      · refine (arm_pl (setPl (armPl M d) B r) pb 0 wx (hP22.kept hm.kept (fun x h => hnT x (hO.mine x h)))).mono fun e w' ⟨h1, h2, h3⟩ => ?_
        exact ⟨0, h1, h2, (MemOk.back2 hm22 hm).off (fun _ h => h) h3 (fun x h => .inr (by have := hO.mine x h; omega)) (fun b hb h => hnB b hb (hO.mine _ h))⟩
      clear hnT hnB
      have hO' := hO.arm 0
      clear hO
      have hO := hO'
      clear hO'
      have hPlW23 := hP23.lt.1
      have hgbW23_0 : sb < W23.heap.size := (hm23.at_ 0 rfl).lt
      have hgbW23_1 : W3.heap.size < W23.heap.size := (hm23.at_ 1 rfl).lt
      have hgbW23_2 : z33 < W23.heap.size := (hm23.at_ 2 rfl).lt
      have hwwW23 := hm23.kept.size
      have hnT : ∀ xx, (xx = pb ∨ xx = lb ∨ xx = mb) → ¬ Turned (lst_b8 pb sb now r W3 z33) xx := by
        rintro xx hx2 ⟨b, hb, hr, he⟩
        simp at hb
        rcases hb with rfl | rfl | rfl <;> simp at he hr <;> omega
      have hnB : ∀ b ∈ ((lst_b8 pb sb now r W3 z33) : List Bk), ¬ (b.g = pb ∨ b.g = lb ∨ b.g = mb) := by
        intro b hb hx2
        simp at hb
        rcases hb with rfl | rfl | rfl <;> simp at hx2 <;> omega
      refine hgE 24 [oh0, oh0, oh0, oh0, oh0, oh0, oh0, oh0, ⟨false, 3, []⟩, oh0] [0, 1, 2, 3, 8, 10, 12, 14, 16, 17, 18, 20] [fF, fF, fF, fF, fF] [] [.ops lst_n15 [0, 1, 2], .code lst_n20, .blk 3, .code lst_n26, .inv J, .blk 2, .code lst_n27] ⟨[(0, .slice (some ⟨b, o, none⟩) n cp), (1, .slice A2 n2 cp2), (2, .slice A3 n3 cp3), (3, .slice K nk kcp), (8, .bool false), (10, (pt pb 0)), (12, (pt sb 0)), (14, (pt W3.heap.size 0)), (16, .int .i64 (i : Int)), (17, .int .i64 B), (18, (pt z33 0)), (20, .bool true)], (lst_b8 pb sb now r W3 z33), [], W23.heap.size⟩ ?_
      exact holds_ground [true, true, true] rfl (fun W hm hmW => HXW41 W now true hlen hoth (hgB.imp (fun h => h.trans hBg) (fun h => ⟨rfl, h⟩)) (hP23.kept hm.kept (fun x h => hnT x (hO.mine x h))) (MemOk.back2 hm23 hmW))
  clear hnT hnB
  intro W41 nw F hnl hnr hnB' hP41 hm41
  obtain ⟨M3, hM3⟩ : ∃ X, (armPl (setPl (armPl M d) B r) 0) = X := ⟨_, rfl⟩
  have hO' : LmPl lb mb 8 M3 := hM3 ▸ (hO.set B r).arm 0
  clear hO hS4
  have hO := hO'
  clear hO'
  rw [hM3] at hP41 hC4 hnr hnB'
  clear hM3 hG4
  have hPlW41 := hP41.lt.1
  have hgbW41_0 : sb < W41.heap.size := (hm41.at_ 0 rfl).lt
  have hgbW41_1 : W3.heap.size < W41.heap.size := (hm41.at_ 1 rfl).lt
  have hgbW41_2 : z33 < W41.heap.size := (hm41.at_ 2 rfl).lt
  have hwwW41 := hm41.kept.size
  have hnT : ∀ xx, (xx = pb ∨ xx = lb ∨ xx = mb) → ¬ Turned (lst_b4 pb sb nw r W3 z33) xx := by
    rintro xx hx2 ⟨b, hb, hr, he⟩
    simp at hb
    rcases hb with rfl | rfl | rfl <;> simp at he hr <;> omega
  have hnB : ∀ b ∈ ((lst_b4 pb sb nw r W3 z33) : List Bk), ¬ (b.g = pb ∨ b.g = lb ∨ b.g = mb) := by
    intro b hb hx2
    simp at hb
    rcases hb with rfl | rfl | rfl <;> simp at hx2 <;> omega
  refine hgE 5 [oh0, oh0] [0, 1, 2, 3, 8, 10, 12, 14, 16, 17, 18, 20, 112, 113] [] [] [.ops lst_n15 [2], .code lst_n20, .blk 3, .code lst_n26, .inv J, .blk 2, .code lst_n27] ⟨[(0, .slice (some ⟨b, o, none⟩) n cp), (1, .slice A2 n2 cp2), (2, .slice A3 n3 cp3), (3, .slice K nk kcp), (8, .bool false), (10, (pt pb 0)), (12, (pt sb 0)), (14, (pt W3.heap.size 0)), (16, .int .i64 (i : Int)), (17, .int .i64 B), (18, (pt z33 0)), (20, .bool F), (112, (pt pb 0)), (113, .slice K nk kcp)], (lst_b4 pb sb nw r W3 z33), [], W41.heap.size⟩ ?_
  refine holds_callW (w := w) (S' := (fun _ => False)) (Y := Nat) (fun _ => .tuple #[]) (fun _ => (lst_b4 pb sb nw r W3 z33)) (fun _ W_ => PlatAt 90 94 W_ pb (restartPl M3 (keepB nk kf))) (fun _ => [(114, .tuple #[]), (0, .slice (some ⟨b, o, none⟩) n cp), (1, .slice A2 n2 cp2), (2, .slice A3 n3 cp3), (3, .slice K nk kcp), (8, .bool false), (10, (pt pb 0)), (12, (pt sb 0)), (14, (pt W3.heap.size 0)), (16, .int .i64 (i : Int)), (17, .int .i64 B), (18, (pt z33 0)), (20, .bool F), (112, (pt pb 0)), (113, .slice K nk kcp)]) (show _ = some (28, [(pt pb 0), .slice K nk kcp], some 114, []) by kernel_rfl) trivial (fun _ => rfl) (fun wx hm => ?_) (fun _ W42 hP42 hm42 => ?_)
  · refine (restart_pl M3 pb K nk kcp kf wx (hP41.kept hm.kept (fun x h => hnT x (hO.mine x h))) (fun k hk => by obtain ⟨_, b, o, hA, hb, hc⟩ := HK k hk; have hq := MemOk.back2 hm41 hm; exact ⟨b, o, hA, Nat.lt_of_lt_of_le hb hq.kept.size, fun hx => (by have := hO.mine _ hx; omega), (hq.kept.cell (p := ⟨b, o + k * 1 + 0, none⟩) hb id).trans (hc 0 (by omega))⟩)).mono fun e w' ⟨h1, h2, h3⟩ => ?_
    exact ⟨0, h1, h2, (MemOk.back2 hm41 hm).off (fun _ h => h) h3 (fun x h => .inr (by have := hO.mine x h; omega)) (fun b hb h => hnB b hb (hO.mine _ h))⟩
  clear hnT hnB
  have hO' := hO.restart (keepB nk kf)
  clear hO
  have hO := hO'
  clear hO'
  have hPlW42 := hP42.lt.1
  have hgbW42_0 : sb < W42.heap.size := (hm42.at_ 0 rfl).lt
  have hgbW42_1 : W3.heap.size < W42.heap.size := (hm42.at_ 1 rfl).lt
  have hgbW42_2 : z33 < W42.heap.size := (hm42.at_ 2 rfl).lt
  have hwwW42 := hm42.kept.size
  have hnT : ∀ xx, (xx = pb ∨ xx = lb ∨ xx = mb) → ¬ Turned (lst_b4 pb sb nw r W3 z33) xx := by
    rintro xx hx2 ⟨b, hb, hr, he⟩
    simp at hb
    rcases hb with rfl | rfl | rfl <;> simp at he hr <;> omega
  have hnB : ∀ b ∈ ((lst_b4 pb sb nw r W3 z33) : List Bk), ¬ (b.g = pb ∨ b.g = lb ∨ b.g = mb) := by
    intro b hb hx2
    simp at hb
    rcases hb with rfl | rfl | rfl <;> simp at hx2 <;> omega
  obtain ⟨M4, hM4⟩ : ∃ X, restartPl M3 (keepB nk kf) = X := ⟨_, rfl⟩
  rw [hM4] at hP42 hC4 hnr hnB' hO
  clear hM4 hP41
  refine hgE 9 [oh0] lst_n4 [] [] [.code [1, 1, 1, 1, 1, 1, 1, 0, 1, 0, 0, 1, 0, 0, 1, 1, 1, 1, 1, 1, 1, 1, 1, 1, 0], .blk 4, .blk 3, .code lst_n26, .inv J, .blk 2, .code lst_n27] ⟨[(0, .slice (some ⟨b, o, none⟩) n cp), (1, .slice A2 n2 cp2), (2, .slice A3 n3 cp3), (3, .slice K nk kcp), (8, .bool false), (10, (pt pb 0)), (12, (pt sb 0)), (14, (pt W3.heap.size 0)), (16, .int .i64 (i : Int)), (17, .int .i64 B), (18, (pt z33 0)), (20, .bool F), (21, .int .i64 0)], (lst_b4 pb sb nw r W3 z33), [], W42.heap.size⟩ ?_
  refine holds_loop (LastsK n cp A2 n2 cp2 A3 n3 cp3 K nk kcp b o i B F pb sb M4 r W3 z33 W42) 8 (by kernel_rfl) ⟨0, nw, _, rfl, Nat.le_refl _, hnl, hnr, hnB'.imp_right (fun h => ⟨by omega, h⟩), rfl⟩ ?_
  clear hnl hnr hnB'
  rintro m2 _ ⟨k, nv, z, hmk, hz, hnl, hnr, hnB', rfl⟩ J2 hJ2
  by_cases hk8 : k < 8
  rotate_left
  · skip
    refine hgE 17 [oh0, oh0, oh0, oh0, oh2, oh0] lst_n7 [dF (((k : Int) : Int) < 8), n64 (((i : Int) + 1))] [] [.inv J, .blk 2, .code lst_n27] ⟨[(0, .slice (some ⟨b, o, none⟩) n cp), (1, .slice A2 n2 cp2), (2, .slice A3 n3 cp3), (3, .slice K nk kcp), (8, .bool false), (10, (pt pb 0)), (12, (pt sb 0)), (14, (pt W3.heap.size 0)), (16, .int .i64 ((i : Int) + 1))], (lst_b2 pb sb nv r W3 z33), [], z⟩ ?_
    refine holds_prune lst_n7 [true, true, false] ?_
    have hall : ∀ j : Nat, j < 8 → gotM M4 (j : Int) = getR nv j := fun j hj => by
      by_cases e : (j : Int) = B
      · rcases hnB' with h | ⟨h, _⟩
        · rw [e, h, show B.toNat = j by omega]
        · omega
      · exact hnr j hj e
    rw [show 16 + 2 * (i : Int) + 2 = 16 + 2 * ((i + 1 : Nat) : Int) by omega] at hC4
    intro a_ w4 hf hm
    exact hJ (m - 1) _ a_ w4 (by omega) ⟨i + 1, M4, nv, _, by omega, hC4, hnl, hall, hP42.kept hm.kept (fun x h => hnT x (hO.mine x h)), by rw [← cast_succ i]; rfl⟩ hf (MemOk.back2 hm42 hm)
  obtain ⟨x, hx⟩ : ∃ x, gotM M4 (k : Int) = x := ⟨_, rfl⟩
  refine hgE 17 [oh0, oh0, oh1, oh0, oh0] [0, 1, 2, 3, 8, 10, 12, 14, 16, 17, 18, 20, 21, 120, 121] [dT (((k : Int) : Int) < 8)] [] [.ops [1, 1, 1, 1, 1, 1, 1, 0, 1, 0, 0, 1, 0, 0, 1, 1, 1, 1, 1, 1, 1, 1, 1, 1, 0, 0, 1, 0, 0, 0] [2, 3, 4, 5, 6, 7, 8], .code [1, 1, 1, 1, 1, 1, 1, 0, 1, 0, 0, 1, 0, 0, 1, 1, 1, 1, 1, 1, 1, 1, 1, 1, 0, 0, 1, 0, 0, 1], .blk 5, .code lst_n19, .inv J2, .blk 4, .blk 3, .code lst_n26, .inv J, .blk 2, .code lst_n27] ⟨[(0, .slice (some ⟨b, o, none⟩) n cp), (1, .slice A2 n2 cp2), (2, .slice A3 n3 cp3), (3, .slice K nk kcp), (8, .bool false), (10, (pt pb 0)), (12, (pt sb 0)), (14, (pt W3.heap.size 0)), (16, .int .i64 (i : Int)), (17, .int .i64 B), (18, (pt z33 0)), (20, .bool F), (21, .int .i64 (k : Int)), (120, (pt sb 0)), (121, .int .i64 (k : Int))], (lst_b2 pb sb nv r W3 z33), [], z⟩ ?_
  refine hcp (.tuple #[.agg (List.toArray (lst_v2 x)), .int .i64 0]) 23 [(pt sb 0), .int .i64 (k : Int)] (some 122) [] trivial rfl (fun wx hm => by have h := get_pl M4 sb pb 8 (k : Int) (by omega) (by rw [hO.n]; omega) hC4.on.off wx (hP42.kept hm.kept (fun x h => hnT x (hO.mine x h))) (hm.at_ 0 rfl); rw [hx] at h; exact h) fun z56 hz56 => ?_
  replace hz56 : z ≤ z56 := hz56
  refine hgE 25 [oh0, oh0, oh0, oh0, ⟨false, 0, [⟨false, 3, 0, 10⟩]⟩, oh0, oh0, oh0, oh0, oh0, oh0, oh0, oh0] [0, 1, 2, 3, 8, 10, 12, 14, 16, 17, 18, 20, 21, 22, 130] [fF] [(z56, 0, 10)] [.ops [1, 1, 1, 1, 1, 1, 1, 0, 1, 0, 0, 1, 0, 0, 1, 1, 1, 1, 1, 1, 1, 1, 1, 1, 0, 0, 1, 0, 0, 1, 1, 0, 0] [4, 5, 6, 7, 8, 9, 10], .code [1, 1, 1, 1, 1, 1, 1, 0, 1, 0, 0, 1, 0, 0, 1, 1, 1, 1, 1, 1, 1, 1, 1, 1, 0, 0, 1, 0, 0, 1, 1, 0, 1], .code lst_n18, .blk 5, .code lst_n19, .inv J2, .blk 4, .blk 3, .code lst_n26, .inv J, .blk 2, .code lst_n27] ⟨[(0, .slice (some ⟨b, o, none⟩) n cp), (1, .slice A2 n2 cp2), (2, .slice A3 n3 cp3), (3, .slice K nk kcp), (8, .bool false), (10, (pt pb 0)), (12, (pt sb 0)), (14, (pt W3.heap.size 0)), (16, .int .i64 (i : Int)), (17, .int .i64 B), (18, (pt z33 0)), (20, .bool F), (21, .int .i64 (k : Int)), (22, (pt z56 0)), (130, .bool ((k : Int) == B))], (lst_b3 pb sb nv r x W3 z33 z56), [], z56 + 1⟩ ?_
  by_cases hkB : (k : Int) = B
  rotate_left
  · skip
    have hxe : getR nv k = x := by rw [← hx]; exact (hnr k hk8 hkB).symm
    refine hgE 14 [oh0, ⟨false, 3, []⟩, oh0, oh0, oh0, oh0, ⟨false, 3, []⟩, oh0] lst_n3 [oE (((k : Int) == B) = false) (beq_eq_false_iff_ne.2 hkB), oE (((k : Int) == B) = false) (beq_eq_false_iff_ne.2 hkB), fF, fF, fF, fF, fF] [] [.code lst_n16, .code lst_n17, .blk 5, .code lst_n19, .inv J2, .blk 4, .blk 3, .code lst_n26, .inv J, .blk 2, .code lst_n27] ⟨[(0, .slice (some ⟨b, o, none⟩) n cp), (1, .slice A2 n2 cp2), (2, .slice A3 n3 cp3), (3, .slice K nk kcp), (8, .bool false), (10, (pt pb 0)), (12, (pt sb 0)), (14, (pt W3.heap.size 0)), (16, .int .i64 (i : Int)), (17, .int .i64 B), (18, (pt z33 0)), (20, .bool F), (21, .int .i64 (k : Int)), (22, (pt z56 0))], (lst_b3 pb sb nv r x W3 z33 z56), [], z56 + 1⟩ ?_
    have lst_g59_c3 : lst_g59C n cp A2 n2 cp2 A3 n3 cp3 K nk kcp b o i k B F pb sb nw nv r x w W3 J J2 z33 W42 z56 3 := cert_op (by
        intro j a_ wx hj hjs hcap hf hk_ hm
        have hm0 := hm
        obtain ⟨bk, hb, hz, hM⟩ := hm
        obtain rfl : j = 0 := by omega
        have hb' : some (lst_b3 pb sb nv r x W3 z33 z56) = some bk := hb
        cases hb'
        exact ⟨_, Instr.loadAt 25 (.pointer (some ⟨W3.heap.size, 0 + (Int.toNat (k : Int)) * 10, none⟩)), _, wx, hf, by kernel_rfl, by kernel_rfl, load_rec (P := Try.prog) hM (i := 1) (k := Int.toNat (k : Int)) (now := nv) (r := x) rfl (by rw [show Int.toNat (k : Int) = k by omega]; exact getR_some (by omega) hxe) (by kernel_rfl) (by kernel_rfl), rfl, Kept.refl _ _, hm0⟩)
    have lst_g59_R : ∀ e_ ∈ (rZs [1] ++ [⟨0, ⟨false, 0, [⟨false, 3, 0, 10⟩]⟩, [], [(z56, 0, 10)]⟩, ⟨2, oh2, [oE ((0 : Int) ≤ (k : Int) ∧ (k : Int) < ((8 : Nat) : Int))], []⟩, ⟨4, oh2, [vV], []⟩] : List RegE), lst_g59C n cp A2 n2 cp2 A3 n3 cp3 K nk kcp b o i k B F pb sb nw nv r x w W3 J J2 z33 W42 z56 e_.i := certs_reg (by kernel_rfl) _ (fun sz => by kernel_rfl)
    refine holds_mixG (vs := (lst_g59v k x W3)) (ms := (lst_g59m pb sb nv r x W3 z33 z56)) (stg := (lst_g59t)) (J := 0) (sl' := [(0, .slice (some ⟨b, o, none⟩) n cp), (1, .slice A2 n2 cp2), (2, .slice A3 n3 cp3), (3, .slice K nk kcp), (8, .bool false), (10, (pt pb 0)), (12, (pt sb 0)), (14, (pt W3.heap.size 0)), (16, .int .i64 (i : Int)), (17, .int .i64 B), (18, (pt z33 0)), (20, .bool F), (21, .int .i64 (k : Int)), (145, .bool (!(((x.used == x.used) && (((x.fence : Int) == x.fence) && ((((x.de : Int) == x.de) && (((x.ds : Int) == x.ds) && true)) && (((x.block : ByteArray) == x.block) && ((x.op == x.op) && ((((x.ie : Int) == x.ie) && (((x.is : Int) == x.is) && true)) && (((x.mask : Int) == x.mask) && (((x.staged : ByteArray) == x.staged) && true)))))))))))]) (bk' := (lst_b3 pb sb nv r x W3 z33 z56)) (fun _ _ _ => False) lst_n2 (by kernel_rfl) (by kernel_rfl) (by kernel_rfl) (fun _ _ _ _ h => h.elim) (certs_mix lst_g59_R [3] ⟨lst_g59_c3, trivial⟩ (by kernel_rfl)) (by kernel_rfl) (by kernel_rfl) (by kernel_rfl) (fun z59 hz59 => ?_)
    replace hz59 : z56 + 1 ≤ z59 := hz59
    refine hgE 11 [oh0, oh0, oh2, oh0] lst_n4 [oE ((!(((x.used == x.used) && (((x.fence : Int) == x.fence) && ((((x.de : Int) == x.de) && (((x.ds : Int) == x.ds) && true)) && (((x.block : ByteArray) == x.block) && ((x.op == x.op) && ((((x.ie : Int) == x.ie) && (((x.is : Int) == x.is) && true)) && (((x.mask : Int) == x.mask) && (((x.staged : ByteArray) == x.staged) && true)))))))))) = false) (by rw [show (((x.used == x.used) && (((x.fence : Int) == x.fence) && ((((x.de : Int) == x.de) && (((x.ds : Int) == x.ds) && true)) && (((x.block : ByteArray) == x.block) && ((x.op == x.op) && ((((x.ie : Int) == x.ie) && (((x.is : Int) == x.is) && true)) && (((x.mask : Int) == x.mask) && (((x.staged : ByteArray) == x.staged) && true))))))))) = true from by simp [bytes_beq]]; rfl), n64 (((k : Int) + 1))] [] [.inv J2, .blk 4, .blk 3, .code lst_n26, .inv J, .blk 2, .code lst_n27] ⟨[(0, .slice (some ⟨b, o, none⟩) n cp), (1, .slice A2 n2 cp2), (2, .slice A3 n3 cp3), (3, .slice K nk kcp), (8, .bool false), (10, (pt pb 0)), (12, (pt sb 0)), (14, (pt W3.heap.size 0)), (16, .int .i64 (i : Int)), (17, .int .i64 B), (18, (pt z33 0)), (20, .bool F), (21, .int .i64 ((k : Int) + 1))], (lst_b3 pb sb nv r x W3 z33 z56), [], z59⟩ ?_
    refine holds_prune lst_n4 [true, true, true, false] ?_
    exact hJ2 (m2 - 1) _ (by omega) ⟨k + 1, nv, z59, by omega, by omega, hnl, hnr, hnB'.imp_right (fun h => ⟨by omega, h.2⟩), by rw [cast_succ]; rfl⟩
  have hBk : Int.toNat B = k := by omega
  have hxB : gotM M4 B = x := by rw [← hkB]; exact hx
  rcases Bool.eq_false_or_eq_true (F && recB x r) with hFR | hFR
  · skip
    rw [Bool.and_eq_true] at hFR
    obtain ⟨hFt, hRt⟩ := hFR
    have hEQ : (((x.used == r.used) && (((x.fence : Int) == r.fence) && ((((x.de : Int) == r.de) && (((x.ds : Int) == r.ds) && true)) && (((x.block : ByteArray) == r.block) && ((x.op == r.op) && ((((x.ie : Int) == r.ie) && (((x.is : Int) == r.is) && true)) && (((x.mask : Int) == r.mask) && (((x.staged : ByteArray) == r.staged) && true))))))))) = true := hRt
    have hxr := (recB_iff x r).1 hRt
    refine hgE 16 [oh1, oh3, oh0, ⟨true, 0, [⟨false, 3, 0, 10⟩]⟩, ⟨true, 0, [⟨false, 2, 0, 10⟩]⟩, ⟨true, 1, []⟩, oh3, oh1, oh0, ⟨false, 0, [⟨false, 2, 0, 10⟩]⟩, oh2] [0, 1, 2, 3, 8, 10, 12, 14, 16, 17, 18, 20, 21, 22, 139, 140] [oE (((k : Int) == B) = true) (beq_iff_eq.2 hkB), oE (((k : Int) == B) = true) (beq_iff_eq.2 hkB), oE (F = true) hFt, oE (F = true) hFt, oE (F = true) hFt, vV, oE (F = true) hFt, oE (((x.used == r.used) && (((x.fence : Int) == r.fence) && ((((x.de : Int) == r.de) && (((x.ds : Int) == r.ds) && true)) && (((x.block : ByteArray) == r.block) && ((x.op == r.op) && ((((x.ie : Int) == r.ie) && (((x.is : Int) == r.is) && true)) && (((x.mask : Int) == r.mask) && (((x.staged : ByteArray) == r.staged) && true)))))))) = true) hEQ, oE ((0 : Int) ≤ (k : Int) ∧ (k : Int) < ((8 : Nat) : Int))] [(z56, 0, 10), (z33, 0, 10), (z33, 0, 10)] [.ops [1, 1, 1, 1, 1, 1, 1, 0, 1, 0, 0, 1, 0, 0, 1, 1, 1, 1, 1, 1, 1, 1, 1, 1, 0, 0, 1, 0, 0, 1, 1, 0, 1, 0] [3], .code lst_n18, .blk 5, .code lst_n19, .inv J2, .blk 4, .blk 3, .code lst_n26, .inv J, .blk 2, .code lst_n27] ⟨[(0, .slice (some ⟨b, o, none⟩) n cp), (1, .slice A2 n2 cp2), (2, .slice A3 n3 cp3), (3, .slice K nk kcp), (8, .bool false), (10, (pt pb 0)), (12, (pt sb 0)), (14, (pt W3.heap.size 0)), (16, .int .i64 (i : Int)), (17, .int .i64 B), (18, (pt z33 0)), (20, .bool F), (21, .int .i64 (k : Int)), (22, (pt z56 0)), (139, .agg (List.toArray (lst_v1 r))), (140, .pointer (some ⟨W3.heap.size, 0 + (Int.toNat (k : Int)) * 10, none⟩))], (lst_b3 pb sb nv r x W3 z33 z56), [], z56 + 1⟩ ?_
    refine holds_opS (x := Instr.storeAt 25 (.pointer (some ⟨W3.heap.size, 0 + (Int.toNat (k : Int)) * 10, none⟩)) (.agg (List.toArray (lst_v1 r)))) (lst_b5 k pb sb nv r x W3 z33 z56) (by kernel_rfl) (by kernel_rfl) rfl (fun wx hm => ?_) (fun z62 hz62 => ?_)
    · have h := store_rec (P := Try.prog) (t := 25) hm (i := 1) (k := Int.toNat (k : Int)) (now := nv) (r := r) rfl (by omega) (by kernel_rfl)
      rw [show Int.toNat (k : Int) = k by omega] at h
      exact h
    replace hz62 : z56 + 1 ≤ z62 := hz62
    refine hgE 5 [] lst_n3 [] [] [.code lst_n16, .code lst_n17, .blk 5, .code lst_n19, .inv J2, .blk 4, .blk 3, .code lst_n26, .inv J, .blk 2, .code lst_n27] ⟨[(0, .slice (some ⟨b, o, none⟩) n cp), (1, .slice A2 n2 cp2), (2, .slice A3 n3 cp3), (3, .slice K nk kcp), (8, .bool false), (10, (pt pb 0)), (12, (pt sb 0)), (14, (pt W3.heap.size 0)), (16, .int .i64 (i : Int)), (17, .int .i64 B), (18, (pt z33 0)), (20, .bool F), (21, .int .i64 (k : Int)), (22, (pt z56 0))], (lst_b5 k pb sb nv r x W3 z33 z56), [], z62⟩ ?_
    have lst_g64_c3 : lst_g64C n cp A2 n2 cp2 A3 n3 cp3 K nk kcp b o i k B F pb sb nw nv r x w W3 J J2 z33 W42 z56 z62 3 := cert_op (by
        intro j a_ wx hj hjs hcap hf hk_ hm
        have hm0 := hm
        obtain ⟨bk, hb, hz, hM⟩ := hm
        obtain rfl : j = 0 := by omega
        have hb' : some (lst_b5 k pb sb nv r x W3 z33 z56) = some bk := hb
        cases hb'
        exact ⟨_, Instr.loadAt 25 (.pointer (some ⟨W3.heap.size, 0 + (Int.toNat (k : Int)) * 10, none⟩)), _, wx, hf, by kernel_rfl, by kernel_rfl, load_rec (P := Try.prog) hM (i := 1) (k := Int.toNat (k : Int)) (now := (List.set nv k r)) (r := r) rfl (by rw [show Int.toNat (k : Int) = k by omega]; exact List.getElem?_set_self (by omega)) (by kernel_rfl) (by kernel_rfl), rfl, Kept.refl _ _, hm0⟩)
    have lst_g64_R : ∀ e_ ∈ (rZs [1] ++ [⟨0, ⟨false, 0, [⟨false, 3, 0, 10⟩]⟩, [], [(z56, 0, 10)]⟩, ⟨2, oh2, [oE ((0 : Int) ≤ (k : Int) ∧ (k : Int) < ((8 : Nat) : Int))], []⟩, ⟨4, oh2, [vV], []⟩] : List RegE), lst_g64C n cp A2 n2 cp2 A3 n3 cp3 K nk kcp b o i k B F pb sb nw nv r x w W3 J J2 z33 W42 z56 z62 e_.i := certs_reg (by kernel_rfl) _ (fun sz => by kernel_rfl)
    refine holds_mixG (vs := (lst_g64v k r x W3)) (ms := (lst_g64m k pb sb nv r x W3 z33 z56)) (stg := (lst_g64t)) (J := 0) (sl' := [(0, .slice (some ⟨b, o, none⟩) n cp), (1, .slice A2 n2 cp2), (2, .slice A3 n3 cp3), (3, .slice K nk kcp), (8, .bool false), (10, (pt pb 0)), (12, (pt sb 0)), (14, (pt W3.heap.size 0)), (16, .int .i64 (i : Int)), (17, .int .i64 B), (18, (pt z33 0)), (20, .bool F), (21, .int .i64 (k : Int)), (145, .bool (!(((x.used == r.used) && (((x.fence : Int) == r.fence) && ((((x.de : Int) == r.de) && (((x.ds : Int) == r.ds) && true)) && (((x.block : ByteArray) == r.block) && ((x.op == r.op) && ((((x.ie : Int) == r.ie) && (((x.is : Int) == r.is) && true)) && (((x.mask : Int) == r.mask) && (((x.staged : ByteArray) == r.staged) && true)))))))))))]) (bk' := (lst_b5 k pb sb nv r x W3 z33 z56)) (fun _ _ _ => False) lst_n2 (by kernel_rfl) (by kernel_rfl) (by kernel_rfl) (fun _ _ _ _ h => h.elim) (certs_mix lst_g64_R [3] ⟨lst_g64_c3, trivial⟩ (by kernel_rfl)) (by kernel_rfl) (by kernel_rfl) (by kernel_rfl) (fun z64 hz64 => ?_)
    replace hz64 : z62 ≤ z64 := hz64
    refine hgE 11 [oh0, oh0, oh2, oh0] lst_n4 [eD (nF hEQ), n64 (((k : Int) + 1))] [] [.inv J2, .blk 4, .blk 3, .code lst_n26, .inv J, .blk 2, .code lst_n27] ⟨[(0, .slice (some ⟨b, o, none⟩) n cp), (1, .slice A2 n2 cp2), (2, .slice A3 n3 cp3), (3, .slice K nk kcp), (8, .bool false), (10, (pt pb 0)), (12, (pt sb 0)), (14, (pt W3.heap.size 0)), (16, .int .i64 (i : Int)), (17, .int .i64 B), (18, (pt z33 0)), (20, .bool F), (21, .int .i64 ((k : Int) + 1))], (lst_b5 k pb sb nv r x W3 z33 z56), [], z64⟩ ?_
    refine holds_prune lst_n4 [true, true, true, false] ?_
    exact hJ2 (m2 - 1) _ (by omega) ⟨k + 1, (List.set nv k r), z64, by omega, by omega, by rw [List.length_set]; exact hnl, fun j hj hne => by rw [getR_set_ne (by omega)]; exact hnr j hj hne, .inl (by rw [hBk, getR_set_self (by omega), hxB, hxr]), by rw [cast_succ]; rfl⟩
  · skip
    have hxe : getR nv k = x := by
      rcases hnB' with h | ⟨_, hF1, h⟩
      · rw [← hxB, h, hBk]
      · rw [hF1, (recB_iff x r).2 (hxB.symm.trans h)] at hFR
        cases hFR
    cases F with
    | false =>
      refine hgE 14 [oh1, oh3, oh0, oh0, oh0, oh0, ⟨false, 3, []⟩, oh0] lst_n3 [oE (((k : Int) == B) = true) (beq_iff_eq.2 hkB), oE (((k : Int) == B) = true) (beq_iff_eq.2 hkB), fF, fF, fF, fF, fF] [] [.code lst_n16, .code lst_n17, .blk 5, .code lst_n19, .inv J2, .blk 4, .blk 3, .code lst_n26, .inv J, .blk 2, .code lst_n27] ⟨[(0, .slice (some ⟨b, o, none⟩) n cp), (1, .slice A2 n2 cp2), (2, .slice A3 n3 cp3), (3, .slice K nk kcp), (8, .bool false), (10, (pt pb 0)), (12, (pt sb 0)), (14, (pt W3.heap.size 0)), (16, .int .i64 (i : Int)), (17, .int .i64 B), (18, (pt z33 0)), (20, .bool false), (21, .int .i64 (k : Int)), (22, (pt z56 0))], (lst_b3 pb sb nv r x W3 z33 z56), [], z56 + 1⟩ ?_
      have lst_g67_c3 : lst_g67C n cp A2 n2 cp2 A3 n3 cp3 K nk kcp b o i k B pb sb nw nv r x w W3 J J2 z33 W42 z56 3 := cert_op (by
          intro j a_ wx hj hjs hcap hf hk_ hm
          have hm0 := hm
          obtain ⟨bk, hb, hz, hM⟩ := hm
          obtain rfl : j = 0 := by omega
          have hb' : some (lst_b3 pb sb nv r x W3 z33 z56) = some bk := hb
          cases hb'
          exact ⟨_, Instr.loadAt 25 (.pointer (some ⟨W3.heap.size, 0 + (Int.toNat (k : Int)) * 10, none⟩)), _, wx, hf, by kernel_rfl, by kernel_rfl, load_rec (P := Try.prog) hM (i := 1) (k := Int.toNat (k : Int)) (now := nv) (r := x) rfl (by rw [show Int.toNat (k : Int) = k by omega]; exact getR_some (by omega) hxe) (by kernel_rfl) (by kernel_rfl), rfl, Kept.refl _ _, hm0⟩)
      have lst_g67_R : ∀ e_ ∈ (rZs [1] ++ [⟨0, ⟨false, 0, [⟨false, 3, 0, 10⟩]⟩, [], [(z56, 0, 10)]⟩, ⟨2, oh2, [oE ((0 : Int) ≤ (k : Int) ∧ (k : Int) < ((8 : Nat) : Int))], []⟩, ⟨4, oh2, [vV], []⟩] : List RegE), lst_g67C n cp A2 n2 cp2 A3 n3 cp3 K nk kcp b o i k B pb sb nw nv r x w W3 J J2 z33 W42 z56 e_.i := certs_reg (by kernel_rfl) _ (fun sz => by kernel_rfl)
      refine holds_mixG (vs := (lst_g67v k x W3)) (ms := (lst_g67m pb sb nv r x W3 z33 z56)) (stg := (lst_g67t)) (J := 0) (sl' := [(0, .slice (some ⟨b, o, none⟩) n cp), (1, .slice A2 n2 cp2), (2, .slice A3 n3 cp3), (3, .slice K nk kcp), (8, .bool false), (10, (pt pb 0)), (12, (pt sb 0)), (14, (pt W3.heap.size 0)), (16, .int .i64 (i : Int)), (17, .int .i64 B), (18, (pt z33 0)), (20, .bool false), (21, .int .i64 (k : Int)), (145, .bool (!(((x.used == x.used) && (((x.fence : Int) == x.fence) && ((((x.de : Int) == x.de) && (((x.ds : Int) == x.ds) && true)) && (((x.block : ByteArray) == x.block) && ((x.op == x.op) && ((((x.ie : Int) == x.ie) && (((x.is : Int) == x.is) && true)) && (((x.mask : Int) == x.mask) && (((x.staged : ByteArray) == x.staged) && true)))))))))))]) (bk' := (lst_b3 pb sb nv r x W3 z33 z56)) (fun _ _ _ => False) lst_n2 (by kernel_rfl) (by kernel_rfl) (by kernel_rfl) (fun _ _ _ _ h => h.elim) (certs_mix lst_g67_R [3] ⟨lst_g67_c3, trivial⟩ (by kernel_rfl)) (by kernel_rfl) (by kernel_rfl) (by kernel_rfl) (fun z67 hz67 => ?_)
      replace hz67 : z56 + 1 ≤ z67 := hz67
      refine hgE 11 [oh0, oh0, oh2, oh0] lst_n4 [oE ((!(((x.used == x.used) && (((x.fence : Int) == x.fence) && ((((x.de : Int) == x.de) && (((x.ds : Int) == x.ds) && true)) && (((x.block : ByteArray) == x.block) && ((x.op == x.op) && ((((x.ie : Int) == x.ie) && (((x.is : Int) == x.is) && true)) && (((x.mask : Int) == x.mask) && (((x.staged : ByteArray) == x.staged) && true)))))))))) = false) (by rw [show (((x.used == x.used) && (((x.fence : Int) == x.fence) && ((((x.de : Int) == x.de) && (((x.ds : Int) == x.ds) && true)) && (((x.block : ByteArray) == x.block) && ((x.op == x.op) && ((((x.ie : Int) == x.ie) && (((x.is : Int) == x.is) && true)) && (((x.mask : Int) == x.mask) && (((x.staged : ByteArray) == x.staged) && true))))))))) = true from by simp [bytes_beq]]; rfl), n64 (((k : Int) + 1))] [] [.inv J2, .blk 4, .blk 3, .code lst_n26, .inv J, .blk 2, .code lst_n27] ⟨[(0, .slice (some ⟨b, o, none⟩) n cp), (1, .slice A2 n2 cp2), (2, .slice A3 n3 cp3), (3, .slice K nk kcp), (8, .bool false), (10, (pt pb 0)), (12, (pt sb 0)), (14, (pt W3.heap.size 0)), (16, .int .i64 (i : Int)), (17, .int .i64 B), (18, (pt z33 0)), (20, .bool false), (21, .int .i64 ((k : Int) + 1))], (lst_b3 pb sb nv r x W3 z33 z56), [], z67⟩ ?_
      refine holds_prune lst_n4 [true, true, true, false] ?_
      exact hJ2 (m2 - 1) _ (by omega) ⟨k + 1, nv, z67, by omega, by omega, hnl, hnr, .inl (by rw [hBk, hxe]; exact hxB), by rw [cast_succ]; rfl⟩
    | true =>
      have hEQ : (((x.used == r.used) && (((x.fence : Int) == r.fence) && ((((x.de : Int) == r.de) && (((x.ds : Int) == r.ds) && true)) && (((x.block : ByteArray) == r.block) && ((x.op == r.op) && ((((x.ie : Int) == r.ie) && (((x.is : Int) == r.is) && true)) && (((x.mask : Int) == r.mask) && (((x.staged : ByteArray) == r.staged) && true))))))))) = false := hFR
      refine hgE 14 [oh1, oh3, oh0, ⟨true, 0, [⟨false, 3, 0, 10⟩]⟩, ⟨true, 0, [⟨false, 2, 0, 10⟩]⟩, ⟨true, 1, []⟩, oh3, oh0] lst_n3 [oE (((k : Int) == B) = true) (beq_iff_eq.2 hkB), oE (((k : Int) == B) = true) (beq_iff_eq.2 hkB), tT, tT, tT, vV, tT, oE (((x.used == r.used) && (((x.fence : Int) == r.fence) && ((((x.de : Int) == r.de) && (((x.ds : Int) == r.ds) && true)) && (((x.block : ByteArray) == r.block) && ((x.op == r.op) && ((((x.ie : Int) == r.ie) && (((x.is : Int) == r.is) && true)) && (((x.mask : Int) == r.mask) && (((x.staged : ByteArray) == r.staged) && true)))))))) = false) hEQ] [(z56, 0, 10), (z33, 0, 10)] [.code lst_n16, .code lst_n17, .blk 5, .code lst_n19, .inv J2, .blk 4, .blk 3, .code lst_n26, .inv J, .blk 2, .code lst_n27] ⟨[(0, .slice (some ⟨b, o, none⟩) n cp), (1, .slice A2 n2 cp2), (2, .slice A3 n3 cp3), (3, .slice K nk kcp), (8, .bool false), (10, (pt pb 0)), (12, (pt sb 0)), (14, (pt W3.heap.size 0)), (16, .int .i64 (i : Int)), (17, .int .i64 B), (18, (pt z33 0)), (20, .bool true), (21, .int .i64 (k : Int)), (22, (pt z56 0))], (lst_b3 pb sb nv r x W3 z33 z56), [], z56 + 1⟩ ?_
      have lst_g70_c3 : lst_g70C n cp A2 n2 cp2 A3 n3 cp3 K nk kcp b o i k B pb sb nw nv r x w W3 J J2 z33 W42 z56 3 := cert_op (by
          intro j a_ wx hj hjs hcap hf hk_ hm
          have hm0 := hm
          obtain ⟨bk, hb, hz, hM⟩ := hm
          obtain rfl : j = 0 := by omega
          have hb' : some (lst_b3 pb sb nv r x W3 z33 z56) = some bk := hb
          cases hb'
          exact ⟨_, Instr.loadAt 25 (.pointer (some ⟨W3.heap.size, 0 + (Int.toNat (k : Int)) * 10, none⟩)), _, wx, hf, by kernel_rfl, by kernel_rfl, load_rec (P := Try.prog) hM (i := 1) (k := Int.toNat (k : Int)) (now := nv) (r := x) rfl (by rw [show Int.toNat (k : Int) = k by omega]; exact getR_some (by omega) hxe) (by kernel_rfl) (by kernel_rfl), rfl, Kept.refl _ _, hm0⟩)
      have lst_g70_R : ∀ e_ ∈ (rZs [1] ++ [⟨0, ⟨false, 0, [⟨false, 3, 0, 10⟩]⟩, [], [(z56, 0, 10)]⟩, ⟨2, oh2, [oE ((0 : Int) ≤ (k : Int) ∧ (k : Int) < ((8 : Nat) : Int))], []⟩, ⟨4, oh2, [vV], []⟩] : List RegE), lst_g70C n cp A2 n2 cp2 A3 n3 cp3 K nk kcp b o i k B pb sb nw nv r x w W3 J J2 z33 W42 z56 e_.i := certs_reg (by kernel_rfl) _ (fun sz => by kernel_rfl)
      refine holds_mixG (vs := (lst_g70v k x W3)) (ms := (lst_g70m pb sb nv r x W3 z33 z56)) (stg := (lst_g70t)) (J := 0) (sl' := [(0, .slice (some ⟨b, o, none⟩) n cp), (1, .slice A2 n2 cp2), (2, .slice A3 n3 cp3), (3, .slice K nk kcp), (8, .bool false), (10, (pt pb 0)), (12, (pt sb 0)), (14, (pt W3.heap.size 0)), (16, .int .i64 (i : Int)), (17, .int .i64 B), (18, (pt z33 0)), (20, .bool true), (21, .int .i64 (k : Int)), (145, .bool (!(((x.used == x.used) && (((x.fence : Int) == x.fence) && ((((x.de : Int) == x.de) && (((x.ds : Int) == x.ds) && true)) && (((x.block : ByteArray) == x.block) && ((x.op == x.op) && ((((x.ie : Int) == x.ie) && (((x.is : Int) == x.is) && true)) && (((x.mask : Int) == x.mask) && (((x.staged : ByteArray) == x.staged) && true)))))))))))]) (bk' := (lst_b3 pb sb nv r x W3 z33 z56)) (fun _ _ _ => False) lst_n2 (by kernel_rfl) (by kernel_rfl) (by kernel_rfl) (fun _ _ _ _ h => h.elim) (certs_mix lst_g70_R [3] ⟨lst_g70_c3, trivial⟩ (by kernel_rfl)) (by kernel_rfl) (by kernel_rfl) (by kernel_rfl) (fun z70 hz70 => ?_)
      replace hz70 : z56 + 1 ≤ z70 := hz70
      refine hgE 11 [oh0, oh0, oh2, oh0] lst_n4 [oE ((!(((x.used == x.used) && (((x.fence : Int) == x.fence) && ((((x.de : Int) == x.de) && (((x.ds : Int) == x.ds) && true)) && (((x.block : ByteArray) == x.block) && ((x.op == x.op) && ((((x.ie : Int) == x.ie) && (((x.is : Int) == x.is) && true)) && (((x.mask : Int) == x.mask) && (((x.staged : ByteArray) == x.staged) && true)))))))))) = false) (by rw [show (((x.used == x.used) && (((x.fence : Int) == x.fence) && ((((x.de : Int) == x.de) && (((x.ds : Int) == x.ds) && true)) && (((x.block : ByteArray) == x.block) && ((x.op == x.op) && ((((x.ie : Int) == x.ie) && (((x.is : Int) == x.is) && true)) && (((x.mask : Int) == x.mask) && (((x.staged : ByteArray) == x.staged) && true))))))))) = true from by simp [bytes_beq]]; rfl), n64 (((k : Int) + 1))] [] [.inv J2, .blk 4, .blk 3, .code lst_n26, .inv J, .blk 2, .code lst_n27] ⟨[(0, .slice (some ⟨b, o, none⟩) n cp), (1, .slice A2 n2 cp2), (2, .slice A3 n3 cp3), (3, .slice K nk kcp), (8, .bool false), (10, (pt pb 0)), (12, (pt sb 0)), (14, (pt W3.heap.size 0)), (16, .int .i64 (i : Int)), (17, .int .i64 B), (18, (pt z33 0)), (20, .bool true), (21, .int .i64 ((k : Int) + 1))], (lst_b3 pb sb nv r x W3 z33 z56), [], z70⟩ ?_
      refine holds_prune lst_n4 [true, true, true, false] ?_
      exact hJ2 (m2 - 1) _ (by omega) ⟨k + 1, nv, z70, by omega, by omega, hnl, hnr, .inl (by rw [hBk, hxe]; exact hxB), by rw [cast_succ]; rfl⟩

end Go.Proofs.Ytpilmccjjbgmiaa
