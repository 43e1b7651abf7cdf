/- Layer 14: Late. -/
import Derived.Test.YtmeddeaphmpjcaaCall14
import Derived.Test.YtmeddeaphmpjcaaMeant14
import Derived.Test.YtmeddeaphmpjcaaSort14
import Derived.Test.YtmeddeaphmpjcaaCompact14
namespace Go.Proofs.Ytmeddeaphmpjcaa
open Go.RowKit

/-- which parties have been silent for long, each once -/
def lateM (now : Int) (opn : List OneM) (ys : List Int) : Prop := (∀ n, n ∈ ys ↔ ∃ o ∈ opn, now - o.asked ≥ 8 ∧ o.to = n) ∧ (ys = [] ↔ ∀ o ∈ opn, ¬ now - o.asked ≥ 8) ∧ ∀ o, opn = [o] → now - o.asked ≥ 8 → ys = [o.to]
theorem toIs_mem {now : Int} {opn : List OneM} {x : Int} : x ∈ toIs opn (meantL (fun o => decide (now - o.asked ≥ 8)) opn opn.length) ↔ ∃ o ∈ opn, now - o.asked ≥ 8 ∧ o.to = x := by
  simp only [toIs, meantL, List.mem_map, List.mem_filter, List.mem_range]
  constructor
  · rintro ⟨i, ⟨hi, hok⟩, rfl⟩
    have e : opn[i]? = some opn[i] := List.getElem?_eq_getElem hi
    rw [e] at hok ⊢
    exact ⟨opn[i], List.getElem_mem hi, by simpa using hok, rfl⟩
  · rintro ⟨o, ho, hok, rfl⟩
    obtain ⟨i, hi⟩ := List.mem_iff_getElem?.1 ho
    exact ⟨i, ⟨(List.getElem?_eq_some_iff.1 hi).1, by rw [hi]; simpa using hok⟩, by rw [hi]⟩
theorem late_of {now : Int} {opn : List OneM} {zs : List Int} (h1 : ∀ x, x ∈ zs ↔ x ∈ sortI (toIs opn (meantL (fun o => decide (now - o.asked ≥ 8)) opn opn.length))) (h2 : (sortI (toIs opn (meantL (fun o => decide (now - o.asked ≥ 8)) opn opn.length))).length < 2 → zs = sortI (toIs opn (meantL (fun o => decide (now - o.asked ≥ 8)) opn opn.length))) : lateM now opn zs := by
  have h3 : ∀ n, n ∈ zs ↔ ∃ o ∈ opn, now - o.asked ≥ 8 ∧ o.to = n := fun n => by rw [h1, (sortI_perm _).mem_iff, toIs_mem]
  refine ⟨h3, ?_, fun o ho hok => ?_⟩
  · constructor
    · rintro rfl o ho hok
      exact absurd ((h3 o.to).2 ⟨o, ho, hok, rfl⟩) (by simp)
    · intro h
      cases zs with
      | nil => rfl
      | cons z zs =>
        obtain ⟨o, ho, hok, _⟩ := (h3 z).1 (by simp)
        exact absurd hok (h o ho)
  · subst ho
    have e : meantL (fun o => decide (now - o.asked ≥ 8)) [o] 1 = [0] := by
      simp [meantL, hok]
    have e2 : toIs [o] (meantL (fun o => decide (now - o.asked ≥ 8)) [o] [o].length) = [o.to] := by
      rw [show [o].length = 1 from rfl, e]
      rfl
    rw [e2] at h2
    have e3 : sortI [o.to] = [o.to] := by simp [sortI]
    rw [e3] at h2
    exact h2 (by simp)
def clL_v1 (o : OneM) : List Value := [.int .i64 o.to, .int .i64 o.id, .int .i64 o.q.kind, .int .i64 o.q.stripe, .int .i64 o.q.epoch, .int .i64 o.q.seq, .int .i64 o.q.mask, .int .i64 o.q.node, .int .i64 o.q.oe, .int .i64 o.q.os, .string o.q.block, .int .i64 o.asked, .int .i64 o.sent]
def clL_n1 : List Nat := [1, 1, 1, 0, 1, 0, 1, 0]
def clL_n2 : Array Bool := #[false, false, false, false, false, false, false, false, false, false, false, false]
def clL_n3 : Array Bool := #[false, false, false, false, false, true, false, false, false, false, false, false]
def clL_n4 : Array Bool := #[false, true, false, false, false, true, false, false, false, false, false, false]
def clL_n5 : Array Bool := #[false, true, true, false, false, true, false, false, false, false, false, false]
def clL_n6 : Array Bool := #[false, true, true, true, false, true, false, false, false, false, false, false]
def clL_n7 : Array Bool := #[false, true, true, true, true, true, false, false, false, false, false, false]
def clL_n8 : Array Bool := #[false, true, true, true, true, true, true, false, false, false, false, false]
def clL_n9 : Array Bool := #[false, true, true, true, true, true, true, true, false, false, false, false]
def clL_n10 : Array Bool := #[false, true, true, true, true, true, true, true, true, false, false, false]
def clL_n11 : Array Bool := #[false, true, true, true, true, true, true, true, true, true, false, false]
def clL_n12 : Array Bool := #[true, false, false, false, false, true, false, false, false, false, false, false]
def clL_n13 : Array Bool := #[true, true, false, false, false, true, false, false, false, false, false, false]
def clL_n14 : Array Bool := #[true, true, true, false, false, true, false, false, false, false, false, false]
def clL_n15 : Array Bool := #[true, true, true, true, false, true, false, false, false, false, false, false]
def clL_n16 : Array Bool := #[true, true, true, true, true, true, false, false, false, false, false, false]
def clL_n17 : Array Bool := #[true, true, true, true, true, true, true, false, false, false, false, false]
def clL_n18 : Array Bool := #[true, true, true, true, true, true, true, true, false, false, false, false]
def clL_n19 : Array Bool := #[true, true, true, true, true, true, true, true, true, false, false, false]
def clL_n20 : Array Bool := #[true, true, true, true, true, true, true, true, true, true, false, false]
def clL_n21 : Array Bool := #[true, true, true, true, true, true, true, true, true, true, true, false]
@[simp] def clL_b1 (frm : Int) (lst : Int) (now : Int) (n : Nat) (pre : List Nat) (cp : Nat) (Al : Option Addr) (cl : Nat) (cb : Nat) (c1 : Nat) (c2 : Nat) (ga : Nat) (w : World) (z2 : Nat) : List Bk := [⟨cb, 59, false, [.int .i64 frm, .int .i64 lst, .slice (some ⟨ga, 0, none⟩) n cp]⟩, ⟨w.heap.size, 24, false, [(pt cb 0)]⟩, ⟨w.heap.size + 1, 3, false, [.int .i64 (within14 now)]⟩, ⟨z2, 22, true, [.slice Al pre.length cl]⟩, ⟨c1, 24, false, [(pt cb 0)]⟩, ⟨c2, 66, false, [.func (.func 24) #[] #[(pt (w.heap.size + 1) 0)]]⟩]
@[simp] def clL_b2 (frm : Int) (lst : Int) (now : Int) (o : OneM) (n : Nat) (pre : List Nat) (cp : Nat) (Al : Option Addr) (cl : Nat) (cb : Nat) (c1 : Nat) (c2 : Nat) (ga : Nat) (w : World) (z2 : Nat) (z9 : Nat) : List Bk := [⟨cb, 59, false, [.int .i64 frm, .int .i64 lst, .slice (some ⟨ga, 0, none⟩) n cp]⟩, ⟨w.heap.size, 24, false, [(pt cb 0)]⟩, ⟨w.heap.size + 1, 3, false, [.int .i64 (within14 now)]⟩, ⟨z2, 22, true, [.slice Al pre.length cl]⟩, ⟨c1, 24, false, [(pt cb 0)]⟩, ⟨c2, 66, false, [.func (.func 24) #[] #[(pt (w.heap.size + 1) 0)]]⟩, ⟨z9, 3, true, [.int .i64 o.to]⟩]
@[simp] def clL_b3 (frm : Int) (lst : Int) (now : Int) (n : Nat) (pre : List Nat) (cp : Nat) (A2 : Option Addr) (cp2 : Nat) (cb : Nat) (c1 : Nat) (c2 : Nat) (ga : Nat) (w : World) (z2 : Nat) : List Bk := [⟨cb, 59, false, [.int .i64 frm, .int .i64 lst, .slice (some ⟨ga, 0, none⟩) n cp]⟩, ⟨w.heap.size, 24, false, [(pt cb 0)]⟩, ⟨w.heap.size + 1, 3, false, [.int .i64 (within14 now)]⟩, ⟨z2, 22, true, [.slice A2 (pre.length + 1) cp2]⟩, ⟨c1, 24, false, [(pt cb 0)]⟩, ⟨c2, 66, false, [.func (.func 24) #[] #[(pt (w.heap.size + 1) 0)]]⟩]
@[simp] def clL_b4 (frm : Int) (lst : Int) (now : Int) (n : Nat) (A : Option Addr) (cp : Nat) (cb : Nat) (c1 : Nat) (c2 : Nat) (w : World) (z2 : Nat) : List Bk := [⟨cb, 59, false, [.int .i64 frm, .int .i64 lst, .slice A n cp]⟩, ⟨w.heap.size, 24, true, [(pt cb 0)]⟩, ⟨w.heap.size + 1, 3, true, [.int .i64 (within14 now)]⟩, ⟨z2, 22, true, [.slice none 0 0]⟩, ⟨c1, 24, false, [(pt cb 0)]⟩, ⟨c2, 66, false, [.func (.func 24) #[] #[(pt (w.heap.size + 1) 0)]]⟩]
theorem clL_t8 (frm : Int) (lst : Int) (now : Int) (o : OneM) (n : Nat) (x : Nat) (pre : List Nat) (cp : Nat) (Al : Option Addr) (cl : Nat) (cb : Nat) (c1 : Nat) (c2 : Nat) (ga : Nat) (w : World) (W : World) (z2 : Nat) : tailP [2, 4, 5, 18] (tailX Try.prog 28 (opsOf (getCode (bodyOf Try.f13) clL_n1)) 12 clL_n2 ⟨[(2, (pt w.heap.size 0)), (4, .slice none 0 0), (5, (pt z2 0)), (6, .int .i64 (x : Int))], (clL_b1 frm lst now n pre cp Al cl cb c1 c2 ga w z2), [⟨ga, 0 + x * 13, (clL_v1 o)⟩], W.heap.size⟩ [(5, true, oh0)]) = some (⟨[], dupR [], ⟨[(2, (pt w.heap.size 0)), (4, .slice none 0 0), (5, (pt z2 0)), (18, .int .i64 (x : Int))], (clL_b1 frm lst now n pre cp Al cl cb c1 c2 ga w z2), [⟨ga, 0 + x * 13, (clL_v1 o)⟩], W.heap.size⟩⟩, 11, clL_n3) := by kernel_rfl
theorem clL_e10 (frm : Int) (lst : Int) (now : Int) (o : OneM) (n : Nat) (x : Nat) (pre : List Nat) (cp : Nat) (Al : Option Addr) (cl : Nat) (cb : Nat) (c1 : Nat) (c2 : Nat) (ga : Nat) (w : World) (z2 : Nat) (z9 : Nat) : Out.prune [4, 5, 13, 22] (opStep Try.prog 28 (opsOf (getCode (bodyOf Try.f13) clL_n1)) ⟨[(4, .slice none 0 0), (5, (pt z2 0)), (13, .slice Al pre.length cl), (21, .int .i64 o.to)], (clL_b1 frm lst now n pre cp Al cl cb c1 c2 ga w z2), [⟨ga, 0 + x * 13, (clL_v1 o)⟩], z9⟩ 9 oh0) = some ⟨[], dupR [], ⟨[(4, .slice none 0 0), (5, (pt z2 0)), (13, .slice Al pre.length cl), (22, .slice (some ⟨z9, 0, none⟩) 1 1)], (clL_b2 frm lst now o n pre cp Al cl cb c1 c2 ga w z2 z9), [⟨ga, 0 + x * 13, (clL_v1 o)⟩], z9 + 1⟩⟩ := by kernel_rfl
theorem clL_e11 (frm : Int) (lst : Int) (now : Int) (o : OneM) (n : Nat) (x : Nat) (pre : List Nat) (cp : Nat) (Al : Option Addr) (cl : Nat) (cb : Nat) (c1 : Nat) (c2 : Nat) (ga : Nat) (w : World) (z2 : Nat) (z9 : Nat) : Out.prune [4, 5, 13, 22] (opStep Try.prog 28 (opsOf (getCode (bodyOf Try.f13) clL_n1)) ⟨[(4, .slice none 0 0), (5, (pt z2 0)), (22, .slice (some ⟨z9, 0, none⟩) 1 1)], (clL_b2 frm lst now o n pre cp Al cl cb c1 c2 ga w z2 z9), [⟨ga, 0 + x * 13, (clL_v1 o)⟩], z9 + 1⟩ 0 ⟨false, 0, [⟨false, 3, 0, 1⟩]⟩) = some ⟨[], dupR [(z2, 0, 1)], ⟨[(4, .slice none 0 0), (5, (pt z2 0)), (13, .slice Al pre.length cl), (22, .slice (some ⟨z9, 0, none⟩) 1 1)], (clL_b2 frm lst now o n pre cp Al cl cb c1 c2 ga w z2 z9), [⟨ga, 0 + x * 13, (clL_v1 o)⟩], z9 + 1⟩⟩ := by kernel_rfl
theorem clL_e12 (frm : Int) (lst : Int) (now : Int) (o : OneM) (n : Nat) (x : Nat) (pre : List Nat) (cp : Nat) (Al : Option Addr) (cl : Nat) (cb : Nat) (c1 : Nat) (c2 : Nat) (ga : Nat) (w : World) (z2 : Nat) (z9 : Nat) : Out.prune [4, 5, 13, 21] (opStep Try.prog 28 (opsOf (getCode (bodyOf Try.f13) clL_n1)) ⟨[(4, .slice none 0 0), (5, (pt z2 0)), (13, .slice Al pre.length cl), (20, .pointer (some ⟨ga, 0 + x * 13, none⟩))], (clL_b1 frm lst now n pre cp Al cl cb c1 c2 ga w z2), [⟨ga, 0 + x * 13, (clL_v1 o)⟩], z9⟩ 8 ⟨false, 0, [⟨true, 0, 0, 1⟩]⟩) = some ⟨[], dupR [(ga, 0 + x * 13, 1)], ⟨[(4, .slice none 0 0), (5, (pt z2 0)), (13, .slice Al pre.length cl), (21, .int .i64 o.to)], (clL_b1 frm lst now n pre cp Al cl cb c1 c2 ga w z2), [⟨ga, 0 + x * 13, (clL_v1 o)⟩], z9⟩⟩ := by kernel_rfl
theorem clL_e13 (frm : Int) (lst : Int) (now : Int) (o : OneM) (n : Nat) (x : Nat) (pre : List Nat) (cp : Nat) (Al : Option Addr) (cl : Nat) (cb : Nat) (c1 : Nat) (c2 : Nat) (ga : Nat) (w : World) (z2 : Nat) (z9 : Nat) : Out.prune [4, 5, 13, 21] (opStep Try.prog 28 (opsOf (getCode (bodyOf Try.f13) clL_n1)) ⟨[(4, .slice none 0 0), (5, (pt z2 0)), (21, .int .i64 o.to)], (clL_b1 frm lst now n pre cp Al cl cb c1 c2 ga w z2), [⟨ga, 0 + x * 13, (clL_v1 o)⟩], z9⟩ 0 ⟨false, 0, [⟨false, 3, 0, 1⟩]⟩) = some ⟨[], dupR [(z2, 0, 1)], ⟨[(4, .slice none 0 0), (5, (pt z2 0)), (13, .slice Al pre.length cl), (21, .int .i64 o.to)], (clL_b1 frm lst now n pre cp Al cl cb c1 c2 ga w z2), [⟨ga, 0 + x * 13, (clL_v1 o)⟩], z9⟩⟩ := by kernel_rfl
theorem clL_e14 (frm : Int) (lst : Int) (now : Int) (o : OneM) (n : Nat) (x : Nat) (pre : List Nat) (cp : Nat) (Al : Option Addr) (cl : Nat) (cb : Nat) (c1 : Nat) (c2 : Nat) (ga : Nat) (w : World) (z2 : Nat) (z9 : Nat) : Out.prune [4, 5, 22] (opStep Try.prog 28 (opsOf (getCode (bodyOf Try.f13) clL_n1)) ⟨[(4, .slice none 0 0), (5, (pt z2 0)), (21, .int .i64 o.to)], (clL_b1 frm lst now n pre cp Al cl cb c1 c2 ga w z2), [⟨ga, 0 + x * 13, (clL_v1 o)⟩], z9⟩ 9 oh0) = some ⟨[], dupR [], ⟨[(4, .slice none 0 0), (5, (pt z2 0)), (22, .slice (some ⟨z9, 0, none⟩) 1 1)], (clL_b2 frm lst now o n pre cp Al cl cb c1 c2 ga w z2 z9), [⟨ga, 0 + x * 13, (clL_v1 o)⟩], z9 + 1⟩⟩ := by kernel_rfl
theorem clL_e15 (frm : Int) (lst : Int) (now : Int) (o : OneM) (n : Nat) (x : Nat) (pre : List Nat) (cp : Nat) (Al : Option Addr) (cl : Nat) (cb : Nat) (c1 : Nat) (c2 : Nat) (ga : Nat) (w : World) (z2 : Nat) (z9 : Nat) : Out.prune [4, 5, 13, 20] (opStep Try.prog 28 (opsOf (getCode (bodyOf Try.f13) clL_n1)) ⟨[(4, .slice none 0 0), (5, (pt z2 0)), (13, .slice Al pre.length cl), (19, .pointer (some ⟨ga, 0 + x * 13, none⟩))], (clL_b1 frm lst now n pre cp Al cl cb c1 c2 ga w z2), [⟨ga, 0 + x * 13, (clL_v1 o)⟩], z9⟩ 7 oh0) = some ⟨[], dupR [], ⟨[(4, .slice none 0 0), (5, (pt z2 0)), (13, .slice Al pre.length cl), (20, .pointer (some ⟨ga, 0 + x * 13, none⟩))], (clL_b1 frm lst now n pre cp Al cl cb c1 c2 ga w z2), [⟨ga, 0 + x * 13, (clL_v1 o)⟩], z9⟩⟩ := by kernel_rfl
theorem clL_e16 (frm : Int) (lst : Int) (now : Int) (o : OneM) (n : Nat) (x : Nat) (pre : List Nat) (cp : Nat) (Al : Option Addr) (cl : Nat) (cb : Nat) (c1 : Nat) (c2 : Nat) (ga : Nat) (w : World) (z2 : Nat) (z9 : Nat) : Out.prune [4, 5, 13, 20] (opStep Try.prog 28 (opsOf (getCode (bodyOf Try.f13) clL_n1)) ⟨[(4, .slice none 0 0), (5, (pt z2 0)), (20, .pointer (some ⟨ga, 0 + x * 13, none⟩))], (clL_b1 frm lst now n pre cp Al cl cb c1 c2 ga w z2), [⟨ga, 0 + x * 13, (clL_v1 o)⟩], z9⟩ 0 ⟨false, 0, [⟨false, 3, 0, 1⟩]⟩) = some ⟨[], dupR [(z2, 0, 1)], ⟨[(4, .slice none 0 0), (5, (pt z2 0)), (13, .slice Al pre.length cl), (20, .pointer (some ⟨ga, 0 + x * 13, none⟩))], (clL_b1 frm lst now n pre cp Al cl cb c1 c2 ga w z2), [⟨ga, 0 + x * 13, (clL_v1 o)⟩], z9⟩⟩ := by kernel_rfl
theorem clL_e17 (frm : Int) (lst : Int) (now : Int) (o : OneM) (n : Nat) (x : Nat) (pre : List Nat) (cp : Nat) (Al : Option Addr) (cl : Nat) (cb : Nat) (c1 : Nat) (c2 : Nat) (ga : Nat) (w : World) (z2 : Nat) (z9 : Nat) : Out.prune [4, 5, 21] (opStep Try.prog 28 (opsOf (getCode (bodyOf Try.f13) clL_n1)) ⟨[(4, .slice none 0 0), (5, (pt z2 0)), (20, .pointer (some ⟨ga, 0 + x * 13, none⟩))], (clL_b1 frm lst now n pre cp Al cl cb c1 c2 ga w z2), [⟨ga, 0 + x * 13, (clL_v1 o)⟩], z9⟩ 8 ⟨false, 0, [⟨true, 0, 0, 1⟩]⟩) = some ⟨[], dupR [(ga, 0 + x * 13, 1)], ⟨[(4, .slice none 0 0), (5, (pt z2 0)), (21, .int .i64 o.to)], (clL_b1 frm lst now n pre cp Al cl cb c1 c2 ga w z2), [⟨ga, 0 + x * 13, (clL_v1 o)⟩], z9⟩⟩ := by kernel_rfl
theorem clL_e18 (frm : Int) (lst : Int) (now : Int) (o : OneM) (n : Nat) (x : Nat) (pre : List Nat) (cp : Nat) (Al : Option Addr) (cl : Nat) (cb : Nat) (c1 : Nat) (c2 : Nat) (ga : Nat) (w : World) (z2 : Nat) (z9 : Nat) : Out.prune [4, 5, 13, 19] (opStep Try.prog 28 (opsOf (getCode (bodyOf Try.f13) clL_n1)) ⟨[(4, .slice none 0 0), (5, (pt z2 0)), (13, .slice Al pre.length cl), (17, .slice (some ⟨ga, 0, none⟩) n cp), (18, .int .i64 (x : Int))], (clL_b1 frm lst now n pre cp Al cl cb c1 c2 ga w z2), [⟨ga, 0 + x * 13, (clL_v1 o)⟩], z9⟩ 6 oh2) = some ⟨[(0 : Int) ≤ (x : Int) ∧ (x : Int) < ((n : Nat) : Int)], dupR [], ⟨[(4, .slice none 0 0), (5, (pt z2 0)), (13, .slice Al pre.length cl), (19, .pointer (some ⟨ga, 0 + x * 13, none⟩))], (clL_b1 frm lst now n pre cp Al cl cb c1 c2 ga w z2), [⟨ga, 0 + x * 13, (clL_v1 o)⟩], z9⟩⟩ := by kernel_rfl
theorem clL_e19 (frm : Int) (lst : Int) (now : Int) (o : OneM) (n : Nat) (x : Nat) (pre : List Nat) (cp : Nat) (Al : Option Addr) (cl : Nat) (cb : Nat) (c1 : Nat) (c2 : Nat) (ga : Nat) (w : World) (z2 : Nat) (z9 : Nat) : Out.prune [4, 5, 13, 19] (opStep Try.prog 28 (opsOf (getCode (bodyOf Try.f13) clL_n1)) ⟨[(4, .slice none 0 0), (5, (pt z2 0)), (19, .pointer (some ⟨ga, 0 + x * 13, none⟩))], (clL_b1 frm lst now n pre cp Al cl cb c1 c2 ga w z2), [⟨ga, 0 + x * 13, (clL_v1 o)⟩], z9⟩ 0 ⟨false, 0, [⟨false, 3, 0, 1⟩]⟩) = some ⟨[], dupR [(z2, 0, 1)], ⟨[(4, .slice none 0 0), (5, (pt z2 0)), (13, .slice Al pre.length cl), (19, .pointer (some ⟨ga, 0 + x * 13, none⟩))], (clL_b1 frm lst now n pre cp Al cl cb c1 c2 ga w z2), [⟨ga, 0 + x * 13, (clL_v1 o)⟩], z9⟩⟩ := by kernel_rfl
theorem clL_e20 (frm : Int) (lst : Int) (now : Int) (o : OneM) (n : Nat) (x : Nat) (pre : List Nat) (cp : Nat) (Al : Option Addr) (cl : Nat) (cb : Nat) (c1 : Nat) (c2 : Nat) (ga : Nat) (w : World) (z2 : Nat) (z9 : Nat) : Out.prune [4, 5, 20] (opStep Try.prog 28 (opsOf (getCode (bodyOf Try.f13) clL_n1)) ⟨[(4, .slice none 0 0), (5, (pt z2 0)), (19, .pointer (some ⟨ga, 0 + x * 13, none⟩))], (clL_b1 frm lst now n pre cp Al cl cb c1 c2 ga w z2), [⟨ga, 0 + x * 13, (clL_v1 o)⟩], z9⟩ 7 oh0) = some ⟨[], dupR [], ⟨[(4, .slice none 0 0), (5, (pt z2 0)), (20, .pointer (some ⟨ga, 0 + x * 13, none⟩))], (clL_b1 frm lst now n pre cp Al cl cb c1 c2 ga w z2), [⟨ga, 0 + x * 13, (clL_v1 o)⟩], z9⟩⟩ := by kernel_rfl
theorem clL_e21 (frm : Int) (lst : Int) (now : Int) (o : OneM) (n : Nat) (x : Nat) (pre : List Nat) (cp : Nat) (Al : Option Addr) (cl : Nat) (cb : Nat) (c1 : Nat) (c2 : Nat) (ga : Nat) (w : World) (z2 : Nat) (z9 : Nat) : Out.prune [4, 5, 13, 17, 18] (opStep Try.prog 28 (opsOf (getCode (bodyOf Try.f13) clL_n1)) ⟨[(4, .slice none 0 0), (5, (pt z2 0)), (13, .slice Al pre.length cl), (16, (pt cb 2)), (18, .int .i64 (x : Int))], (clL_b1 frm lst now n pre cp Al cl cb c1 c2 ga w z2), [⟨ga, 0 + x * 13, (clL_v1 o)⟩], z9⟩ 4 ⟨false, 0, [⟨false, 0, 2, 1⟩]⟩) = some ⟨[], dupR [(cb, 2, 1)], ⟨[(4, .slice none 0 0), (5, (pt z2 0)), (13, .slice Al pre.length cl), (17, .slice (some ⟨ga, 0, none⟩) n cp), (18, .int .i64 (x : Int))], (clL_b1 frm lst now n pre cp Al cl cb c1 c2 ga w z2), [⟨ga, 0 + x * 13, (clL_v1 o)⟩], z9⟩⟩ := by kernel_rfl
theorem clL_e22 (frm : Int) (lst : Int) (now : Int) (o : OneM) (n : Nat) (x : Nat) (pre : List Nat) (cp : Nat) (Al : Option Addr) (cl : Nat) (cb : Nat) (c1 : Nat) (c2 : Nat) (ga : Nat) (w : World) (z2 : Nat) (z9 : Nat) : Out.prune [4, 5, 13, 17, 18] (opStep Try.prog 28 (opsOf (getCode (bodyOf Try.f13) clL_n1)) ⟨[(4, .slice none 0 0), (5, (pt z2 0)), (17, .slice (some ⟨ga, 0, none⟩) n cp), (18, .int .i64 (x : Int))], (clL_b1 frm lst now n pre cp Al cl cb c1 c2 ga w z2), [⟨ga, 0 + x * 13, (clL_v1 o)⟩], z9⟩ 0 ⟨false, 0, [⟨false, 3, 0, 1⟩]⟩) = some ⟨[], dupR [(z2, 0, 1)], ⟨[(4, .slice none 0 0), (5, (pt z2 0)), (13, .slice Al pre.length cl), (17, .slice (some ⟨ga, 0, none⟩) n cp), (18, .int .i64 (x : Int))], (clL_b1 frm lst now n pre cp Al cl cb c1 c2 ga w z2), [⟨ga, 0 + x * 13, (clL_v1 o)⟩], z9⟩⟩ := by kernel_rfl
theorem clL_e23 (frm : Int) (lst : Int) (now : Int) (o : OneM) (n : Nat) (x : Nat) (pre : List Nat) (cp : Nat) (Al : Option Addr) (cl : Nat) (cb : Nat) (c1 : Nat) (c2 : Nat) (ga : Nat) (w : World) (z2 : Nat) (z9 : Nat) : Out.prune [4, 5, 19] (opStep Try.prog 28 (opsOf (getCode (bodyOf Try.f13) clL_n1)) ⟨[(4, .slice none 0 0), (5, (pt z2 0)), (17, .slice (some ⟨ga, 0, none⟩) n cp), (18, .int .i64 (x : Int))], (clL_b1 frm lst now n pre cp Al cl cb c1 c2 ga w z2), [⟨ga, 0 + x * 13, (clL_v1 o)⟩], z9⟩ 6 oh2) = some ⟨[(0 : Int) ≤ (x : Int) ∧ (x : Int) < ((n : Nat) : Int)], dupR [], ⟨[(4, .slice none 0 0), (5, (pt z2 0)), (19, .pointer (some ⟨ga, 0 + x * 13, none⟩))], (clL_b1 frm lst now n pre cp Al cl cb c1 c2 ga w z2), [⟨ga, 0 + x * 13, (clL_v1 o)⟩], z9⟩⟩ := by kernel_rfl
theorem clL_e24 (frm : Int) (lst : Int) (now : Int) (o : OneM) (n : Nat) (x : Nat) (pre : List Nat) (cp : Nat) (Al : Option Addr) (cl : Nat) (cb : Nat) (c1 : Nat) (c2 : Nat) (ga : Nat) (w : World) (z2 : Nat) (z9 : Nat) : Out.prune [4, 5, 13, 16, 18] (opStep Try.prog 28 (opsOf (getCode (bodyOf Try.f13) clL_n1)) ⟨[(4, .slice none 0 0), (5, (pt z2 0)), (13, .slice Al pre.length cl), (15, (pt cb 0)), (18, .int .i64 (x : Int))], (clL_b1 frm lst now n pre cp Al cl cb c1 c2 ga w z2), [⟨ga, 0 + x * 13, (clL_v1 o)⟩], z9⟩ 3 oh0) = some ⟨[], dupR [], ⟨[(4, .slice none 0 0), (5, (pt z2 0)), (13, .slice Al pre.length cl), (16, (pt cb 2)), (18, .int .i64 (x : Int))], (clL_b1 frm lst now n pre cp Al cl cb c1 c2 ga w z2), [⟨ga, 0 + x * 13, (clL_v1 o)⟩], z9⟩⟩ := by kernel_rfl
theorem clL_e25 (frm : Int) (lst : Int) (now : Int) (o : OneM) (n : Nat) (x : Nat) (pre : List Nat) (cp : Nat) (Al : Option Addr) (cl : Nat) (cb : Nat) (c1 : Nat) (c2 : Nat) (ga : Nat) (w : World) (z2 : Nat) (z9 : Nat) : Out.prune [4, 5, 13, 16, 18] (opStep Try.prog 28 (opsOf (getCode (bodyOf Try.f13) clL_n1)) ⟨[(4, .slice none 0 0), (5, (pt z2 0)), (16, (pt cb 2)), (18, .int .i64 (x : Int))], (clL_b1 frm lst now n pre cp Al cl cb c1 c2 ga w z2), [⟨ga, 0 + x * 13, (clL_v1 o)⟩], z9⟩ 0 ⟨false, 0, [⟨false, 3, 0, 1⟩]⟩) = some ⟨[], dupR [(z2, 0, 1)], ⟨[(4, .slice none 0 0), (5, (pt z2 0)), (13, .slice Al pre.length cl), (16, (pt cb 2)), (18, .int .i64 (x : Int))], (clL_b1 frm lst now n pre cp Al cl cb c1 c2 ga w z2), [⟨ga, 0 + x * 13, (clL_v1 o)⟩], z9⟩⟩ := by kernel_rfl
theorem clL_e26 (frm : Int) (lst : Int) (now : Int) (o : OneM) (n : Nat) (x : Nat) (pre : List Nat) (cp : Nat) (Al : Option Addr) (cl : Nat) (cb : Nat) (c1 : Nat) (c2 : Nat) (ga : Nat) (w : World) (z2 : Nat) (z9 : Nat) : Out.prune [4, 5, 17, 18] (opStep Try.prog 28 (opsOf (getCode (bodyOf Try.f13) clL_n1)) ⟨[(4, .slice none 0 0), (5, (pt z2 0)), (16, (pt cb 2)), (18, .int .i64 (x : Int))], (clL_b1 frm lst now n pre cp Al cl cb c1 c2 ga w z2), [⟨ga, 0 + x * 13, (clL_v1 o)⟩], z9⟩ 4 ⟨false, 0, [⟨false, 0, 2, 1⟩]⟩) = some ⟨[], dupR [(cb, 2, 1)], ⟨[(4, .slice none 0 0), (5, (pt z2 0)), (17, .slice (some ⟨ga, 0, none⟩) n cp), (18, .int .i64 (x : Int))], (clL_b1 frm lst now n pre cp Al cl cb c1 c2 ga w z2), [⟨ga, 0 + x * 13, (clL_v1 o)⟩], z9⟩⟩ := by kernel_rfl
theorem clL_e27 (frm : Int) (lst : Int) (now : Int) (o : OneM) (n : Nat) (x : Nat) (pre : List Nat) (cp : Nat) (Al : Option Addr) (cl : Nat) (cb : Nat) (c1 : Nat) (c2 : Nat) (ga : Nat) (w : World) (z2 : Nat) (z9 : Nat) : Out.prune [4, 5, 13, 15, 18] (opStep Try.prog 28 (opsOf (getCode (bodyOf Try.f13) clL_n1)) ⟨[(4, .slice none 0 0), (5, (pt z2 0)), (13, .slice Al pre.length cl), (14, (pt cb 0)), (18, .int .i64 (x : Int))], (clL_b1 frm lst now n pre cp Al cl cb c1 c2 ga w z2), [⟨ga, 0 + x * 13, (clL_v1 o)⟩], z9⟩ 2 oh0) = some ⟨[], dupR [], ⟨[(4, .slice none 0 0), (5, (pt z2 0)), (13, .slice Al pre.length cl), (15, (pt cb 0)), (18, .int .i64 (x : Int))], (clL_b1 frm lst now n pre cp Al cl cb c1 c2 ga w z2), [⟨ga, 0 + x * 13, (clL_v1 o)⟩], z9⟩⟩ := by kernel_rfl
theorem clL_e28 (frm : Int) (lst : Int) (now : Int) (o : OneM) (n : Nat) (x : Nat) (pre : List Nat) (cp : Nat) (Al : Option Addr) (cl : Nat) (cb : Nat) (c1 : Nat) (c2 : Nat) (ga : Nat) (w : World) (z2 : Nat) (z9 : Nat) : Out.prune [4, 5, 13, 15, 18] (opStep Try.prog 28 (opsOf (getCode (bodyOf Try.f13) clL_n1)) ⟨[(4, .slice none 0 0), (5, (pt z2 0)), (15, (pt cb 0)), (18, .int .i64 (x : Int))], (clL_b1 frm lst now n pre cp Al cl cb c1 c2 ga w z2), [⟨ga, 0 + x * 13, (clL_v1 o)⟩], z9⟩ 0 ⟨false, 0, [⟨false, 3, 0, 1⟩]⟩) = some ⟨[], dupR [(z2, 0, 1)], ⟨[(4, .slice none 0 0), (5, (pt z2 0)), (13, .slice Al pre.length cl), (15, (pt cb 0)), (18, .int .i64 (x : Int))], (clL_b1 frm lst now n pre cp Al cl cb c1 c2 ga w z2), [⟨ga, 0 + x * 13, (clL_v1 o)⟩], z9⟩⟩ := by kernel_rfl
theorem clL_e29 (frm : Int) (lst : Int) (now : Int) (o : OneM) (n : Nat) (x : Nat) (pre : List Nat) (cp : Nat) (Al : Option Addr) (cl : Nat) (cb : Nat) (c1 : Nat) (c2 : Nat) (ga : Nat) (w : World) (z2 : Nat) (z9 : Nat) : Out.prune [4, 5, 16, 18] (opStep Try.prog 28 (opsOf (getCode (bodyOf Try.f13) clL_n1)) ⟨[(4, .slice none 0 0), (5, (pt z2 0)), (15, (pt cb 0)), (18, .int .i64 (x : Int))], (clL_b1 frm lst now n pre cp Al cl cb c1 c2 ga w z2), [⟨ga, 0 + x * 13, (clL_v1 o)⟩], z9⟩ 3 oh0) = some ⟨[], dupR [], ⟨[(4, .slice none 0 0), (5, (pt z2 0)), (16, (pt cb 2)), (18, .int .i64 (x : Int))], (clL_b1 frm lst now n pre cp Al cl cb c1 c2 ga w z2), [⟨ga, 0 + x * 13, (clL_v1 o)⟩], z9⟩⟩ := by kernel_rfl
theorem clL_e30 (frm : Int) (lst : Int) (now : Int) (o : OneM) (n : Nat) (x : Nat) (pre : List Nat) (cp : Nat) (Al : Option Addr) (cl : Nat) (cb : Nat) (c1 : Nat) (c2 : Nat) (ga : Nat) (w : World) (z2 : Nat) (z9 : Nat) : Out.prune [4, 5, 13, 14, 18] (opStep Try.prog 28 (opsOf (getCode (bodyOf Try.f13) clL_n1)) ⟨[(2, (pt w.heap.size 0)), (4, .slice none 0 0), (5, (pt z2 0)), (13, .slice Al pre.length cl), (18, .int .i64 (x : Int))], (clL_b1 frm lst now n pre cp Al cl cb c1 c2 ga w z2), [⟨ga, 0 + x * 13, (clL_v1 o)⟩], z9⟩ 1 ⟨false, 0, [⟨false, 1, 0, 1⟩]⟩) = some ⟨[], dupR [(w.heap.size, 0, 1)], ⟨[(4, .slice none 0 0), (5, (pt z2 0)), (13, .slice Al pre.length cl), (14, (pt cb 0)), (18, .int .i64 (x : Int))], (clL_b1 frm lst now n pre cp Al cl cb c1 c2 ga w z2), [⟨ga, 0 + x * 13, (clL_v1 o)⟩], z9⟩⟩ := by kernel_rfl
theorem clL_e31 (frm : Int) (lst : Int) (now : Int) (o : OneM) (n : Nat) (x : Nat) (pre : List Nat) (cp : Nat) (Al : Option Addr) (cl : Nat) (cb : Nat) (c1 : Nat) (c2 : Nat) (ga : Nat) (w : World) (z2 : Nat) (z9 : Nat) : Out.prune [4, 5, 13, 14, 18] (opStep Try.prog 28 (opsOf (getCode (bodyOf Try.f13) clL_n1)) ⟨[(4, .slice none 0 0), (5, (pt z2 0)), (14, (pt cb 0)), (18, .int .i64 (x : Int))], (clL_b1 frm lst now n pre cp Al cl cb c1 c2 ga w z2), [⟨ga, 0 + x * 13, (clL_v1 o)⟩], z9⟩ 0 ⟨false, 0, [⟨false, 3, 0, 1⟩]⟩) = some ⟨[], dupR [(z2, 0, 1)], ⟨[(4, .slice none 0 0), (5, (pt z2 0)), (13, .slice Al pre.length cl), (14, (pt cb 0)), (18, .int .i64 (x : Int))], (clL_b1 frm lst now n pre cp Al cl cb c1 c2 ga w z2), [⟨ga, 0 + x * 13, (clL_v1 o)⟩], z9⟩⟩ := by kernel_rfl
theorem clL_e32 (frm : Int) (lst : Int) (now : Int) (o : OneM) (n : Nat) (x : Nat) (pre : List Nat) (cp : Nat) (Al : Option Addr) (cl : Nat) (cb : Nat) (c1 : Nat) (c2 : Nat) (ga : Nat) (w : World) (z2 : Nat) (z9 : Nat) : Out.prune [4, 5, 15, 18] (opStep Try.prog 28 (opsOf (getCode (bodyOf Try.f13) clL_n1)) ⟨[(4, .slice none 0 0), (5, (pt z2 0)), (14, (pt cb 0)), (18, .int .i64 (x : Int))], (clL_b1 frm lst now n pre cp Al cl cb c1 c2 ga w z2), [⟨ga, 0 + x * 13, (clL_v1 o)⟩], z9⟩ 2 oh0) = some ⟨[], dupR [], ⟨[(4, .slice none 0 0), (5, (pt z2 0)), (15, (pt cb 0)), (18, .int .i64 (x : Int))], (clL_b1 frm lst now n pre cp Al cl cb c1 c2 ga w z2), [⟨ga, 0 + x * 13, (clL_v1 o)⟩], z9⟩⟩ := by kernel_rfl
theorem clL_e33 (frm : Int) (lst : Int) (now : Int) (o : OneM) (n : Nat) (x : Nat) (pre : List Nat) (cp : Nat) (Al : Option Addr) (cl : Nat) (cb : Nat) (c1 : Nat) (c2 : Nat) (ga : Nat) (w : World) (z2 : Nat) (z9 : Nat) : Out.prune [2, 4, 5, 13, 18] (opStep Try.prog 28 (opsOf (getCode (bodyOf Try.f13) clL_n1)) ⟨[(2, (pt w.heap.size 0)), (4, .slice none 0 0), (5, (pt z2 0)), (18, .int .i64 (x : Int))], (clL_b1 frm lst now n pre cp Al cl cb c1 c2 ga w z2), [⟨ga, 0 + x * 13, (clL_v1 o)⟩], z9⟩ 0 ⟨false, 0, [⟨false, 3, 0, 1⟩]⟩) = some ⟨[], dupR [(z2, 0, 1)], ⟨[(2, (pt w.heap.size 0)), (4, .slice none 0 0), (5, (pt z2 0)), (13, .slice Al pre.length cl), (18, .int .i64 (x : Int))], (clL_b1 frm lst now n pre cp Al cl cb c1 c2 ga w z2), [⟨ga, 0 + x * 13, (clL_v1 o)⟩], z9⟩⟩ := by kernel_rfl
theorem clL_e34 (frm : Int) (lst : Int) (now : Int) (o : OneM) (n : Nat) (x : Nat) (pre : List Nat) (cp : Nat) (Al : Option Addr) (cl : Nat) (cb : Nat) (c1 : Nat) (c2 : Nat) (ga : Nat) (w : World) (z2 : Nat) (z9 : Nat) : Out.prune [4, 5, 14, 18] (opStep Try.prog 28 (opsOf (getCode (bodyOf Try.f13) clL_n1)) ⟨[(2, (pt w.heap.size 0)), (4, .slice none 0 0), (5, (pt z2 0)), (18, .int .i64 (x : Int))], (clL_b1 frm lst now n pre cp Al cl cb c1 c2 ga w z2), [⟨ga, 0 + x * 13, (clL_v1 o)⟩], z9⟩ 1 ⟨false, 0, [⟨false, 1, 0, 1⟩]⟩) = some ⟨[], dupR [(w.heap.size, 0, 1)], ⟨[(4, .slice none 0 0), (5, (pt z2 0)), (14, (pt cb 0)), (18, .int .i64 (x : Int))], (clL_b1 frm lst now n pre cp Al cl cb c1 c2 ga w z2), [⟨ga, 0 + x * 13, (clL_v1 o)⟩], z9⟩⟩ := by kernel_rfl
theorem clL_t36 (frm : Int) (lst : Int) (now : Int) (n : Nat) (pre : List Nat) (cp : Nat) (A2 : Option Addr) (cp2 : Nat) (Al : Option Addr) (cl : Nat) (cb : Nat) (c1 : Nat) (c2 : Nat) (ga : Nat) (w : World) (W3 : World) (z2 : Nat) (z9 : Nat) : tailP [4] (tailX Try.prog 28 (opsOf (getCode (bodyOf Try.f13) clL_n1)) 1 clL_n21 ⟨[(23, .slice A2 (pre.length + 1) cp2), (4, .slice none 0 0), (5, (pt z2 0)), (13, .slice Al pre.length cl), (22, .slice (some ⟨z9, 0, none⟩) 1 1)], (clL_b1 frm lst now n pre cp Al cl cb c1 c2 ga w z2), [], W3.heap.size⟩ [(11, false, ⟨false, 0, [⟨false, 3, 0, 1⟩]⟩)]) = some (⟨[], dupR [(z2, 0, 1)], ⟨[(4, .slice none 0 0)], (clL_b3 frm lst now n pre cp A2 cp2 cb c1 c2 ga w z2), [], W3.heap.size⟩⟩, 0, #[true, true, true, true, true, true, true, true, true, true, true, true]) := by kernel_rfl
set_option maxRecDepth 100000 in
set_option maxHeartbeats 4000000 in
theorem late_any (frm lst now : Int) (A : Option Addr) (n cp cb base : Nat) (opn : List OneM) (hn : opn.length = n) (hn8 : n ≤ 64) (hbd : ∀ (j : Nat) (o : OneM), opn[j]? = some o → -9223372036854775808 ≤ within14 now - o.asked ∧ within14 now - o.asked ≤ 9223372036854775807) (w : World) (hc : Blk w cb 59 [.int .i64 frm, .int .i64 lst, .slice A n cp]) (hO : OwnR w base 61 13 A n cp (onesV opn)) :
    Calls Try.prog 13 #[.pointer (some ⟨cb, 0, none⟩), .int .i64 now] w (fun e w' => ∃ Al cl ys, e = .returned (.slice Al (List.length ys) cl) ∧ OwnR w' w.heap.size 3 1 Al (List.length ys) cl (i64s ys) ∧ lateM (within14 now) opn ys ∧ Kept (fun _ => False) w w') := by
  refine calls_of_holdsN (m := 5) (S := (fun _ => False)) (l := [(pt cb 0), .int .i64 now]) (n := 28) Try.func13 (body_of (by kernel_rfl)) rfl (by simp) (MemOk.start (bk := [⟨cb, 59, false, [.int .i64 frm, .int .i64 lst, .slice A n cp]⟩]) (wn := []) (by simpa using hc) (by simp) (by simp) (by simp)) ?_
  refine hgE 12 [oh0, oh0, oh0, ⟨false, 0, [⟨false, 2, 0, 1⟩]⟩] [2, 3, 4, 7] [] [(w.heap.size + 1, 0, 1)] [.ops [1, 0] [1, 2], .code [1, 1]] ⟨[(2, (pt w.heap.size 0)), (3, (pt (w.heap.size + 1) 0)), (4, .slice none 0 0), (7, .int .i64 now)], [⟨cb, 59, false, [.int .i64 frm, .int .i64 lst, .slice A n cp]⟩, ⟨w.heap.size, 24, true, [(pt cb 0)]⟩, ⟨w.heap.size + 1, 3, true, [.int .i64 now]⟩], [], w.heap.size + 2⟩ ?_
  refine hcp (.int .i64 (within14 now)) 18 [.int .i64 now] (some 8) [] trivial rfl (fun wx hm => within_any now wx) fun z2 hz2 => ?_
  replace hz2 : w.heap.size + 2 ≤ z2 := hz2
  refine hgE 14 [⟨false, 0, [⟨false, 2, 0, 1⟩]⟩, oh0, ⟨false, 0, [⟨false, 1, 0, 1⟩]⟩, oh0] [2, 4, 5, 9, 10] [] [(w.heap.size + 1, 0, 1), (w.heap.size, 0, 1)] [.ops [1, 1, 1, 0, 0] [2], .code [1, 1, 1, 0, 1], .code [1, 1, 1, 1]] ⟨[(2, (pt w.heap.size 0)), (4, .slice none 0 0), (5, (pt z2 0)), (9, (pt cb 0)), (10, .func (.func 24) #[] #[(pt (w.heap.size + 1) 0)])], [⟨cb, 59, false, [.int .i64 frm, .int .i64 lst, .slice A n cp]⟩, ⟨w.heap.size, 24, true, [(pt cb 0)]⟩, ⟨w.heap.size + 1, 3, true, [.int .i64 (within14 now)]⟩, ⟨z2, 22, true, [.slice none 0 0]⟩], [], z2 + 1⟩ ?_
  refine holds_callV (w := w) (S' := (fun _ => False)) (Y := Nat × Nat) (fun (⟨c1, c2⟩ : Nat × Nat) => .func (.func 29) #[] #[(pt c1 0), (pt c2 0)]) (fun (⟨c1, c2⟩ : Nat × Nat) => (clL_b4 frm lst now n A cp cb c1 c2 w z2)) (fun (⟨c1, c2⟩ : Nat × Nat) W_ => z2 + 1 ≤ c1 ∧ c1 < c2) (fun (⟨c1, c2⟩ : Nat × Nat) => [(11, .func (.func 29) #[] #[(pt c1 0), (pt c2 0)]), (2, (pt w.heap.size 0)), (4, .slice none 0 0), (5, (pt z2 0)), (9, (pt cb 0)), (10, .func (.func 24) #[] #[(pt (w.heap.size + 1) 0)])]) (show _ = some (20, [(pt cb 0), .func (.func 24) #[] #[(pt (w.heap.size + 1) 0)]], some 11, []) by kernel_rfl) trivial (fun _ => rfl) (fun wx hm => ?_) (fun y W1 hX1 hm1 => ?_)
  · refine (meantLate_fn cb (w.heap.size + 1) wx).mono fun e w' he => ?_
    obtain ⟨c1, c2, he, h1, h2, h3, h4, h5⟩ := he
    have hs : wx.heap.size = z2 + 1 := hm.size
    exact ⟨(c1, c2), he, ⟨by omega, h2⟩, (MemOk.add hm h5 [⟨c1, 24, false, _⟩, ⟨c2, 66, false, _⟩] ⟨h3, h4, trivial⟩ (by simp; omega) (by simp; omega)).2⟩
  obtain ⟨c1, c2⟩ := y
  obtain ⟨hc1, hc2⟩ := hX1
  refine hgE 5 [] [2, 4, 5, 11] [] [] [.code [1, 1, 1, 0, 1, 0], .blk 0, .code [1, 1, 1, 1]] ⟨[(2, (pt w.heap.size 0)), (4, .slice none 0 0), (5, (pt z2 0)), (11, .func (.func 29) #[] #[(pt c1 0), (pt c2 0)])], (clL_b4 frm lst now n A cp cb c1 c2 w z2), [], W1.heap.size⟩ ?_
  refine holds_gndF (bk' := [⟨cb, 59, false, [.int .i64 frm, .int .i64 lst, .slice A n cp]⟩, ⟨w.heap.size, 24, false, [(pt cb 0)]⟩, ⟨w.heap.size + 1, 3, false, [.int .i64 (within14 now)]⟩, ⟨z2, 22, true, [.slice none 0 0]⟩, ⟨c1, 24, false, [(pt cb 0)]⟩, ⟨c2, 66, false, [.func (.func 24) #[] #[(pt (w.heap.size + 1) 0)]]⟩]) [false, false, false, true, false, false] rfl (fun W2 hm0 hm2 => ?_)
  have hk12 : Kept (fun _ => False) w W2 := (MemOk.bck hm1 hm0).kept
  have hB0 : cb < W2.heap.size := (hm2.at_ 0 rfl).lt
  have hB1 : w.heap.size < W2.heap.size := (hm2.at_ 1 rfl).lt
  have hB2 : w.heap.size + 1 < W2.heap.size := (hm2.at_ 2 rfl).lt
  have hB3 : z2 < W2.heap.size := (hm2.at_ 3 rfl).lt
  have hB4 : c1 < W2.heap.size := (hm2.at_ 4 rfl).lt
  have hB5 : c2 < W2.heap.size := (hm2.at_ 5 rfl).lt
  have hO2 := hO.kept hk12 (fun _ _ h => h)
  have hle : w.heap.size ≤ W2.heap.size := hk12.size
  have hapart : ∀ x, ownS A x → x < w.heap.size := fun x hx => (hO.own x hx).2
  have hzL : w.heap.size ≤ z2 := by omega
  refine holds_rangeI (α := Nat) (wn := []) (gf := 29) (enc := fun x => .int .i64 (x : Int)) (N := MeantV (fun o : OneM => decide (within14 now - o.asked ≥ 8)) opn) rfl rfl (enters_of Try.func29 (by kernel_rfl) rfl)
    (CallI W2 (fun x => x = z2) (fun Aq nq cq => [⟨cb, 59, false, [.int .i64 frm, .int .i64 lst, .slice A n cp]⟩, ⟨w.heap.size, 24, false, [(pt cb 0)]⟩, ⟨w.heap.size + 1, 3, false, [.int .i64 (within14 now)]⟩, ⟨z2, 22, true, [.slice Aq nq cq]⟩, ⟨c1, 24, false, [(pt cb 0)]⟩, ⟨c2, 66, false, [.func (.func 24) #[] #[(pt (w.heap.size + 1) 0)]]⟩]) 3 1 (fun pre => i64s (toIs opn pre)) base 61 A n cp (fun _ => opn)) (fun (_ : List Nat) (_ : World) => False) (CallI.own (Nat.le_refl _)) (fun _ _ _ _ h => h.elim) ?h0
    (meantLate_seq W2 c1 c2 cb (w.heap.size + 1) cp n frm lst (within14 now) A opn hn (by omega) ?hne ?hcb ?hbd) ?hInv (fun _ _ _ h hk => h.same hk) (fun x : Nat => [(12, .int .i64 (x : Int)), (2, (pt w.heap.size 0)), (4, .slice none 0 0), (5, (pt z2 0)), (11, .func (.func 29) #[] #[(pt c1 0), (pt c2 0)])]) (fun x : Nat => [(6, .int .i64 (x : Int)), (12, .int .i64 (x : Int)), (2, (pt w.heap.size 0)), (4, .slice none 0 0), (5, (pt z2 0)), (11, .func (.func 29) #[] #[(pt c1 0), (pt c2 0)])]) (fun _ => rfl) ?asg ?body ?done (fun _ _ _ _ h => h.elim)
  case h0 => exact fun wx hm => ⟨none, 0, by have h := (MemOk.wide hm (S' := (fun x => x = z2)) (fun x h => by obtain ⟨b, hb, hr, he⟩ := h; simp at hb; rcases hb with rfl | rfl | rfl | rfl | rfl | rfl <;> simp at he hr; exact he.symm)); rw [← hm.size] at h; exact h, OwnR.nil _ _ _ _, hO2.kept hm.kept (fun x hx h => by obtain ⟨b, hb, hr, he⟩ := h; have h5 := hapart x hx; simp at hb; rcases hb with rfl | rfl | rfl | rfl | rfl | rfl <;> simp at he hr; omega)⟩
  case hne => simp; omega
  case hcb => have := hc.lt; omega
  case hbd => exact fun j o ho => hbd j o ho
  case hInv =>
    rintro pre Wq ⟨Aq, cq, h1, h2, h3⟩
    exact ⟨h1.kept.mono (fun _ _ _ => trivial), h1.at_ 4 rfl, h1.at_ 5 rfl, h1.at_ 2 rfl, fun _ => hn ▸ h1.at_ 0 rfl, fun j o ho _ => by obtain ⟨g, e1, e2, _, e3⟩ := arr_own h3 ho; exact ⟨g, e1, e2, e3⟩⟩
  case asg =>
    intro x l W
    refine hgER (fun _ => trivial) 6 [oh0] [6, 12, 2, 4, 5, 11] [] [] [] ⟨[(6, .int .i64 (x : Int)), (12, .int .i64 (x : Int)), (2, (pt w.heap.size 0)), (4, .slice none 0 0), (5, (pt z2 0)), (11, .func (.func 29) #[] #[(pt c1 0), (pt c2 0)])], [], [], W.heap.size⟩ ?_
    exact holdsR_end (fun a wx hf hm => ⟨rfl, hm.kept, hf⟩)
  case body =>
    rintro l pre x W ⟨Al, cl, hmB, hOl, hOc⟩ ⟨o, ho, hok, hpre⟩
    obtain ⟨ga, hA, hg, hgb, hcell⟩ := arr_own hOc ho
    subst hA
    have hxn : x < n := by have := (List.getElem?_eq_some_iff.1 ho).1; omega
    have hlen : pre.length ≤ x := by rw [hpre]; exact meantL_len
    have hgaS : ga < w.heap.size := hapart ga ⟨_, rfl, rfl⟩
    have hAl := hOl.own
    have hs2 := hmB.kept.size
    refine ⟨(clL_b1 frm lst now n pre cp Al cl cb c1 c2 ga w z2), hmB.again, ?_⟩
    refine hgER (fun _ => trivial) 4 [] [2, 4, 5, 6] [] [] [.code clL_n1, .blk 1] ⟨[(2, (pt w.heap.size 0)), (4, .slice none 0 0), (5, (pt z2 0)), (6, .int .i64 (x : Int))], (clL_b1 frm lst now n pre cp Al cl cb c1 c2 ga w z2), [], W.heap.size⟩ ?_
    refine holdsR_draw (f0 := 12) (ls := clL_n2) (by kernel_rfl) (by kernel_rfl) (by kernel_rfl) (by kernel_rfl) (by kernel_rfl) (fun J hJ => ?_)
    refine holds_wins [⟨ga, 0 + x * 13, o.cells⟩] (fun _ y hy => ?_) ?_
    · simp only [List.mem_cons, List.not_mem_nil, or_false] at hy
      subst hy
      exact ⟨fun h => (by obtain ⟨b, hb, hr, he⟩ := h; simp at hb; rcases hb with rfl | rfl | rfl | rfl | rfl | rfl <;> simp at he hr; omega), hg, fun i v hv => hcell i v hv⟩
    refine holds_tail panicOk_way _ _ (clL_t8 frm lst now o n x pre cp Al cl cb c1 c2 ga w W z2) trivial ?_
    suffices HZ9 : ∀ z9 : Nat, W.heap.size ≤ z9 → Holds [] Try.prog (bodyOf Try.f13) 28 W (Turned (clL_b1 frm lst now n pre cp Al cl cb c1 c2 ga w z2)) (NoWay) [.any clL_n1 2 clL_n20, .inv J] ⟨[(4, .slice none 0 0), (5, (pt z2 0)), (13, .slice Al pre.length cl), (22, .slice (some ⟨z9, 0, none⟩) 1 1)], (clL_b2 frm lst now o n pre cp Al cl cb c1 c2 ga w z2 z9), [⟨ga, 0 + x * 13, (clL_v1 o)⟩], z9 + 1⟩ by
      have A9_0 : ∀ z9 : Nat, W.heap.size ≤ z9 → Holds [] Try.prog (bodyOf Try.f13) 28 W (Turned (clL_b1 frm lst now n pre cp Al cl cb c1 c2 ga w z2)) (NoWay) [.any clL_n1 2 clL_n20, .inv J] ⟨[(4, .slice none 0 0), (5, (pt z2 0)), (13, .slice Al pre.length cl), (22, .slice (some ⟨z9, 0, none⟩) 1 1)], (clL_b2 frm lst now o n pre cp Al cl cb c1 c2 ga w z2 z9), [⟨ga, 0 + x * 13, (clL_v1 o)⟩], z9 + 1⟩ := by
        intro z9 hz9
        exact HZ9 z9 hz9
      have A9_1 : ∀ z9 : Nat, W.heap.size ≤ z9 → Holds [] Try.prog (bodyOf Try.f13) 28 W (Turned (clL_b1 frm lst now n pre cp Al cl cb c1 c2 ga w z2)) (NoWay) [.any clL_n1 3 clL_n19, .inv J] ⟨[(4, .slice none 0 0), (5, (pt z2 0)), (13, .slice Al pre.length cl), (21, .int .i64 o.to)], (clL_b1 frm lst now n pre cp Al cl cb c1 c2 ga w z2), [⟨ga, 0 + x * 13, (clL_v1 o)⟩], z9⟩ := by
        intro z9 hz9
        exact holds_anyAll (l := [9]) (by kernel_rfl) (by simp) ⟨edge_op (ls' := clL_n20) (by kernel_rfl) (clL_e10 frm lst now o n x pre cp Al cl cb c1 c2 ga w z2 z9) trivial (A9_0 z9 hz9), trivial⟩
      have A9_2 : ∀ z9 : Nat, W.heap.size ≤ z9 → Holds [] Try.prog (bodyOf Try.f13) 28 W (Turned (clL_b1 frm lst now n pre cp Al cl cb c1 c2 ga w z2)) (NoWay) [.any clL_n1 3 clL_n11, .inv J] ⟨[(4, .slice none 0 0), (5, (pt z2 0)), (22, .slice (some ⟨z9, 0, none⟩) 1 1)], (clL_b2 frm lst now o n pre cp Al cl cb c1 c2 ga w z2 z9), [⟨ga, 0 + x * 13, (clL_v1 o)⟩], z9 + 1⟩ := by
        intro z9 hz9
        exact holds_anyAll (l := [0]) (by kernel_rfl) (by simp) ⟨edge_op (ls' := clL_n20) (by kernel_rfl) (clL_e11 frm lst now o n x pre cp Al cl cb c1 c2 ga w z2 z9) trivial (A9_0 z9 hz9), trivial⟩
      have A9_3 : ∀ z9 : Nat, W.heap.size ≤ z9 → Holds [] Try.prog (bodyOf Try.f13) 28 W (Turned (clL_b1 frm lst now n pre cp Al cl cb c1 c2 ga w z2)) (NoWay) [.any clL_n1 4 clL_n18, .inv J] ⟨[(4, .slice none 0 0), (5, (pt z2 0)), (13, .slice Al pre.length cl), (20, .pointer (some ⟨ga, 0 + x * 13, none⟩))], (clL_b1 frm lst now n pre cp Al cl cb c1 c2 ga w z2), [⟨ga, 0 + x * 13, (clL_v1 o)⟩], z9⟩ := by
        intro z9 hz9
        exact holds_anyAll (l := [8]) (by kernel_rfl) (by simp) ⟨edge_op (ls' := clL_n19) (by kernel_rfl) (clL_e12 frm lst now o n x pre cp Al cl cb c1 c2 ga w z2 z9) trivial (A9_1 z9 hz9), trivial⟩
      have A9_4 : ∀ z9 : Nat, W.heap.size ≤ z9 → Holds [] Try.prog (bodyOf Try.f13) 28 W (Turned (clL_b1 frm lst now n pre cp Al cl cb c1 c2 ga w z2)) (NoWay) [.any clL_n1 4 clL_n10, .inv J] ⟨[(4, .slice none 0 0), (5, (pt z2 0)), (21, .int .i64 o.to)], (clL_b1 frm lst now n pre cp Al cl cb c1 c2 ga w z2), [⟨ga, 0 + x * 13, (clL_v1 o)⟩], z9⟩ := by
        intro z9 hz9
        exact holds_anyAll (l := [0, 9]) (by kernel_rfl) (by simp) ⟨edge_op (ls' := clL_n19) (by kernel_rfl) (clL_e13 frm lst now o n x pre cp Al cl cb c1 c2 ga w z2 z9) trivial (A9_1 z9 hz9), edge_op (ls' := clL_n11) (by kernel_rfl) (clL_e14 frm lst now o n x pre cp Al cl cb c1 c2 ga w z2 z9) trivial (A9_2 z9 hz9), trivial⟩
      have A9_5 : ∀ z9 : Nat, W.heap.size ≤ z9 → Holds [] Try.prog (bodyOf Try.f13) 28 W (Turned (clL_b1 frm lst now n pre cp Al cl cb c1 c2 ga w z2)) (NoWay) [.any clL_n1 5 clL_n17, .inv J] ⟨[(4, .slice none 0 0), (5, (pt z2 0)), (13, .slice Al pre.length cl), (19, .pointer (some ⟨ga, 0 + x * 13, none⟩))], (clL_b1 frm lst now n pre cp Al cl cb c1 c2 ga w z2), [⟨ga, 0 + x * 13, (clL_v1 o)⟩], z9⟩ := by
        intro z9 hz9
        exact holds_anyAll (l := [7]) (by kernel_rfl) (by simp) ⟨edge_op (ls' := clL_n18) (by kernel_rfl) (clL_e15 frm lst now o n x pre cp Al cl cb c1 c2 ga w z2 z9) trivial (A9_3 z9 hz9), trivial⟩
      have A9_6 : ∀ z9 : Nat, W.heap.size ≤ z9 → Holds [] Try.prog (bodyOf Try.f13) 28 W (Turned (clL_b1 frm lst now n pre cp Al cl cb c1 c2 ga w z2)) (NoWay) [.any clL_n1 5 clL_n9, .inv J] ⟨[(4, .slice none 0 0), (5, (pt z2 0)), (20, .pointer (some ⟨ga, 0 + x * 13, none⟩))], (clL_b1 frm lst now n pre cp Al cl cb c1 c2 ga w z2), [⟨ga, 0 + x * 13, (clL_v1 o)⟩], z9⟩ := by
        intro z9 hz9
        exact holds_anyAll (l := [0, 8]) (by kernel_rfl) (by simp) ⟨edge_op (ls' := clL_n18) (by kernel_rfl) (clL_e16 frm lst now o n x pre cp Al cl cb c1 c2 ga w z2 z9) trivial (A9_3 z9 hz9), edge_op (ls' := clL_n10) (by kernel_rfl) (clL_e17 frm lst now o n x pre cp Al cl cb c1 c2 ga w z2 z9) trivial (A9_4 z9 hz9), trivial⟩
      have A9_7 : ∀ z9 : Nat, W.heap.size ≤ z9 → Holds [] Try.prog (bodyOf Try.f13) 28 W (Turned (clL_b1 frm lst now n pre cp Al cl cb c1 c2 ga w z2)) (NoWay) [.any clL_n1 6 clL_n16, .inv J] ⟨[(4, .slice none 0 0), (5, (pt z2 0)), (13, .slice Al pre.length cl), (17, .slice (some ⟨ga, 0, none⟩) n cp), (18, .int .i64 (x : Int))], (clL_b1 frm lst now n pre cp Al cl cb c1 c2 ga w z2), [⟨ga, 0 + x * 13, (clL_v1 o)⟩], z9⟩ := by
        intro z9 hz9
        exact holds_anyAll (l := [6]) (by kernel_rfl) (by simp) ⟨edge_op (ls' := clL_n17) (by kernel_rfl) (clL_e18 frm lst now o n x pre cp Al cl cb c1 c2 ga w z2 z9) ⟨⟨by omega, by omega⟩, trivial⟩ (A9_5 z9 hz9), trivial⟩
      have A9_8 : ∀ z9 : Nat, W.heap.size ≤ z9 → Holds [] Try.prog (bodyOf Try.f13) 28 W (Turned (clL_b1 frm lst now n pre cp Al cl cb c1 c2 ga w z2)) (NoWay) [.any clL_n1 6 clL_n8, .inv J] ⟨[(4, .slice none 0 0), (5, (pt z2 0)), (19, .pointer (some ⟨ga, 0 + x * 13, none⟩))], (clL_b1 frm lst now n pre cp Al cl cb c1 c2 ga w z2), [⟨ga, 0 + x * 13, (clL_v1 o)⟩], z9⟩ := by
        intro z9 hz9
        exact holds_anyAll (l := [0, 7]) (by kernel_rfl) (by simp) ⟨edge_op (ls' := clL_n17) (by kernel_rfl) (clL_e19 frm lst now o n x pre cp Al cl cb c1 c2 ga w z2 z9) trivial (A9_5 z9 hz9), edge_op (ls' := clL_n9) (by kernel_rfl) (clL_e20 frm lst now o n x pre cp Al cl cb c1 c2 ga w z2 z9) trivial (A9_6 z9 hz9), trivial⟩
      have A9_9 : ∀ z9 : Nat, W.heap.size ≤ z9 → Holds [] Try.prog (bodyOf Try.f13) 28 W (Turned (clL_b1 frm lst now n pre cp Al cl cb c1 c2 ga w z2)) (NoWay) [.any clL_n1 7 clL_n15, .inv J] ⟨[(4, .slice none 0 0), (5, (pt z2 0)), (13, .slice Al pre.length cl), (16, (pt cb 2)), (18, .int .i64 (x : Int))], (clL_b1 frm lst now n pre cp Al cl cb c1 c2 ga w z2), [⟨ga, 0 + x * 13, (clL_v1 o)⟩], z9⟩ := by
        intro z9 hz9
        exact holds_anyAll (l := [4]) (by kernel_rfl) (by simp) ⟨edge_op (ls' := clL_n16) (by kernel_rfl) (clL_e21 frm lst now o n x pre cp Al cl cb c1 c2 ga w z2 z9) trivial (A9_7 z9 hz9), trivial⟩
      have A9_10 : ∀ z9 : Nat, W.heap.size ≤ z9 → Holds [] Try.prog (bodyOf Try.f13) 28 W (Turned (clL_b1 frm lst now n pre cp Al cl cb c1 c2 ga w z2)) (NoWay) [.any clL_n1 7 clL_n7, .inv J] ⟨[(4, .slice none 0 0), (5, (pt z2 0)), (17, .slice (some ⟨ga, 0, none⟩) n cp), (18, .int .i64 (x : Int))], (clL_b1 frm lst now n pre cp Al cl cb c1 c2 ga w z2), [⟨ga, 0 + x * 13, (clL_v1 o)⟩], z9⟩ := by
        intro z9 hz9
        exact holds_anyAll (l := [0, 6]) (by kernel_rfl) (by simp) ⟨edge_op (ls' := clL_n16) (by kernel_rfl) (clL_e22 frm lst now o n x pre cp Al cl cb c1 c2 ga w z2 z9) trivial (A9_7 z9 hz9), edge_op (ls' := clL_n8) (by kernel_rfl) (clL_e23 frm lst now o n x pre cp Al cl cb c1 c2 ga w z2 z9) ⟨⟨by omega, by omega⟩, trivial⟩ (A9_8 z9 hz9), trivial⟩
      have A9_11 : ∀ z9 : Nat, W.heap.size ≤ z9 → Holds [] Try.prog (bodyOf Try.f13) 28 W (Turned (clL_b1 frm lst now n pre cp Al cl cb c1 c2 ga w z2)) (NoWay) [.any clL_n1 8 clL_n14, .inv J] ⟨[(4, .slice none 0 0), (5, (pt z2 0)), (13, .slice Al pre.length cl), (15, (pt cb 0)), (18, .int .i64 (x : Int))], (clL_b1 frm lst now n pre cp Al cl cb c1 c2 ga w z2), [⟨ga, 0 + x * 13, (clL_v1 o)⟩], z9⟩ := by
        intro z9 hz9
        exact holds_anyAll (l := [3]) (by kernel_rfl) (by simp) ⟨edge_op (ls' := clL_n15) (by kernel_rfl) (clL_e24 frm lst now o n x pre cp Al cl cb c1 c2 ga w z2 z9) trivial (A9_9 z9 hz9), trivial⟩
      have A9_12 : ∀ z9 : Nat, W.heap.size ≤ z9 → Holds [] Try.prog (bodyOf Try.f13) 28 W (Turned (clL_b1 frm lst now n pre cp Al cl cb c1 c2 ga w z2)) (NoWay) [.any clL_n1 8 clL_n6, .inv J] ⟨[(4, .slice none 0 0), (5, (pt z2 0)), (16, (pt cb 2)), (18, .int .i64 (x : Int))], (clL_b1 frm lst now n pre cp Al cl cb c1 c2 ga w z2), [⟨ga, 0 + x * 13, (clL_v1 o)⟩], z9⟩ := by
        intro z9 hz9
        exact holds_anyAll (l := [0, 4]) (by kernel_rfl) (by simp) ⟨edge_op (ls' := clL_n15) (by kernel_rfl) (clL_e25 frm lst now o n x pre cp Al cl cb c1 c2 ga w z2 z9) trivial (A9_9 z9 hz9), edge_op (ls' := clL_n7) (by kernel_rfl) (clL_e26 frm lst now o n x pre cp Al cl cb c1 c2 ga w z2 z9) trivial (A9_10 z9 hz9), trivial⟩
      have A9_13 : ∀ z9 : Nat, W.heap.size ≤ z9 → Holds [] Try.prog (bodyOf Try.f13) 28 W (Turned (clL_b1 frm lst now n pre cp Al cl cb c1 c2 ga w z2)) (NoWay) [.any clL_n1 9 clL_n13, .inv J] ⟨[(4, .slice none 0 0), (5, (pt z2 0)), (13, .slice Al pre.length cl), (14, (pt cb 0)), (18, .int .i64 (x : Int))], (clL_b1 frm lst now n pre cp Al cl cb c1 c2 ga w z2), [⟨ga, 0 + x * 13, (clL_v1 o)⟩], z9⟩ := by
        intro z9 hz9
        exact holds_anyAll (l := [2]) (by kernel_rfl) (by simp) ⟨edge_op (ls' := clL_n14) (by kernel_rfl) (clL_e27 frm lst now o n x pre cp Al cl cb c1 c2 ga w z2 z9) trivial (A9_11 z9 hz9), trivial⟩
      have A9_14 : ∀ z9 : Nat, W.heap.size ≤ z9 → Holds [] Try.prog (bodyOf Try.f13) 28 W (Turned (clL_b1 frm lst now n pre cp Al cl cb c1 c2 ga w z2)) (NoWay) [.any clL_n1 9 clL_n5, .inv J] ⟨[(4, .slice none 0 0), (5, (pt z2 0)), (15, (pt cb 0)), (18, .int .i64 (x : Int))], (clL_b1 frm lst now n pre cp Al cl cb c1 c2 ga w z2), [⟨ga, 0 + x * 13, (clL_v1 o)⟩], z9⟩ := by
        intro z9 hz9
        exact holds_anyAll (l := [0, 3]) (by kernel_rfl) (by simp) ⟨edge_op (ls' := clL_n14) (by kernel_rfl) (clL_e28 frm lst now o n x pre cp Al cl cb c1 c2 ga w z2 z9) trivial (A9_11 z9 hz9), edge_op (ls' := clL_n6) (by kernel_rfl) (clL_e29 frm lst now o n x pre cp Al cl cb c1 c2 ga w z2 z9) trivial (A9_12 z9 hz9), trivial⟩
      have A9_15 : ∀ z9 : Nat, W.heap.size ≤ z9 → Holds [] Try.prog (bodyOf Try.f13) 28 W (Turned (clL_b1 frm lst now n pre cp Al cl cb c1 c2 ga w z2)) (NoWay) [.any clL_n1 10 clL_n12, .inv J] ⟨[(2, (pt w.heap.size 0)), (4, .slice none 0 0), (5, (pt z2 0)), (13, .slice Al pre.length cl), (18, .int .i64 (x : Int))], (clL_b1 frm lst now n pre cp Al cl cb c1 c2 ga w z2), [⟨ga, 0 + x * 13, (clL_v1 o)⟩], z9⟩ := by
        intro z9 hz9
        exact holds_anyAll (l := [1]) (by kernel_rfl) (by simp) ⟨edge_op (ls' := clL_n13) (by kernel_rfl) (clL_e30 frm lst now o n x pre cp Al cl cb c1 c2 ga w z2 z9) trivial (A9_13 z9 hz9), trivial⟩
      have A9_16 : ∀ z9 : Nat, W.heap.size ≤ z9 → Holds [] Try.prog (bodyOf Try.f13) 28 W (Turned (clL_b1 frm lst now n pre cp Al cl cb c1 c2 ga w z2)) (NoWay) [.any clL_n1 10 clL_n4, .inv J] ⟨[(4, .slice none 0 0), (5, (pt z2 0)), (14, (pt cb 0)), (18, .int .i64 (x : Int))], (clL_b1 frm lst now n pre cp Al cl cb c1 c2 ga w z2), [⟨ga, 0 + x * 13, (clL_v1 o)⟩], z9⟩ := by
        intro z9 hz9
        exact holds_anyAll (l := [0, 2]) (by kernel_rfl) (by simp) ⟨edge_op (ls' := clL_n13) (by kernel_rfl) (clL_e31 frm lst now o n x pre cp Al cl cb c1 c2 ga w z2 z9) trivial (A9_13 z9 hz9), edge_op (ls' := clL_n5) (by kernel_rfl) (clL_e32 frm lst now o n x pre cp Al cl cb c1 c2 ga w z2 z9) trivial (A9_14 z9 hz9), trivial⟩
      have A9_17 : ∀ z9 : Nat, W.heap.size ≤ z9 → Holds [] Try.prog (bodyOf Try.f13) 28 W (Turned (clL_b1 frm lst now n pre cp Al cl cb c1 c2 ga w z2)) (NoWay) [.any clL_n1 11 clL_n3, .inv J] ⟨[(2, (pt w.heap.size 0)), (4, .slice none 0 0), (5, (pt z2 0)), (18, .int .i64 (x : Int))], (clL_b1 frm lst now n pre cp Al cl cb c1 c2 ga w z2), [⟨ga, 0 + x * 13, (clL_v1 o)⟩], z9⟩ := by
        intro z9 hz9
        exact holds_anyAll (l := [0, 1]) (by kernel_rfl) (by simp) ⟨edge_op (ls' := clL_n12) (by kernel_rfl) (clL_e33 frm lst now o n x pre cp Al cl cb c1 c2 ga w z2 z9) trivial (A9_15 z9 hz9), edge_op (ls' := clL_n4) (by kernel_rfl) (clL_e34 frm lst now o n x pre cp Al cl cb c1 c2 ga w z2 z9) trivial (A9_16 z9 hz9), trivial⟩
      exact A9_17 _ (Nat.le_refl _)
    intro z9 hz9
    refine holds_anyV (i := 10) (ls' := clL_n21) (w := W) (S' := (fun x => x = z2 ∨ ownS Al x)) (Y := Option Addr × Nat) (dst := (some 23)) (x := Builtin.append_ #[22, 22] 22 #[.slice Al pre.length cl, .slice (some ⟨z9, 0, none⟩) 1 1]) (fun yq => .slice yq.1 (pre.length + 1) yq.2) (clL_b1 frm lst now n pre cp Al cl cb c1 c2 ga w z2) (fun yq W_ => OwnR W_ W2.heap.size 3 1 yq.1 (pre.length + 1) yq.2 (i64s (toIs opn (pre ++ [x])))) (fun yq => [(23, .slice yq.1 (pre.length + 1) yq.2), (4, .slice none 0 0), (5, (pt z2 0)), (13, .slice Al pre.length cl), (22, .slice (some ⟨z9, 0, none⟩) 1 1)]) (by kernel_rfl) (by kernel_rfl) (by kernel_rfl) (by kernel_rfl) (fun _ => rfl) (fun wx hm => ?_) (fun yq W3 hX3 hm3 => ?_)
    · have hT : ∀ x, Turned (clL_b1 frm lst now n pre cp Al cl cb c1 c2 ga w z2) x → x = z2 := by
        rintro x ⟨b, hb, hr, he⟩
        simp at hb
        rcases hb with rfl | rfl | rfl | rfl | rfl | rfl <;> simp at hr
        exact he.symm
      have hnb : ∀ b ∈ ((clL_b1 frm lst now n pre cp Al cl cb c1 c2 ga w z2) : List Bk), ¬ ownS Al b.g := by
        intro b hb hx
        have h5 := (hAl _ hx).1
        have h6 := hc.lt
        simp at hb
        rcases hb with rfl | rfl | rfl | rfl | rfl | rfl
        all_goals (simp at h5; omega)
      obtain ⟨A', cp', w', h1, h2, h3, h4⟩ := run_appendR (P := Try.prog) wx W2.heap.size 22 22 3 (.int .i64 0) 1 8 Al pre.length cl (i64s (toIs opn pre)) ⟨z9, 0, none⟩ 1 1 [.int .i64 o.to] (by kernel_rfl) (by kernel_rfl) (by kernel_rfl) (by decide) (hOl.kept hm.kept (fun x hx e => by have h5 := (hAl x hx).1; have h6 := hT x e; omega)) rfl (fun j x hj => by rw [add_norm, Nat.zero_add]; exact (hm.at_ 6 rfl).at_ hj) (ones_all rfl) (by omega) (by decide) (Nat.le_trans hs2 hm.kept.size)
      rw [toIs_snoc ho] at h2
      have hm2 := hm.sub (bk' := (clL_b1 frm lst now n pre cp Al cl cb c1 c2 ga w z2)) (by simp)
      exact ⟨(A', cp'), w', h1, h2, hm2.offA (fun x h => .inl (hT x h)) h3 (fun x hx => .inl (.inr hx)) hnb⟩
    obtain ⟨A2, cp2⟩ := yq
    refine holds_tail panicOk_way _ _ (clL_t36 frm lst now n pre cp A2 cp2 Al cl cb c1 c2 ga w W3 z2 z9) trivial ?_
    refine holds_done (by kernel_rfl) ?_
    refine hJ _ _ _ ?_
    refine hgER (fun _ => trivial) 4 [] [4] [] [] [] ⟨[(4, .slice none 0 0)], (clL_b3 frm lst now n pre cp A2 cp2 cb c1 c2 ga w z2), [], W3.heap.size⟩ ?_
    refine holdsR_end (fun a wx hf hm => ?_)
    have hmZ := MemOk.bck hm3 hm
    have hkZ : Kept (fun x => x = z2 ∨ ownS Al x) W wx := hmZ.kept
    have hapl : ∀ x, ownS A2 x → ¬ Turned (clL_b1 frm lst now n pre cp Al cl cb c1 c2 ga w z2) x := fun x hx h => by
      obtain ⟨b, hb, hr, he⟩ := h
      have h5 := (hX3.own x hx).1
      simp at hb
      rcases hb with rfl | rfl | rfl | rfl | rfl | rfl <;> simp at hr he
      omega
    refine ⟨keepsFrom_cells hkZ (fun k o hk ho => ?_), .inl ⟨rfl, ?_⟩⟩
    · rcases hk with rfl | hk
      · have h7 := hmB.at_ 3 rfl
        unfold Blk at h7
        rw [ho] at h7
        cases h7
        rfl
      · obtain ⟨cur, fz, h7⟩ := hOl.ty k hk
        rw [ho] at h7
        cases h7
        rfl
    · refine ⟨A2, cp2, ?_, ?_, ?_⟩
      · rw [show (pre ++ [x]).length = pre.length + 1 by simp]
        refine ⟨rfl, hmZ.blk, fun b hb hr => ?_, hmZ.nd, hmB.kept.trans hkZ (fun k hk h => h.elim id (fun h => absurd hk (Nat.not_lt.2 (hAl k h).1))), fun _ hx => by cases hx⟩
        simp at hb
        rcases hb with rfl | rfl | rfl | rfl | rfl | rfl <;> simp at hr
        exact .inl rfl
      · rw [show (pre ++ [x]).length = pre.length + 1 by simp]
        exact hX3.kept hm.kept hapl
      · exact hOc.kept hkZ (fun x hx h => (by have h5 := hapart x hx; exact h.elim (fun h => by omega) (fun h => by have h6 := (hAl x h).1; omega)))
  case done =>
    rintro D xs W rfl ⟨Al, cl, hmW, hOl, hOc⟩ hD hK
    obtain ⟨xn, hxn⟩ : ∃ xn, xn = List.length (meantL (fun o : OneM => decide (within14 now - o.asked ≥ 8)) opn opn.length) := ⟨_, rfl⟩
    have hxn64 : xn ≤ 64 := by have := meantL_len (ok := (fun o : OneM => decide (within14 now - o.asked ≥ 8))) (opn := opn) (j := opn.length); omega
    have hB := hmW.at_ 3 rfl
    have hAl := hOl.own
    have hs2 := hmW.kept.size
    have hkW : Kept (fun _ => False) w W := hk12.trans hmW.kept (fun k hk h => by omega)
    refine ⟨[⟨z2, 22, true, [.slice Al xn cl]⟩], MemOk.start (fun b hb => ?_) (fun b hb _ => ⟨b, hb, ‹_›, rfl⟩) (by simp) (by simp), ?_⟩
    · obtain rfl := List.mem_singleton.1 hb
      exact hxn ▸ hB
    refine hgE 7 [⟨false, 0, [⟨false, 0, 0, 1⟩]⟩] [4, 5, 24] [] [(z2, 0, 1)] [.ops [1, 1, 1, 1, 0] [1], .code [1, 1, 1, 1, 1]] ⟨[(4, .slice none 0 0), (5, (pt z2 0)), (24, .slice Al xn cl)], [⟨z2, 22, true, [.slice Al xn cl]⟩], [], W.heap.size⟩ ?_
    have hnz : ¬ ownS Al (z2) := fun h => by have := (hAl _ h).1; omega
    refine holds_callV (w := W) (S' := (fun x => x = z2 ∨ ownS Al x)) (Y := Unit) (fun () => .tuple #[]) (fun () => [⟨z2, 22, true, [.slice Al xn cl]⟩]) (fun () W_ => OwnR W_ W2.heap.size 3 1 Al xn cl (i64s (sortI (toIs opn (meantL (fun o : OneM => decide (within14 now - o.asked ≥ 8)) opn opn.length))))) (fun () => [(25, .tuple #[]), (4, .slice none 0 0), (5, (pt z2 0)), (24, .slice Al xn cl)]) (show _ = some (25, [.slice Al xn cl], some 25, []) by kernel_rfl) trivial (fun _ => rfl) (fun wx hm => ?_) (fun yy W5 hX5 hm5 => ?_)
    · refine (sort_own wx W2.heap.size 3 Al xn cl (toIs opn (meantL (fun o : OneM => decide (within14 now - o.asked ≥ 8)) opn opn.length)) hxn64 (hxn ▸ hOl.kept hm.kept (fun x hx h => ?_))).mono fun e w' he => ?_
      · obtain ⟨b, hb, hr, rfl⟩ := h
        obtain rfl := List.mem_singleton.1 hb
        exact hnz hx
      · obtain ⟨he, h2, h3⟩ := he
        exact ⟨(), he, h2, hm.offA (fun x ⟨b, hb, hr, hx⟩ => .inl (by obtain rfl := List.mem_singleton.1 hb; exact hx.symm)) h3 (fun x hx => .inl (.inr hx)) (fun b hb => by obtain rfl := List.mem_singleton.1 hb; exact hnz)⟩
    refine hgE 7 [⟨false, 0, [⟨false, 0, 0, 1⟩]⟩] [4, 26] [] [(z2, 0, 1)] [.ops [1, 1, 1, 1, 1, 0] [1, 2], .code [1, 1, 1, 1, 1, 1]] ⟨[(4, .slice none 0 0), (26, .slice Al xn cl)], [⟨z2, 22, true, [.slice Al xn cl]⟩], [], W5.heap.size⟩ ?_
    have hk5 : Kept (fun x => x = z2 ∨ ownS Al x) W W5 := hm5.kept
    refine holds_callV (w := W) (S' := (fun x => x = z2 ∨ ownS Al x)) (Y := List Int) (fun zs => .slice Al (List.length zs) cl) (fun zs => [⟨z2, 22, true, [.slice Al xn cl]⟩]) (fun zs W_ => OwnR W_ W2.heap.size 3 1 Al (List.length zs) cl (i64s zs) ∧ (∀ x, x ∈ zs ↔ x ∈ sortI (toIs opn (meantL (fun o : OneM => decide (within14 now - o.asked ≥ 8)) opn opn.length))) ∧ ((sortI (toIs opn (meantL (fun o : OneM => decide (within14 now - o.asked ≥ 8)) opn opn.length))).length < 2 → zs = sortI (toIs opn (meantL (fun o : OneM => decide (within14 now - o.asked ≥ 8)) opn opn.length)))) (fun zs => [(27, .slice Al (List.length zs) cl), (4, .slice none 0 0), (26, .slice Al xn cl)]) (show _ = some (26, [.slice Al xn cl], some 27, []) by kernel_rfl) trivial (fun _ => rfl) (fun wx hm => ?_) (fun zs W6 hX6 hm6 => ?_)
    · refine (compact_own wx W2.heap.size Al xn cl (sortI (toIs opn (meantL (fun o : OneM => decide (within14 now - o.asked ≥ 8)) opn opn.length))) hxn64 (hX5.kept hm.kept (fun x hx h => ?_))).mono fun e w' he => ?_
      · obtain ⟨b, hb, hr, rfl⟩ := h
        obtain rfl := List.mem_singleton.1 hb
        exact hnz hx
      · obtain ⟨zs, he, h2, h3, h4, h5⟩ := he
        exact ⟨zs, he, ⟨h2, h3, h4⟩, (MemOk.bck hm5 hm).offA (fun _ h => h) h5 (fun x hx => .inl (.inr hx)) (fun b hb => by obtain rfl := List.mem_singleton.1 hb; exact hnz)⟩
    obtain ⟨hO6, hz1, hz2⟩ := hX6
    refine hgE 5 [oh0] [4] [] [] [.code [1, 1, 1, 1, 1, 1]] ⟨[(4, .slice Al (List.length zs) cl)], [⟨z2, 22, true, [.slice Al xn cl]⟩], [], W6.heap.size⟩ ?_
    have hnD : ¬ (fun x => x = z2 ∨ ownS Al x) D := by
      intro h
      rcases h with h | h
      · rw [h] at hK
        unfold Blk at hB
        rw [hK] at hB
        cases hB
      · obtain ⟨cur, fz, h7⟩ := hOl.ty D h
        rw [hK] at h7
        cases h7
    have hDlt : D < W.heap.size := (Array.getElem?_eq_some_iff.1 hK).1
    have hK6 : W6.heap[D]? = some (.deferred (some [])) := (hm6.kept.block D hDlt (fun h => hnD h)).trans hK
    refine holds_retN [] (Array.getElem?_eq_some_iff.1 hK6).1 hK6 (fun ⟨b, hb, hr, he⟩ => by obtain rfl := List.mem_singleton.1 hb; exact hnD (.inl he.symm)) (by kernel_rfl) (show _ = some ([.slice Al (List.length zs) cl], dupR []) by kernel_rfl) (fun wx hm => ?_)
    have hk6 : Kept (fun x => x = z2 ∨ ownS Al x) W W6 := hm6.kept
    refine ⟨Al, cl, zs, rfl, ?_, late_of hz1 hz2, ?_⟩
    · refine (hO6.kept hm.kept (fun x hx h => ?_)).below hle
      rcases h with ⟨b, hb, hr, rfl⟩ | rfl
      · obtain rfl := List.mem_singleton.1 hb
        exact hnz hx
      · exact hnD (.inr hx)
    · have hkA : Kept (fun x => (fun x => x = z2 ∨ ownS Al x) x ∨ x = D) W wx := kept_or hk6 hm.kept (fun k _ h => h.elim (fun ⟨b, hb, hr, he⟩ => .inl (.inl (by obtain rfl := List.mem_singleton.1 hb; exact he.symm))) .inr) (fun k h => .inl h)
      refine hkW.trans hkA (fun k hk h => ?_)
      rcases h with (h | h) | h
      · omega
      · have := (hAl k h).1; omega
      · omega

end Go.Proofs.Ytmeddeaphmpjcaa
