/- PlatterApart, walked. -/
import Derived.Test.YtillpjllbekedaaPlat6
import Derived.Test.YtillpjllbekedaaEngH
namespace Go.Proofs.Ytillpjllbekedaa
open Go.RowKit

def zero64 : ByteArray := bytesI zeroSec
def init7 (n j : Nat) : List ByteArray := List.replicate j zero64 ++ List.replicate (n - j) ⟨#[]⟩
theorem init7_len {n j : Nat} (h : j ≤ n) : (init7 n j).length = n := by simp [init7]; omega
theorem init7_set {n j : Nat} (h : j < n) : (init7 n j).set j zero64 = init7 n (j + 1) := by
  apply List.ext_getElem?
  intro i
  rw [List.getElem?_set, init7_len (by omega)]
  unfold init7
  by_cases e : j = i
  · subst e
    rw [if_pos rfl, if_pos h, List.getElem?_append_left (by simp), List.getElem?_replicate, if_pos (by omega)]
  · rw [if_neg e]
    by_cases h1 : i < j
    · rw [List.getElem?_append_left (by simpa using h1), List.getElem?_append_left (by simp; omega), List.getElem?_replicate, List.getElem?_replicate, if_pos h1, if_pos (by omega)]
    · rw [List.getElem?_append_right (by simp; omega), List.getElem?_append_right (by simp; omega), List.getElem?_replicate, List.getElem?_replicate]
      simp only [List.length_replicate]
      by_cases h2 : i < n
      · rw [if_pos (by omega), if_pos (by omega)]
      · rw [if_neg (by omega), if_neg (by omega)]
theorem init7_all (n : Nat) : init7 n n = List.replicate n zero64 := by simp [init7]
theorem getB_set {now : List ByteArray} {k j : Nat} {s : ByteArray} (hk : k < now.length) : getB (now.set k s) j = if j = k then s else getB now j := by
  unfold getB
  rw [List.getElem?_set]
  by_cases e : k = j
  · rw [if_pos e, if_pos hk, if_pos e.symm]
    rfl
  · rw [if_neg e, if_neg (fun h => e h.symm)]
theorem read_new {lb mb n k : Nat} (h : k < n) : readPl (newPl lb mb n) (k : Int) = zeroSec := by
  show ((List.replicate n zeroSec)[(k : Int).toNat]?).getD zeroSec = zeroSec
  rw [List.getElem?_replicate, if_pos (by omega)]
  rfl
theorem read_write {M : Pl} {pb : Nat} (hp : PlOk pb M) (ho : M.off = false) (ha : M.armed = 0) (k : Int) (L : List Int) (j : Int) : readPl (writePl M k L) j = if j = k then L else readPl M j := by
  rw [write_on ho ha]
  exact read_put (M' := { M with cs := (putC M.cs M.ck k L).1, ck := (putC M.cs M.ck k L).2, acts := M.acts + 1 }) hp.nk k L rfl rfl j
theorem read_flush {M : Pl} {pb : Nat} (hp : PlOk pb M) (ho : M.off = false) (ha : M.armed = 0) {j : Int} (hj : 0 ≤ j ∧ j < (M.n : Int)) : readPl (flushPl M) j = readPl M j := by
  rw [flush_on ho ha]
  exact read_ovl (M := M) rfl rfl (by rw [hp.len]; exact hj)
/-- a platter that is on and not armed -/
structure OnPl (lb mb n : Nat) (M : Pl) : Prop where
  lb : M.lb = lb
  mb : M.mb = mb
  n : M.n = n
  off : M.off = false
  armed : M.armed = 0
theorem OnPl.new (lb mb n : Nat) : OnPl lb mb n (newPl lb mb n) := ⟨rfl, rfl, rfl, rfl, rfl⟩
theorem OnPl.write {lb mb n : Nat} {M : Pl} (h : OnPl lb mb n M) (k : Int) (L : List Int) : OnPl lb mb n (writePl M k L) := by
  rw [write_on h.off h.armed]
  exact ⟨h.lb, h.mb, h.n, h.off, h.armed⟩
theorem OnPl.flush {lb mb n : Nat} {M : Pl} (h : OnPl lb mb n M) : OnPl lb mb n (flushPl M) := by
  rw [flush_on h.off h.armed]
  exact ⟨h.lb, h.mb, h.n, h.off, h.armed⟩
theorem OnPl.acts_write {lb mb n : Nat} {M : Pl} (h : OnPl lb mb n M) (k : Int) (L : List Int) : (writePl M k L).acts = M.acts + 1 := by rw [write_on h.off h.armed]
theorem OnPl.acts_flush {lb mb n : Nat} {M : Pl} (h : OnPl lb mb n M) : (flushPl M).acts = M.acts + 1 := by rw [flush_on h.off h.armed]
theorem OnPl.goes {lb mb n : Nat} {M : Pl} (h : OnPl lb mb n M) : goesE M = 0 := by
  unfold goesE
  rw [if_pos (goes_on h.off h.armed)]
theorem OnPl.mine {lb mb n pb : Nat} {M : Pl} (h : OnPl lb mb n M) : ∀ x, minePl pb M x → x = pb ∨ x = lb ∨ x = mb := fun x hx => by
  unfold minePl at hx
  rwa [h.lb, h.mb] at hx
theorem bytesI_sec7 (x : Int) : bytesI (intsOf (sec7 x)) = sec7 x := bytesI_intsOf _
theorem init7_get (n j : Nat) : getB (init7 n (j + 1)) j = zero64 := by
  unfold getB init7
  rw [List.getElem?_append_left (by simp), List.getElem?_replicate, if_pos (by omega)]
  rfl
theorem list_ext {a b : List ByteArray} (ha : a.length = 6) (hb : b.length = 6) (h : ∀ k, k < 6 → getB a k = getB b k) : a = b := by
  refine List.ext_getElem (ha.trans hb.symm) fun k h1 h2 => ?_
  have := h k (by omega)
  unfold getB at this
  rwa [List.getElem?_eq_getElem h1, List.getElem?_eq_getElem h2] at this
theorem getB_map {last : List (List Int)} {k : Nat} (hk : k < last.length) : getB (last.map bytesI) k = bytesI (last[k]?.getD zeroSec) := by
  unfold getB
  rw [List.getElem?_map, List.getElem?_eq_getElem hk]
  rfl
theorem restart_on {lb mb n : Nat} {M : Pl} (h : OnPl lb mb n M) (keep : Nat → Bool) : OnPl lb mb n (restartPl M keep) := ⟨h.lb, h.mb, h.n, rfl, rfl⟩
theorem restart_last {M : Pl} (h : M.cs = []) (keep : Nat → Bool) : (restartPl M keep).last = M.last := by
  show ovl M.last (keptC M.cs keep M.cs.length) = _
  rw [h]
  exact ovl_nil _
theorem kept_val {cs : List CE} (hn : (cs.map (·.k)).Nodup) (keep : Nat → Bool) (i : Nat) (k : Int) : valC (keptC cs keep i) k = none ∨ valC (keptC cs keep i) k = valC cs k := by
  cases hv : valC (keptC cs keep i) k with
  | none => exact .inl rfl
  | some L =>
    refine .inr ?_
    have hn0 : ((keptC cs keep i).map (·.k)).Nodup := nodup_filter _ _ hn
    obtain ⟨c, hc, h1, h2⟩ := (valC_iff hn0 k L).1 hv
    exact ((valC_iff hn k L).2 ⟨c, (List.mem_filter.1 hc).1, h1, h2⟩).symm
structure ApN (lb mb : Nat) (x : Int) (M : Pl) (i : Nat) : Prop where
  on : OnPl lb mb 2 M
  acts : M.acts = (i : Int) + 2
  cs : valC M.cs 1 = none
  last : M.last[1]? = some (intsOf (sec7 x))
theorem apn_new (lb mb : Nat) (x : Int) : ApN lb mb x (flushPl (writePl (newPl lb mb 2) 1 (intsOf (sec7 x)))) 0 := ⟨((OnPl.new lb mb 2).write _ _).flush, rfl, rfl, rfl⟩
theorem apn_flush {lb mb i : Nat} {x : Int} {M : Pl} (h : ApN lb mb x M i) : ApN lb mb x (flushPl M) (i + 1) := by
  refine ⟨h.on.flush, by rw [h.on.acts_flush, h.acts]; omega, ?_, ?_⟩
  · rw [flush_on h.on.off h.on.armed]
    rfl
  · rw [flush_on h.on.off h.on.armed]
    show (ovl M.last M.cs)[1]? = _
    rw [ovl_get, h.last]
    show some ((valC M.cs 1).getD _) = _
    rw [h.cs]
    rfl
theorem apn_write {lb mb i pb : Nat} {x : Int} {M : Pl} (h : ApN lb mb x M i) (hp : PlOk pb M) (L : List Int) : ApN lb mb x (writePl M 0 L) (i + 1) := by
  refine ⟨h.on.write _ _, by rw [h.on.acts_write, h.acts]; omega, ?_, ?_⟩
  · rw [write_on h.on.off h.on.armed]
    show valC (putC M.cs M.ck 0 L).1 1 = none
    rw [putC_val hp.nk, if_neg (by omega)]
    exact h.cs
  · rw [write_on h.on.off h.on.armed]
    exact h.last
theorem ApN.restart {lb mb i pb : Nat} {x : Int} {M : Pl} (h : ApN lb mb x M i) (keep : Nat → Bool) (hp : PlOk pb M) : bytesI (readPl (restartPl M keep) 1) = sec7 x := by
  have e : (restartPl M keep).last[1]? = some (intsOf (sec7 x)) := by
    show (ovl M.last (keptC M.cs keep M.cs.length))[1]? = _
    rw [ovl_get, h.last]
    have e2 : valC (keptC M.cs keep M.cs.length) 1 = none := (kept_val hp.nk keep M.cs.length 1).elim id (fun e => e.trans h.cs)
    show some ((valC _ 1).getD _) = _
    rw [e2]
    rfl
  show bytesI ((restartPl M keep).last[1]?.getD zeroSec) = _
  rw [e]
  exact bytesI_sec7 x
def apt_v1 : List Value := [.int .u8 0, .int .u8 0, .int .u8 0, .int .u8 0, .int .u8 0, .int .u8 0, .int .u8 0, .int .u8 0, .int .u8 0, .int .u8 0, .int .u8 0, .int .u8 0, .int .u8 0, .int .u8 0, .int .u8 0, .int .u8 0, .int .u8 0, .int .u8 0, .int .u8 0, .int .u8 0, .int .u8 0, .int .u8 0, .int .u8 0, .int .u8 0, .int .u8 0, .int .u8 0, .int .u8 0, .int .u8 0, .int .u8 0, .int .u8 0, .int .u8 0, .int .u8 0, .int .u8 0, .int .u8 0, .int .u8 0, .int .u8 0, .int .u8 0, .int .u8 0, .int .u8 0, .int .u8 0, .int .u8 0, .int .u8 0, .int .u8 0, .int .u8 0, .int .u8 0, .int .u8 0, .int .u8 0, .int .u8 0, .int .u8 0, .int .u8 0, .int .u8 0, .int .u8 0, .int .u8 0, .int .u8 0, .int .u8 0, .int .u8 0, .int .u8 0, .int .u8 0, .int .u8 0, .int .u8 0, .int .u8 0, .int .u8 0, .int .u8 0, .int .u8 0]
def apt_v2 (acts : Nat → Act7) (i : Nat) : List Value := [.int .i64 ((acts i).what), .int .i64 ((acts i).n), .int .i64 ((acts i).at_), .int .i64 ((acts i).letter), .string ((acts i).text), .slice (acts i).ka ((acts i).kn) ((acts i).kc)]
theorem apt_s1 (A : Option Addr) (n : Nat) (cp : Nat) (K : Option Addr) (nk : Nat) (kcp : Nat) (x : Int) (w : World) : Res.prune [0, 1, 2, 6] [] (exec Try.prog (bodyOf Try.f4) 117 9 [⟨false, 0, []⟩] [.code []] ⟨[(0, .slice A n cp), (1, .slice K nk kcp), (2, .int .i64 x)], [], [], w.heap.size⟩) = some ⟨[], dupR [], [.ops [1, 0] [0, 1], .code [1, 1]], ⟨[(0, .slice A n cp), (1, .slice K nk kcp), (2, .int .i64 x), (6, .bool false)], [], [], w.heap.size⟩⟩ := by kernel_rfl
theorem apt_c2 (A : Option Addr) (n : Nat) (cp : Nat) (K : Option Addr) (nk : Nat) (kcp : Nat) (x : Int) : callAt Try.prog (opsOf (getCode (bodyOf Try.f4) [1, 0])) [(0, .slice A n cp), (1, .slice K nk kcp), (2, .int .i64 x), (6, .bool false)] 0 = some (8, [], some 17, []) := by kernel_rfl
theorem apt_s3 (A : Option Addr) (n : Nat) (cp : Nat) (K : Option Addr) (nk : Nat) (kcp : Nat) (x : Int) (z2 : Nat) : Res.prune [0, 1, 2, 6, 7] [] (exec Try.prog (bodyOf Try.f4) 117 7 [⟨false, 0, []⟩] [.ops [1, 0] [1], .code [1, 1]] ⟨[(17, .bool true), (0, .slice A n cp), (1, .slice K nk kcp), (2, .int .i64 x), (6, .bool false)], [], [], z2⟩) = some ⟨[], dupR [], [.ops [1, 1, 0] [0, 1, 2, 3, 4, 5], .code [1, 1, 1]], ⟨[(0, .slice A n cp), (1, .slice K nk kcp), (2, .int .i64 x), (6, .bool false), (7, .bool true)], [], [], z2⟩⟩ := by kernel_rfl
theorem apt_c4 (A : Option Addr) (n : Nat) (cp : Nat) (K : Option Addr) (nk : Nat) (kcp : Nat) (x : Int) : callAt Try.prog (opsOf (getCode (bodyOf Try.f4) [1, 1, 0])) [(0, .slice A n cp), (1, .slice K nk kcp), (2, .int .i64 x), (6, .bool false), (7, .bool true)] 0 = some (9, [.int .i64 2], some 19, []) := by kernel_rfl
theorem apt_s5 (A : Option Addr) (n : Nat) (cp : Nat) (K : Option Addr) (nk : Nat) (kcp : Nat) (x : Int) (pb : Nat) (WA : World) : Res.prune [0, 1, 2, 6, 7, 8, 9] [] (exec Try.prog (bodyOf Try.f4) 117 11 [⟨false, 0, []⟩, ⟨false, 0, []⟩, ⟨false, 0, []⟩, ⟨false, 0, []⟩, ⟨false, 0, []⟩] [.ops [1, 1, 0] [1, 2, 3, 4, 5], .code [1, 1, 1]] ⟨[(19, .tuple #[.pointer (some ⟨pb, 0, none⟩), .int .i64 0]), (0, .slice A n cp), (1, .slice K nk kcp), (2, .int .i64 x), (6, .bool false), (7, .bool true)], [], [], WA.heap.size⟩) = some ⟨[], dupR [], [.ops [1, 1, 1, 0] [0, 1, 2, 3, 4, 5], .code [1, 1, 1, 1]], ⟨[(0, .slice A n cp), (1, .slice K nk kcp), (2, .int .i64 x), (6, .bool false), (7, .bool true), (8, .pointer (some ⟨pb, 0, none⟩)), (9, .int .i64 0)], [], [], WA.heap.size⟩⟩ := by kernel_rfl
theorem apt_c6 (A : Option Addr) (n : Nat) (cp : Nat) (K : Option Addr) (nk : Nat) (kcp : Nat) (x : Int) (pb : Nat) : callAt Try.prog (opsOf (getCode (bodyOf Try.f4) [1, 1, 1, 0])) [(0, .slice A n cp), (1, .slice K nk kcp), (2, .int .i64 x), (6, .bool false), (7, .bool true), (8, .pointer (some ⟨pb, 0, none⟩)), (9, .int .i64 0)] 0 = some (9, [.int .i64 2], some 23, []) := by kernel_rfl
theorem apt_s7 (A : Option Addr) (n : Nat) (cp : Nat) (K : Option Addr) (nk : Nat) (kcp : Nat) (x : Int) (pb : Nat) (qb : Nat) (WB : World) : Res.prune [0, 1, 2, 6, 8, 10, 44, 45] [] (exec Try.prog (bodyOf Try.f4) 117 38 [⟨false, 0, []⟩, ⟨false, 0, []⟩, ⟨false, 0, []⟩, ⟨false, 0, []⟩, ⟨false, 0, []⟩, ⟨false, 0, []⟩, ⟨false, 0, []⟩, ⟨false, 0, []⟩, ⟨false, 0, []⟩, ⟨false, 0, []⟩, ⟨false, 3, []⟩, ⟨false, 0, []⟩, ⟨false, 0, []⟩, ⟨false, 0, []⟩, ⟨false, 3, []⟩, ⟨false, 0, []⟩, ⟨false, 0, []⟩, ⟨false, 0, []⟩, ⟨false, 3, []⟩, ⟨false, 0, []⟩, ⟨false, 0, []⟩, ⟨false, 0, []⟩, ⟨false, 3, []⟩, ⟨false, 0, []⟩, ⟨false, 0, []⟩, ⟨false, 0, []⟩] [.ops [1, 1, 1, 0] [1, 2, 3, 4, 5], .code [1, 1, 1, 1]] ⟨[(23, .tuple #[.pointer (some ⟨qb, 0, none⟩), .int .i64 0]), (0, .slice A n cp), (1, .slice K nk kcp), (2, .int .i64 x), (6, .bool false), (7, .bool true), (8, .pointer (some ⟨pb, 0, none⟩)), (9, .int .i64 0)], [], [], WB.heap.size⟩) = some ⟨[false = false, false = false, false = false, false = false, false = false, false = false, false = false, false = false, false = false, false = false, false = false, false = false, false = false], dupR [], [.ops [1, 1, 1, 1, 1, 0, 0] [2, 3, 4, 5, 6, 7, 8, 9], .code [1, 1, 1, 1, 1, 0, 1], .code [1, 1, 1, 1, 1, 1]], ⟨[(0, .slice A n cp), (1, .slice K nk kcp), (2, .int .i64 x), (6, .bool false), (8, .pointer (some ⟨pb, 0, none⟩)), (10, .pointer (some ⟨qb, 0, none⟩)), (44, .pointer (some ⟨pb, 0, none⟩)), (45, .int .i64 x)], [], [], WB.heap.size⟩⟩ := by kernel_rfl
theorem apt_c8 (A : Option Addr) (n : Nat) (cp : Nat) (K : Option Addr) (nk : Nat) (kcp : Nat) (x : Int) (pb : Nat) (qb : Nat) : callAt Try.prog (opsOf (getCode (bodyOf Try.f4) [1, 1, 1, 1, 1, 0, 0])) [(0, .slice A n cp), (1, .slice K nk kcp), (2, .int .i64 x), (6, .bool false), (8, .pointer (some ⟨pb, 0, none⟩)), (10, .pointer (some ⟨qb, 0, none⟩)), (44, .pointer (some ⟨pb, 0, none⟩)), (45, .int .i64 x)] 2 = some (13, [.int .i64 x], some 46, []) := by kernel_rfl
theorem apt_s9 (A : Option Addr) (n : Nat) (cp : Nat) (K : Option Addr) (nk : Nat) (kcp : Nat) (x : Int) (pb : Nat) (qb : Nat) (z8 : Nat) : Res.prune [0, 1, 2, 6, 8, 10, 44, 46] [] (exec Try.prog (bodyOf Try.f4) 117 3 [] [.ops [1, 1, 1, 1, 1, 0, 0] [3, 4, 5, 6, 7, 8, 9], .code [1, 1, 1, 1, 1, 0, 1], .code [1, 1, 1, 1, 1, 1]] ⟨[(46, .string (sec7 x)), (0, .slice A n cp), (1, .slice K nk kcp), (2, .int .i64 x), (6, .bool false), (8, .pointer (some ⟨pb, 0, none⟩)), (10, .pointer (some ⟨qb, 0, none⟩)), (44, .pointer (some ⟨pb, 0, none⟩)), (45, .int .i64 x)], [], [], z8⟩) = some ⟨[], dupR [], [.ops [1, 1, 1, 1, 1, 0, 0] [3, 4, 5, 6, 7, 8, 9], .code [1, 1, 1, 1, 1, 0, 1], .code [1, 1, 1, 1, 1, 1]], ⟨[(0, .slice A n cp), (1, .slice K nk kcp), (2, .int .i64 x), (6, .bool false), (8, .pointer (some ⟨pb, 0, none⟩)), (10, .pointer (some ⟨qb, 0, none⟩)), (44, .pointer (some ⟨pb, 0, none⟩)), (46, .string (sec7 x))], [], [], z8⟩⟩ := by kernel_rfl
theorem apt_c10 (A : Option Addr) (n : Nat) (cp : Nat) (K : Option Addr) (nk : Nat) (kcp : Nat) (x : Int) (pb : Nat) (qb : Nat) : callAt Try.prog (opsOf (getCode (bodyOf Try.f4) [1, 1, 1, 1, 1, 0, 0])) [(0, .slice A n cp), (1, .slice K nk kcp), (2, .int .i64 x), (6, .bool false), (8, .pointer (some ⟨pb, 0, none⟩)), (10, .pointer (some ⟨qb, 0, none⟩)), (44, .pointer (some ⟨pb, 0, none⟩)), (46, .string (sec7 x))] 3 = some (12, [.pointer (some ⟨pb, 0, none⟩), .int .i64 1, .string (sec7 x)], some 47, []) := by kernel_rfl
theorem apt_s11 (A : Option Addr) (n : Nat) (cp : Nat) (K : Option Addr) (nk : Nat) (kcp : Nat) (x : Int) (pb : Nat) (qb : Nat) (W1 : World) : Res.prune [0, 1, 2, 6, 8, 10, 49, 50] [] (exec Try.prog (bodyOf Try.f4) 117 6 [⟨false, 0, []⟩, ⟨false, 0, []⟩, ⟨false, 0, []⟩] [.ops [1, 1, 1, 1, 1, 0, 0] [4, 5, 6, 7, 8, 9], .code [1, 1, 1, 1, 1, 0, 1], .code [1, 1, 1, 1, 1, 1]] ⟨[(47, .int .i64 0), (0, .slice A n cp), (1, .slice K nk kcp), (2, .int .i64 x), (6, .bool false), (8, .pointer (some ⟨pb, 0, none⟩)), (10, .pointer (some ⟨qb, 0, none⟩)), (44, .pointer (some ⟨pb, 0, none⟩)), (46, .string (sec7 x))], [], [], W1.heap.size⟩) = some ⟨[false = false], dupR [], [.ops [1, 1, 1, 1, 1, 0, 0] [7, 8, 9], .code [1, 1, 1, 1, 1, 0, 1], .code [1, 1, 1, 1, 1, 1]], ⟨[(0, .slice A n cp), (1, .slice K nk kcp), (2, .int .i64 x), (6, .bool false), (8, .pointer (some ⟨pb, 0, none⟩)), (10, .pointer (some ⟨qb, 0, none⟩)), (49, .bool false), (50, .pointer (some ⟨pb, 0, none⟩))], [], [], W1.heap.size⟩⟩ := by kernel_rfl
theorem apt_c12 (A : Option Addr) (n : Nat) (cp : Nat) (K : Option Addr) (nk : Nat) (kcp : Nat) (x : Int) (pb : Nat) (qb : Nat) : callAt Try.prog (opsOf (getCode (bodyOf Try.f4) [1, 1, 1, 1, 1, 0, 0])) [(0, .slice A n cp), (1, .slice K nk kcp), (2, .int .i64 x), (6, .bool false), (8, .pointer (some ⟨pb, 0, none⟩)), (10, .pointer (some ⟨qb, 0, none⟩)), (49, .bool false), (50, .pointer (some ⟨pb, 0, none⟩))] 7 = some (14, [.pointer (some ⟨pb, 0, none⟩)], some 51, [false = false]) := by kernel_rfl
theorem apt_s13 (A : Option Addr) (n : Nat) (cp : Nat) (K : Option Addr) (nk : Nat) (kcp : Nat) (x : Int) (pb : Nat) (qb : Nat) (W2 : World) : Res.prune [0, 1, 2, 6, 8, 10, 12] [] (exec Try.prog (bodyOf Try.f4) 117 14 [⟨false, 0, []⟩, ⟨false, 3, []⟩, ⟨false, 0, []⟩, ⟨false, 0, []⟩] [.ops [1, 1, 1, 1, 1, 0, 0] [8, 9], .code [1, 1, 1, 1, 1, 0, 1], .code [1, 1, 1, 1, 1, 1]] ⟨[(51, .int .i64 0), (0, .slice A n cp), (1, .slice K nk kcp), (2, .int .i64 x), (6, .bool false), (8, .pointer (some ⟨pb, 0, none⟩)), (10, .pointer (some ⟨qb, 0, none⟩)), (49, .bool false), (50, .pointer (some ⟨pb, 0, none⟩))], [], [], W2.heap.size⟩) = some ⟨[false = false, false = false, false = false], dupR [], [.code [1, 1, 1, 1, 1, 1, 0, 1, 0], .blk 0, .code [1, 1, 1, 1, 1, 1, 1]], ⟨[(0, .slice A n cp), (1, .slice K nk kcp), (2, .int .i64 x), (6, .bool false), (8, .pointer (some ⟨pb, 0, none⟩)), (10, .pointer (some ⟨qb, 0, none⟩)), (12, .int .i64 0)], [], [], W2.heap.size⟩⟩ := by kernel_rfl
def ApartI (A : Option Addr) (n : Nat) (cp : Nat) (K : Option Addr) (nk : Nat) (kcp : Nat) (x : Int) (lb : Nat) (mb : Nat) (pb : Nat) (lq : Nat) (mq : Nat) (qb : Nat)  (m : Nat) (st : St) (W1 : World) : Prop :=
  ∃ (i : Nat) (M : Pl) (z : Nat), m + i = 60 ∧ i ≤ n ∧ ApN lb mb x M i ∧ (PlatAt 53 56 W1 pb M ∧ PlatAt 53 56 W1 qb (newPl lq mq 2)) ∧ st = ⟨[(0, .slice A n cp), (1, .slice K nk kcp), (2, .int .i64 x), (6, .bool false), (8, .pointer (some ⟨pb, 0, none⟩)), (10, .pointer (some ⟨qb, 0, none⟩)), (12, .int .i64 (i : Int))], [], [], z⟩
theorem apt_s14 (A : Option Addr) (n : Nat) (cp : Nat) (K : Option Addr) (nk : Nat) (kcp : Nat) (x : Int) (i : Nat) (pb : Nat) (qb : Nat) (W3 : World) (J : Act → World → Prop) : Res.prune [2, 6, 8, 10, 81, 82] [] (exec Try.prog (bodyOf Try.f4) 117 21 [⟨false, 0, []⟩, ⟨false, 0, []⟩, ⟨false, 0, []⟩, ⟨false, 0, []⟩, ⟨false, 0, []⟩, ⟨false, 0, []⟩, ⟨false, 0, []⟩, ⟨false, 3, []⟩, ⟨false, 0, []⟩, ⟨false, 0, []⟩, ⟨false, 0, []⟩] [.code [1, 1, 1, 1, 1, 1, 0, 1, 0, 0], .inv J, .blk 0, .code [1, 1, 1, 1, 1, 1, 1]] ⟨[(0, .slice A n cp), (1, .slice K nk kcp), (2, .int .i64 x), (6, .bool false), (8, .pointer (some ⟨pb, 0, none⟩)), (10, .pointer (some ⟨qb, 0, none⟩)), (12, .int .i64 (i : Int))], [], [], W3.heap.size⟩) = some ⟨[(decide (((i : Int) : Int) < (n : Int))) = false, (decide (((i : Int) : Int) < (n : Int))) = false, (decide (((i : Int) : Int) < (n : Int))) = false, false = false], dupR [], [.ops [1, 1, 1, 1, 1, 1, 1, 0] [2], .code [1, 1, 1, 1, 1, 1, 1, 1]], ⟨[(2, .int .i64 x), (6, .bool false), (8, .pointer (some ⟨pb, 0, none⟩)), (10, .pointer (some ⟨qb, 0, none⟩)), (81, .pointer (some ⟨pb, 0, none⟩)), (82, .slice K nk kcp)], [], [], W3.heap.size⟩⟩ := by kernel_rfl
theorem apt_c15 (K : Option Addr) (nk : Nat) (kcp : Nat) (x : Int) (pb : Nat) (qb : Nat) : callAt Try.prog (opsOf (getCode (bodyOf Try.f4) [1, 1, 1, 1, 1, 1, 1, 0])) [(2, .int .i64 x), (6, .bool false), (8, .pointer (some ⟨pb, 0, none⟩)), (10, .pointer (some ⟨qb, 0, none⟩)), (81, .pointer (some ⟨pb, 0, none⟩)), (82, .slice K nk kcp)] 2 = some (16, [.pointer (some ⟨pb, 0, none⟩), .slice K nk kcp], some 83, []) := by kernel_rfl
theorem apt_s16 (K : Option Addr) (nk : Nat) (kcp : Nat) (x : Int) (pb : Nat) (qb : Nat) (W4 : World) : Res.prune [2, 6, 10, 85] [] (exec Try.prog (bodyOf Try.f4) 117 7 [⟨false, 0, []⟩] [.ops [1, 1, 1, 1, 1, 1, 1, 0] [], .code [1, 1, 1, 1, 1, 1, 1, 1]] ⟨[(83, .tuple #[]), (2, .int .i64 x), (6, .bool false), (8, .pointer (some ⟨pb, 0, none⟩)), (10, .pointer (some ⟨qb, 0, none⟩)), (81, .pointer (some ⟨pb, 0, none⟩)), (82, .slice K nk kcp)], [], [], W4.heap.size⟩) = some ⟨[], dupR [], [.ops [1, 1, 1, 1, 1, 1, 1, 1, 0] [1, 2, 3, 4, 5, 6], .code [1, 1, 1, 1, 1, 1, 1, 1, 1]], ⟨[(2, .int .i64 x), (6, .bool false), (10, .pointer (some ⟨qb, 0, none⟩)), (85, .pointer (some ⟨pb, 0, none⟩))], [], [], W4.heap.size⟩⟩ := by kernel_rfl
theorem apt_c17 (x : Int) (pb : Nat) (qb : Nat) : callAt Try.prog (opsOf (getCode (bodyOf Try.f4) [1, 1, 1, 1, 1, 1, 1, 1, 0])) [(2, .int .i64 x), (6, .bool false), (10, .pointer (some ⟨qb, 0, none⟩)), (85, .pointer (some ⟨pb, 0, none⟩))] 1 = some (17, [.pointer (some ⟨pb, 0, none⟩), .int .i64 1], some 86, []) := by kernel_rfl
theorem apt_s18 (x : Int) (pb : Nat) (qb : Nat) (z17 : Nat) : Res.prune [2, 6, 10, 13, 14, 90] [] (exec Try.prog (bodyOf Try.f4) 117 12 [⟨false, 0, []⟩, ⟨false, 0, []⟩, ⟨false, 0, []⟩, ⟨false, 0, []⟩, ⟨false, 0, []⟩, ⟨false, 0, []⟩] [.ops [1, 1, 1, 1, 1, 1, 1, 1, 0] [2, 3, 4, 5, 6], .code [1, 1, 1, 1, 1, 1, 1, 1, 1]] ⟨[(86, .tuple #[.string (sec7 x), .int .i64 0]), (2, .int .i64 x), (6, .bool false), (10, .pointer (some ⟨qb, 0, none⟩)), (85, .pointer (some ⟨pb, 0, none⟩))], [], [], z17⟩) = some ⟨[], dupR [], [.ops [1, 1, 1, 1, 1, 1, 1, 1, 1, 0] [1, 2, 3, 4, 5, 6], .code [1, 1, 1, 1, 1, 1, 1, 1, 1, 1]], ⟨[(2, .int .i64 x), (6, .bool false), (10, .pointer (some ⟨qb, 0, none⟩)), (13, .string (sec7 x)), (14, .int .i64 0), (90, .pointer (some ⟨qb, 0, none⟩))], [], [], z17⟩⟩ := by kernel_rfl
theorem apt_c19 (x : Int) (qb : Nat) : callAt Try.prog (opsOf (getCode (bodyOf Try.f4) [1, 1, 1, 1, 1, 1, 1, 1, 1, 0])) [(2, .int .i64 x), (6, .bool false), (10, .pointer (some ⟨qb, 0, none⟩)), (13, .string (sec7 x)), (14, .int .i64 0), (90, .pointer (some ⟨qb, 0, none⟩))] 1 = some (17, [.pointer (some ⟨qb, 0, none⟩), .int .i64 0], some 91, []) := by kernel_rfl
theorem apt_s20 (x : Int) (qb : Nat) (z19 : Nat) : Res.prune [6, 10, 15, 100, 101, 102] [] (exec Try.prog (bodyOf Try.f4) 117 20 [⟨false, 0, []⟩, ⟨false, 0, []⟩, ⟨false, 0, []⟩, ⟨false, 0, []⟩, ⟨false, 0, []⟩, ⟨false, 0, []⟩, ⟨false, 0, []⟩, ⟨false, 0, []⟩, ⟨true, 0, []⟩, ⟨true, 0, []⟩, ⟨false, 2, []⟩, ⟨false, 0, []⟩, ⟨true, 0, []⟩, ⟨true, 0, []⟩] [.ops [1, 1, 1, 1, 1, 1, 1, 1, 1, 0] [2, 3, 4, 5, 6], .code [1, 1, 1, 1, 1, 1, 1, 1, 1, 1]] ⟨[(91, .tuple #[.string zero64, .int .i64 0]), (2, .int .i64 x), (6, .bool false), (10, .pointer (some ⟨qb, 0, none⟩)), (13, .string (sec7 x)), (14, .int .i64 0), (90, .pointer (some ⟨qb, 0, none⟩))], [], [], z19⟩) = some ⟨[true = true, true = true, true = true, true = true, true = true], dupR [], [.ops [1, 1, 1, 1, 1, 1, 1, 1, 1, 1, 0] [9, 10, 11, 12, 13, 14, 15, 16, 17, 18, 19, 20, 21, 22, 23], .code [1, 1, 1, 1, 1, 1, 1, 1, 1, 1, 1]], ⟨[(6, .bool false), (10, .pointer (some ⟨qb, 0, none⟩)), (15, .string zero64), (100, .bool true), (101, .string (sec7 x)), (102, .int .i64 x)], [], [], z19⟩⟩ := by kernel_rfl
theorem apt_c21 (x : Int) (qb : Nat) : callAt Try.prog (opsOf (getCode (bodyOf Try.f4) [1, 1, 1, 1, 1, 1, 1, 1, 1, 1, 0])) [(6, .bool false), (10, .pointer (some ⟨qb, 0, none⟩)), (15, .string zero64), (100, .bool true), (101, .string (sec7 x)), (102, .int .i64 x)] 9 = some (13, [.int .i64 x], some 103, [true = true]) := by kernel_rfl
theorem apt_s22 (x : Int) (qb : Nat) (z21 : Nat) : Res.prune [6, 10, 106, 107, 108] [] (exec Try.prog (bodyOf Try.f4) 117 8 [⟨true, 0, []⟩, ⟨false, 2, []⟩, ⟨false, 0, []⟩, ⟨true, 0, []⟩, ⟨true, 0, []⟩] [.ops [1, 1, 1, 1, 1, 1, 1, 1, 1, 1, 0] [10, 11, 12, 13, 14, 15, 16, 17, 18, 19, 20, 21, 22, 23], .code [1, 1, 1, 1, 1, 1, 1, 1, 1, 1, 1]] ⟨[(103, .string (sec7 x)), (6, .bool false), (10, .pointer (some ⟨qb, 0, none⟩)), (15, .string zero64), (100, .bool true), (101, .string (sec7 x)), (102, .int .i64 x)], [], [], z21⟩) = some ⟨[true = true, true = true, (ByteArray.toList (sec7 x) == ByteArray.toList (sec7 x)) = true, (ByteArray.toList (sec7 x) == ByteArray.toList (sec7 x)) = true], dupR [], [.ops [1, 1, 1, 1, 1, 1, 1, 1, 1, 1, 0] [15, 16, 17, 18, 19, 20, 21, 22, 23], .code [1, 1, 1, 1, 1, 1, 1, 1, 1, 1, 1]], ⟨[(6, .bool false), (10, .pointer (some ⟨qb, 0, none⟩)), (106, .bool (ByteArray.toList (sec7 x) == ByteArray.toList (sec7 x))), (107, .string zero64), (108, .slice (some ⟨z21, 0, none⟩) 64 64)], [⟨z21, 5, true, (apt_v1)⟩], [], z21 + 1⟩⟩ := by kernel_rfl
theorem apt_s24 (x : Int) (qb : Nat) (z21 : Nat) : Res.prune [6, 112, 113] [] (exec Try.prog (bodyOf Try.f4) 117 7 [⟨true, 0, []⟩, ⟨false, 2, []⟩, ⟨false, 0, []⟩, ⟨true, 0, []⟩] [.ops [1, 1, 1, 1, 1, 1, 1, 1, 1, 1, 0] [16, 17, 18, 19, 20, 21, 22, 23], .code [1, 1, 1, 1, 1, 1, 1, 1, 1, 1, 1]] ⟨[(109, .string zero64), (6, .bool false), (10, .pointer (some ⟨qb, 0, none⟩)), (106, .bool (ByteArray.toList (sec7 x) == ByteArray.toList (sec7 x))), (107, .string zero64), (108, .slice (some ⟨z21, 0, none⟩) 64 64)], [⟨z21, 5, true, (apt_v1)⟩], [], z21 + 1⟩) = some ⟨[(ByteArray.toList (sec7 x) == ByteArray.toList (sec7 x)) = true, (ByteArray.toList (sec7 x) == ByteArray.toList (sec7 x)) = true, (ByteArray.toList zero64 == ByteArray.toList zero64) = true], dupR [], [.ops [1, 1, 1, 1, 1, 1, 1, 1, 1, 1, 0] [20, 21, 22, 23], .code [1, 1, 1, 1, 1, 1, 1, 1, 1, 1, 1]], ⟨[(6, .bool false), (112, .bool (ByteArray.toList zero64 == ByteArray.toList zero64)), (113, .pointer (some ⟨qb, 0, none⟩))], [⟨z21, 5, true, (apt_v1)⟩], [], z21 + 1⟩⟩ := by kernel_rfl
theorem apt_c25 (qb : Nat) : callAt Try.prog (opsOf (getCode (bodyOf Try.f4) [1, 1, 1, 1, 1, 1, 1, 1, 1, 1, 0])) [(6, .bool false), (112, .bool (ByteArray.toList zero64 == ByteArray.toList zero64)), (113, .pointer (some ⟨qb, 0, none⟩))] 20 = some (18, [.pointer (some ⟨qb, 0, none⟩)], some 114, [(ByteArray.toList zero64 == ByteArray.toList zero64) = true]) := by kernel_rfl
theorem apt_s26 (qb : Nat) (z21 : Nat) (z25 : Nat) : Res.prune [6] [] (exec Try.prog (bodyOf Try.f4) 117 7 [⟨true, 0, []⟩, ⟨false, 2, []⟩, ⟨false, 0, []⟩] [.ops [1, 1, 1, 1, 1, 1, 1, 1, 1, 1, 0] [21, 22, 23], .code [1, 1, 1, 1, 1, 1, 1, 1, 1, 1, 1]] ⟨[(114, .int .i64 0), (6, .bool false), (112, .bool (ByteArray.toList zero64 == ByteArray.toList zero64)), (113, .pointer (some ⟨qb, 0, none⟩))], [⟨z21, 5, true, (apt_v1)⟩], [], z25⟩) = some ⟨[(ByteArray.toList zero64 == ByteArray.toList zero64) = true, (ByteArray.toList zero64 == ByteArray.toList zero64) = true], dupR [], [.code [1, 1, 1, 1, 1, 1, 1, 1, 1, 1, 1]], ⟨[(6, .bool true)], [⟨z21, 5, true, (apt_v1)⟩], [], z25⟩⟩ := by kernel_rfl
theorem apt_r27 (z21 : Nat) : resL Try.prog [] [⟨z21, 5, true, (apt_v1)⟩] [(6, .bool true)] Try.f4.results.toList [] = some ([.bool true], dupR []) := by kernel_rfl
theorem apt_s28 (A : Option Addr) (n : Nat) (cp : Nat) (K : Option Addr) (nk : Nat) (kcp : Nat) (x : Int) (i : Nat) (pb : Nat) (qb : Nat) (W3 : World) (J : Act → World → Prop) : Res.prune [2, 6, 8, 10, 81, 82] [] (exec Try.prog (bodyOf Try.f4) 117 21 [⟨false, 0, []⟩, ⟨false, 0, []⟩, ⟨false, 0, []⟩, ⟨false, 0, []⟩, ⟨false, 0, []⟩, ⟨true, 0, []⟩, ⟨true, 0, []⟩, ⟨false, 2, []⟩, ⟨false, 0, []⟩, ⟨false, 0, []⟩, ⟨false, 0, []⟩] [.code [1, 1, 1, 1, 1, 1, 0, 1, 0, 0], .inv J, .blk 0, .code [1, 1, 1, 1, 1, 1, 1]] ⟨[(0, .slice A n cp), (1, .slice K nk kcp), (2, .int .i64 x), (6, .bool false), (8, .pointer (some ⟨pb, 0, none⟩)), (10, .pointer (some ⟨qb, 0, none⟩)), (12, .int .i64 (i : Int))], [], [], W3.heap.size⟩) = some ⟨[(decide (((i : Int) : Int) < (n : Int))) = true, (decide (((i : Int) : Int) < (n : Int))) = true, (decide (((i : Int) : Int) < (n : Int))) = true, (decide (((i : Int) : Int) < 60)) = false], dupR [], [.ops [1, 1, 1, 1, 1, 1, 1, 0] [2], .code [1, 1, 1, 1, 1, 1, 1, 1]], ⟨[(2, .int .i64 x), (6, .bool false), (8, .pointer (some ⟨pb, 0, none⟩)), (10, .pointer (some ⟨qb, 0, none⟩)), (81, .pointer (some ⟨pb, 0, none⟩)), (82, .slice K nk kcp)], [], [], W3.heap.size⟩⟩ := by kernel_rfl
theorem apt_c29 (K : Option Addr) (nk : Nat) (kcp : Nat) (x : Int) (pb : Nat) (qb : Nat) : callAt Try.prog (opsOf (getCode (bodyOf Try.f4) [1, 1, 1, 1, 1, 1, 1, 0])) [(2, .int .i64 x), (6, .bool false), (8, .pointer (some ⟨pb, 0, none⟩)), (10, .pointer (some ⟨qb, 0, none⟩)), (81, .pointer (some ⟨pb, 0, none⟩)), (82, .slice K nk kcp)] 2 = some (16, [.pointer (some ⟨pb, 0, none⟩), .slice K nk kcp], some 83, []) := by kernel_rfl
theorem apt_s30 (K : Option Addr) (nk : Nat) (kcp : Nat) (x : Int) (pb : Nat) (qb : Nat) (W4 : World) : Res.prune [2, 6, 10, 85] [] (exec Try.prog (bodyOf Try.f4) 117 7 [⟨false, 0, []⟩] [.ops [1, 1, 1, 1, 1, 1, 1, 0] [], .code [1, 1, 1, 1, 1, 1, 1, 1]] ⟨[(83, .tuple #[]), (2, .int .i64 x), (6, .bool false), (8, .pointer (some ⟨pb, 0, none⟩)), (10, .pointer (some ⟨qb, 0, none⟩)), (81, .pointer (some ⟨pb, 0, none⟩)), (82, .slice K nk kcp)], [], [], W4.heap.size⟩) = some ⟨[], dupR [], [.ops [1, 1, 1, 1, 1, 1, 1, 1, 0] [1, 2, 3, 4, 5, 6], .code [1, 1, 1, 1, 1, 1, 1, 1, 1]], ⟨[(2, .int .i64 x), (6, .bool false), (10, .pointer (some ⟨qb, 0, none⟩)), (85, .pointer (some ⟨pb, 0, none⟩))], [], [], W4.heap.size⟩⟩ := by kernel_rfl
theorem apt_c31 (x : Int) (pb : Nat) (qb : Nat) : callAt Try.prog (opsOf (getCode (bodyOf Try.f4) [1, 1, 1, 1, 1, 1, 1, 1, 0])) [(2, .int .i64 x), (6, .bool false), (10, .pointer (some ⟨qb, 0, none⟩)), (85, .pointer (some ⟨pb, 0, none⟩))] 1 = some (17, [.pointer (some ⟨pb, 0, none⟩), .int .i64 1], some 86, []) := by kernel_rfl
theorem apt_s32 (x : Int) (pb : Nat) (qb : Nat) (z31 : Nat) : Res.prune [2, 6, 10, 13, 14, 90] [] (exec Try.prog (bodyOf Try.f4) 117 12 [⟨false, 0, []⟩, ⟨false, 0, []⟩, ⟨false, 0, []⟩, ⟨false, 0, []⟩, ⟨false, 0, []⟩, ⟨false, 0, []⟩] [.ops [1, 1, 1, 1, 1, 1, 1, 1, 0] [2, 3, 4, 5, 6], .code [1, 1, 1, 1, 1, 1, 1, 1, 1]] ⟨[(86, .tuple #[.string (sec7 x), .int .i64 0]), (2, .int .i64 x), (6, .bool false), (10, .pointer (some ⟨qb, 0, none⟩)), (85, .pointer (some ⟨pb, 0, none⟩))], [], [], z31⟩) = some ⟨[], dupR [], [.ops [1, 1, 1, 1, 1, 1, 1, 1, 1, 0] [1, 2, 3, 4, 5, 6], .code [1, 1, 1, 1, 1, 1, 1, 1, 1, 1]], ⟨[(2, .int .i64 x), (6, .bool false), (10, .pointer (some ⟨qb, 0, none⟩)), (13, .string (sec7 x)), (14, .int .i64 0), (90, .pointer (some ⟨qb, 0, none⟩))], [], [], z31⟩⟩ := by kernel_rfl
theorem apt_c33 (x : Int) (qb : Nat) : callAt Try.prog (opsOf (getCode (bodyOf Try.f4) [1, 1, 1, 1, 1, 1, 1, 1, 1, 0])) [(2, .int .i64 x), (6, .bool false), (10, .pointer (some ⟨qb, 0, none⟩)), (13, .string (sec7 x)), (14, .int .i64 0), (90, .pointer (some ⟨qb, 0, none⟩))] 1 = some (17, [.pointer (some ⟨qb, 0, none⟩), .int .i64 0], some 91, []) := by kernel_rfl
theorem apt_s34 (x : Int) (qb : Nat) (z33 : Nat) : Res.prune [6, 10, 15, 100, 101, 102] [] (exec Try.prog (bodyOf Try.f4) 117 20 [⟨false, 0, []⟩, ⟨false, 0, []⟩, ⟨false, 0, []⟩, ⟨false, 0, []⟩, ⟨false, 0, []⟩, ⟨false, 0, []⟩, ⟨false, 0, []⟩, ⟨false, 0, []⟩, ⟨true, 0, []⟩, ⟨true, 0, []⟩, ⟨false, 2, []⟩, ⟨false, 0, []⟩, ⟨true, 0, []⟩, ⟨true, 0, []⟩] [.ops [1, 1, 1, 1, 1, 1, 1, 1, 1, 0] [2, 3, 4, 5, 6], .code [1, 1, 1, 1, 1, 1, 1, 1, 1, 1]] ⟨[(91, .tuple #[.string zero64, .int .i64 0]), (2, .int .i64 x), (6, .bool false), (10, .pointer (some ⟨qb, 0, none⟩)), (13, .string (sec7 x)), (14, .int .i64 0), (90, .pointer (some ⟨qb, 0, none⟩))], [], [], z33⟩) = some ⟨[true = true, true = true, true = true, true = true, true = true], dupR [], [.ops [1, 1, 1, 1, 1, 1, 1, 1, 1, 1, 0] [9, 10, 11, 12, 13, 14, 15, 16, 17, 18, 19, 20, 21, 22, 23], .code [1, 1, 1, 1, 1, 1, 1, 1, 1, 1, 1]], ⟨[(6, .bool false), (10, .pointer (some ⟨qb, 0, none⟩)), (15, .string zero64), (100, .bool true), (101, .string (sec7 x)), (102, .int .i64 x)], [], [], z33⟩⟩ := by kernel_rfl
theorem apt_c35 (x : Int) (qb : Nat) : callAt Try.prog (opsOf (getCode (bodyOf Try.f4) [1, 1, 1, 1, 1, 1, 1, 1, 1, 1, 0])) [(6, .bool false), (10, .pointer (some ⟨qb, 0, none⟩)), (15, .string zero64), (100, .bool true), (101, .string (sec7 x)), (102, .int .i64 x)] 9 = some (13, [.int .i64 x], some 103, [true = true]) := by kernel_rfl
theorem apt_s36 (x : Int) (qb : Nat) (z35 : Nat) : Res.prune [6, 10, 106, 107, 108] [] (exec Try.prog (bodyOf Try.f4) 117 8 [⟨true, 0, []⟩, ⟨false, 2, []⟩, ⟨false, 0, []⟩, ⟨true, 0, []⟩, ⟨true, 0, []⟩] [.ops [1, 1, 1, 1, 1, 1, 1, 1, 1, 1, 0] [10, 11, 12, 13, 14, 15, 16, 17, 18, 19, 20, 21, 22, 23], .code [1, 1, 1, 1, 1, 1, 1, 1, 1, 1, 1]] ⟨[(103, .string (sec7 x)), (6, .bool false), (10, .pointer (some ⟨qb, 0, none⟩)), (15, .string zero64), (100, .bool true), (101, .string (sec7 x)), (102, .int .i64 x)], [], [], z35⟩) = some ⟨[true = true, true = true, (ByteArray.toList (sec7 x) == ByteArray.toList (sec7 x)) = true, (ByteArray.toList (sec7 x) == ByteArray.toList (sec7 x)) = true], dupR [], [.ops [1, 1, 1, 1, 1, 1, 1, 1, 1, 1, 0] [15, 16, 17, 18, 19, 20, 21, 22, 23], .code [1, 1, 1, 1, 1, 1, 1, 1, 1, 1, 1]], ⟨[(6, .bool false), (10, .pointer (some ⟨qb, 0, none⟩)), (106, .bool (ByteArray.toList (sec7 x) == ByteArray.toList (sec7 x))), (107, .string zero64), (108, .slice (some ⟨z35, 0, none⟩) 64 64)], [⟨z35, 5, true, (apt_v1)⟩], [], z35 + 1⟩⟩ := by kernel_rfl
theorem apt_s38 (x : Int) (qb : Nat) (z35 : Nat) : Res.prune [6, 112, 113] [] (exec Try.prog (bodyOf Try.f4) 117 7 [⟨true, 0, []⟩, ⟨false, 2, []⟩, ⟨false, 0, []⟩, ⟨true, 0, []⟩] [.ops [1, 1, 1, 1, 1, 1, 1, 1, 1, 1, 0] [16, 17, 18, 19, 20, 21, 22, 23], .code [1, 1, 1, 1, 1, 1, 1, 1, 1, 1, 1]] ⟨[(109, .string zero64), (6, .bool false), (10, .pointer (some ⟨qb, 0, none⟩)), (106, .bool (ByteArray.toList (sec7 x) == ByteArray.toList (sec7 x))), (107, .string zero64), (108, .slice (some ⟨z35, 0, none⟩) 64 64)], [⟨z35, 5, true, (apt_v1)⟩], [], z35 + 1⟩) = some ⟨[(ByteArray.toList (sec7 x) == ByteArray.toList (sec7 x)) = true, (ByteArray.toList (sec7 x) == ByteArray.toList (sec7 x)) = true, (ByteArray.toList zero64 == ByteArray.toList zero64) = true], dupR [], [.ops [1, 1, 1, 1, 1, 1, 1, 1, 1, 1, 0] [20, 21, 22, 23], .code [1, 1, 1, 1, 1, 1, 1, 1, 1, 1, 1]], ⟨[(6, .bool false), (112, .bool (ByteArray.toList zero64 == ByteArray.toList zero64)), (113, .pointer (some ⟨qb, 0, none⟩))], [⟨z35, 5, true, (apt_v1)⟩], [], z35 + 1⟩⟩ := by kernel_rfl
theorem apt_c39 (qb : Nat) : callAt Try.prog (opsOf (getCode (bodyOf Try.f4) [1, 1, 1, 1, 1, 1, 1, 1, 1, 1, 0])) [(6, .bool false), (112, .bool (ByteArray.toList zero64 == ByteArray.toList zero64)), (113, .pointer (some ⟨qb, 0, none⟩))] 20 = some (18, [.pointer (some ⟨qb, 0, none⟩)], some 114, [(ByteArray.toList zero64 == ByteArray.toList zero64) = true]) := by kernel_rfl
theorem apt_s40 (qb : Nat) (z35 : Nat) (z39 : Nat) : Res.prune [6] [] (exec Try.prog (bodyOf Try.f4) 117 7 [⟨true, 0, []⟩, ⟨false, 2, []⟩, ⟨false, 0, []⟩] [.ops [1, 1, 1, 1, 1, 1, 1, 1, 1, 1, 0] [21, 22, 23], .code [1, 1, 1, 1, 1, 1, 1, 1, 1, 1, 1]] ⟨[(114, .int .i64 0), (6, .bool false), (112, .bool (ByteArray.toList zero64 == ByteArray.toList zero64)), (113, .pointer (some ⟨qb, 0, none⟩))], [⟨z35, 5, true, (apt_v1)⟩], [], z39⟩) = some ⟨[(ByteArray.toList zero64 == ByteArray.toList zero64) = true, (ByteArray.toList zero64 == ByteArray.toList zero64) = true], dupR [], [.code [1, 1, 1, 1, 1, 1, 1, 1, 1, 1, 1]], ⟨[(6, .bool true)], [⟨z35, 5, true, (apt_v1)⟩], [], z39⟩⟩ := by kernel_rfl
theorem apt_r41 (z35 : Nat) : resL Try.prog [] [⟨z35, 5, true, (apt_v1)⟩] [(6, .bool true)] Try.f4.results.toList [] = some ([.bool true], dupR []) := by kernel_rfl
theorem apt_s42 (n : Nat) (cp : Nat) (K : Option Addr) (nk : Nat) (kcp : Nat) (b : Nat) (o : Nat) (acts : Nat → Act7) (x : Int) (i : Nat) (pb : Nat) (qb : Nat) (W3 : World) (J : Act → World → Prop) : Res.prune [0, 1, 2, 6, 8, 10, 12, 68] [] (exec Try.prog (bodyOf Try.f4) 117 26 [⟨false, 0, []⟩, ⟨false, 0, []⟩, ⟨false, 0, []⟩, ⟨false, 0, []⟩, ⟨false, 0, []⟩, ⟨true, 0, []⟩, ⟨true, 0, []⟩, ⟨false, 2, []⟩, ⟨true, 0, []⟩, ⟨false, 0, []⟩, ⟨false, 0, []⟩, ⟨false, 1, []⟩, ⟨false, 0, []⟩, ⟨false, 0, [⟨true, 0, 0, 1⟩]⟩] [.code [1, 1, 1, 1, 1, 1, 0, 1, 0, 0], .inv J, .blk 0, .code [1, 1, 1, 1, 1, 1, 1]] ⟨[(0, .slice (some ⟨b, o, none⟩) n cp), (1, .slice K nk kcp), (2, .int .i64 x), (6, .bool false), (8, .pointer (some ⟨pb, 0, none⟩)), (10, .pointer (some ⟨qb, 0, none⟩)), (12, .int .i64 (i : Int))], [], [⟨b, o + i * 6, (apt_v2 acts i)⟩], W3.heap.size⟩) = some ⟨[(decide (((i : Int) : Int) < (n : Int))) = true, (decide (((i : Int) : Int) < (n : Int))) = true, (decide (((i : Int) : Int) < (n : Int))) = true, (decide (((i : Int) : Int) < 60)) = true, (0 : Int) ≤ (i : Int) ∧ (i : Int) < ((n : Nat) : Int)], dupR [(b, o + i * 6, 1)], [.ops [1, 1, 1, 1, 1, 1, 0, 1, 0, 0, 1, 0, 0, 0] [5, 6], .code [1, 1, 1, 1, 1, 1, 0, 1, 0, 0, 1, 0, 0, 1], .blk 1, .code [1, 1, 1, 1, 1, 1, 0, 1, 0, 0, 1, 1], .inv J, .blk 0, .code [1, 1, 1, 1, 1, 1, 1]], ⟨[(0, .slice (some ⟨b, o, none⟩) n cp), (1, .slice K nk kcp), (2, .int .i64 x), (6, .bool false), (8, .pointer (some ⟨pb, 0, none⟩)), (10, .pointer (some ⟨qb, 0, none⟩)), (12, .int .i64 (i : Int)), (68, .int .i64 ((acts i).what))], [], [⟨b, o + i * 6, (apt_v2 acts i)⟩], W3.heap.size⟩⟩ := by kernel_rfl
theorem apt_c43 (n : Nat) (cp : Nat) (K : Option Addr) (nk : Nat) (kcp : Nat) (b : Nat) (o : Nat) (acts : Nat → Act7) (x : Int) (i : Nat) (pb : Nat) (qb : Nat) : callAt Try.prog (opsOf (getCode (bodyOf Try.f4) [1, 1, 1, 1, 1, 1, 0, 1, 0, 0, 1, 0, 0, 0])) [(0, .slice (some ⟨b, o, none⟩) n cp), (1, .slice K nk kcp), (2, .int .i64 x), (6, .bool false), (8, .pointer (some ⟨pb, 0, none⟩)), (10, .pointer (some ⟨qb, 0, none⟩)), (12, .int .i64 (i : Int)), (68, .int .i64 ((acts i).what))] 5 = some (10, [.int .i64 ((acts i).what), .int .i64 4], some 69, []) := by kernel_rfl
theorem apt_s44 (n : Nat) (cp : Nat) (K : Option Addr) (nk : Nat) (kcp : Nat) (b : Nat) (o : Nat) (acts : Nat → Act7) (x : Int) (i : Nat) (C : Int) (pb : Nat) (qb : Nat) (J : Act → World → Prop) (z43 : Nat) : Res.prune [0, 1, 2, 6, 8, 10, 12, 70] [] (exec Try.prog (bodyOf Try.f4) 117 5 [⟨false, 0, []⟩] [.ops [1, 1, 1, 1, 1, 1, 0, 1, 0, 0, 1, 0, 0, 0] [6], .code [1, 1, 1, 1, 1, 1, 0, 1, 0, 0, 1, 0, 0, 1], .blk 1, .code [1, 1, 1, 1, 1, 1, 0, 1, 0, 0, 1, 1], .inv J, .blk 0, .code [1, 1, 1, 1, 1, 1, 1]] ⟨[(69, .int .i64 C), (0, .slice (some ⟨b, o, none⟩) n cp), (1, .slice K nk kcp), (2, .int .i64 x), (6, .bool false), (8, .pointer (some ⟨pb, 0, none⟩)), (10, .pointer (some ⟨qb, 0, none⟩)), (12, .int .i64 (i : Int)), (68, .int .i64 ((acts i).what))], [], [⟨b, o + i * 6, (apt_v2 acts i)⟩], z43⟩) = some ⟨[], dupR [], [.code [1, 1, 1, 1, 1, 1, 0, 1, 0, 0, 1, 0, 0, 1], .blk 1, .code [1, 1, 1, 1, 1, 1, 0, 1, 0, 0, 1, 1], .inv J, .blk 0, .code [1, 1, 1, 1, 1, 1, 1]], ⟨[(0, .slice (some ⟨b, o, none⟩) n cp), (1, .slice K nk kcp), (2, .int .i64 x), (6, .bool false), (8, .pointer (some ⟨pb, 0, none⟩)), (10, .pointer (some ⟨qb, 0, none⟩)), (12, .int .i64 (i : Int)), (70, .bool (C == 3))], [], [⟨b, o + i * 6, (apt_v2 acts i)⟩], z43⟩⟩ := by kernel_rfl
theorem apt_s45 (n : Nat) (cp : Nat) (K : Option Addr) (nk : Nat) (kcp : Nat) (b : Nat) (o : Nat) (acts : Nat → Act7) (x : Int) (i : Nat) (C : Int) (pb : Nat) (qb : Nat) (J : Act → World → Prop) (z43 : Nat) : Res.prune [0, 1, 2, 6, 8, 10, 12, 71] [] (exec Try.prog (bodyOf Try.f4) 117 6 [⟨true, 0, []⟩, ⟨false, 0, []⟩] [.code [1, 1, 1, 1, 1, 1, 0, 1, 0, 0, 1, 0, 0, 1], .blk 1, .code [1, 1, 1, 1, 1, 1, 0, 1, 0, 0, 1, 1], .inv J, .blk 0, .code [1, 1, 1, 1, 1, 1, 1]] ⟨[(0, .slice (some ⟨b, o, none⟩) n cp), (1, .slice K nk kcp), (2, .int .i64 x), (6, .bool false), (8, .pointer (some ⟨pb, 0, none⟩)), (10, .pointer (some ⟨qb, 0, none⟩)), (12, .int .i64 (i : Int)), (70, .bool (C == 3))], [], [⟨b, o + i * 6, (apt_v2 acts i)⟩], z43⟩) = some ⟨[(C == 3) = true], dupR [], [.ops [1, 1, 1, 1, 1, 1, 0, 1, 0, 0, 1, 0, 0, 1, 0] [1], .blk 1, .code [1, 1, 1, 1, 1, 1, 0, 1, 0, 0, 1, 1], .inv J, .blk 0, .code [1, 1, 1, 1, 1, 1, 1]], ⟨[(0, .slice (some ⟨b, o, none⟩) n cp), (1, .slice K nk kcp), (2, .int .i64 x), (6, .bool false), (8, .pointer (some ⟨pb, 0, none⟩)), (10, .pointer (some ⟨qb, 0, none⟩)), (12, .int .i64 (i : Int)), (71, .pointer (some ⟨pb, 0, none⟩))], [], [⟨b, o + i * 6, (apt_v2 acts i)⟩], z43⟩⟩ := by kernel_rfl
theorem apt_c46 (n : Nat) (cp : Nat) (K : Option Addr) (nk : Nat) (kcp : Nat) (b : Nat) (o : Nat) (x : Int) (i : Nat) (pb : Nat) (qb : Nat) : callAt Try.prog (opsOf (getCode (bodyOf Try.f4) [1, 1, 1, 1, 1, 1, 0, 1, 0, 0, 1, 0, 0, 1, 0])) [(0, .slice (some ⟨b, o, none⟩) n cp), (1, .slice K nk kcp), (2, .int .i64 x), (6, .bool false), (8, .pointer (some ⟨pb, 0, none⟩)), (10, .pointer (some ⟨qb, 0, none⟩)), (12, .int .i64 (i : Int)), (71, .pointer (some ⟨pb, 0, none⟩))] 1 = some (14, [.pointer (some ⟨pb, 0, none⟩)], some 72, []) := by kernel_rfl
theorem apt_s47 (n : Nat) (cp : Nat) (K : Option Addr) (nk : Nat) (kcp : Nat) (b : Nat) (o : Nat) (x : Int) (i : Nat) (pb : Nat) (qb : Nat) (W4 : World) (J : Act → World → Prop) : Res.prune [0, 1, 2, 6, 8, 10, 12] [] (exec Try.prog (bodyOf Try.f4) 117 10 [⟨false, 0, []⟩, ⟨false, 1, []⟩, ⟨false, 0, []⟩] [.ops [1, 1, 1, 1, 1, 1, 0, 1, 0, 0, 1, 0, 0, 1, 0] [], .blk 1, .code [1, 1, 1, 1, 1, 1, 0, 1, 0, 0, 1, 1], .inv J, .blk 0, .code [1, 1, 1, 1, 1, 1, 1]] ⟨[(72, .int .i64 0), (0, .slice (some ⟨b, o, none⟩) n cp), (1, .slice K nk kcp), (2, .int .i64 x), (6, .bool false), (8, .pointer (some ⟨pb, 0, none⟩)), (10, .pointer (some ⟨qb, 0, none⟩)), (12, .int .i64 (i : Int)), (71, .pointer (some ⟨pb, 0, none⟩))], [], [], W4.heap.size⟩) = some ⟨[inR .i64 (((i : Int) + 1))], dupR [], [.inv J, .blk 0, .code [1, 1, 1, 1, 1, 1, 1]], ⟨[(0, .slice (some ⟨b, o, none⟩) n cp), (1, .slice K nk kcp), (2, .int .i64 x), (6, .bool false), (8, .pointer (some ⟨pb, 0, none⟩)), (10, .pointer (some ⟨qb, 0, none⟩)), (12, .int .i64 ((i : Int) + 1))], [], [], W4.heap.size⟩⟩ := by kernel_rfl
theorem apt_s48 (n : Nat) (cp : Nat) (K : Option Addr) (nk : Nat) (kcp : Nat) (b : Nat) (o : Nat) (acts : Nat → Act7) (x : Int) (i : Nat) (C : Int) (pb : Nat) (qb : Nat) (J : Act → World → Prop) (z43 : Nat) : Res.prune [0, 1, 2, 6, 8, 10, 12, 73, 78] [] (exec Try.prog (bodyOf Try.f4) 117 11 [⟨false, 0, []⟩, ⟨false, 0, []⟩, ⟨false, 0, []⟩, ⟨false, 0, []⟩, ⟨false, 1, []⟩, ⟨false, 0, []⟩, ⟨false, 0, [⟨true, 0, 3, 1⟩]⟩] [.code [1, 1, 1, 1, 1, 1, 0, 1, 0, 0, 1, 0, 0, 1], .blk 1, .code [1, 1, 1, 1, 1, 1, 0, 1, 0, 0, 1, 1], .inv J, .blk 0, .code [1, 1, 1, 1, 1, 1, 1]] ⟨[(0, .slice (some ⟨b, o, none⟩) n cp), (1, .slice K nk kcp), (2, .int .i64 x), (6, .bool false), (8, .pointer (some ⟨pb, 0, none⟩)), (10, .pointer (some ⟨qb, 0, none⟩)), (12, .int .i64 (i : Int)), (70, .bool (C == 3))], [], [⟨b, o + i * 6, (apt_v2 acts i)⟩], z43⟩) = some ⟨[(C == 3) = false, (0 : Int) ≤ (i : Int) ∧ (i : Int) < ((n : Nat) : Int)], dupR [(b, o + i * 6 + 3, 1)], [.ops [1, 1, 1, 1, 1, 1, 0, 1, 0, 0, 1, 0, 0, 1, 1] [6, 7], .blk 1, .code [1, 1, 1, 1, 1, 1, 0, 1, 0, 0, 1, 1], .inv J, .blk 0, .code [1, 1, 1, 1, 1, 1, 1]], ⟨[(0, .slice (some ⟨b, o, none⟩) n cp), (1, .slice K nk kcp), (2, .int .i64 x), (6, .bool false), (8, .pointer (some ⟨pb, 0, none⟩)), (10, .pointer (some ⟨qb, 0, none⟩)), (12, .int .i64 (i : Int)), (73, .pointer (some ⟨pb, 0, none⟩)), (78, .int .i64 ((acts i).letter))], [], [⟨b, o + i * 6, (apt_v2 acts i)⟩], z43⟩⟩ := by kernel_rfl
theorem apt_c49 (n : Nat) (cp : Nat) (K : Option Addr) (nk : Nat) (kcp : Nat) (b : Nat) (o : Nat) (acts : Nat → Act7) (x : Int) (i : Nat) (pb : Nat) (qb : Nat) : callAt Try.prog (opsOf (getCode (bodyOf Try.f4) [1, 1, 1, 1, 1, 1, 0, 1, 0, 0, 1, 0, 0, 1, 1])) [(0, .slice (some ⟨b, o, none⟩) n cp), (1, .slice K nk kcp), (2, .int .i64 x), (6, .bool false), (8, .pointer (some ⟨pb, 0, none⟩)), (10, .pointer (some ⟨qb, 0, none⟩)), (12, .int .i64 (i : Int)), (73, .pointer (some ⟨pb, 0, none⟩)), (78, .int .i64 ((acts i).letter))] 6 = some (13, [.int .i64 ((acts i).letter)], some 79, []) := by kernel_rfl
theorem apt_s50 (n : Nat) (cp : Nat) (K : Option Addr) (nk : Nat) (kcp : Nat) (b : Nat) (o : Nat) (acts : Nat → Act7) (x : Int) (i : Nat) (pb : Nat) (qb : Nat) (J : Act → World → Prop) (z49 : Nat) : Res.prune [0, 1, 2, 6, 8, 10, 12, 73, 79] [] (exec Try.prog (bodyOf Try.f4) 117 3 [] [.ops [1, 1, 1, 1, 1, 1, 0, 1, 0, 0, 1, 0, 0, 1, 1] [7], .blk 1, .code [1, 1, 1, 1, 1, 1, 0, 1, 0, 0, 1, 1], .inv J, .blk 0, .code [1, 1, 1, 1, 1, 1, 1]] ⟨[(79, .string (sec7 (acts i).letter)), (0, .slice (some ⟨b, o, none⟩) n cp), (1, .slice K nk kcp), (2, .int .i64 x), (6, .bool false), (8, .pointer (some ⟨pb, 0, none⟩)), (10, .pointer (some ⟨qb, 0, none⟩)), (12, .int .i64 (i : Int)), (73, .pointer (some ⟨pb, 0, none⟩)), (78, .int .i64 ((acts i).letter))], [], [⟨b, o + i * 6, (apt_v2 acts i)⟩], z49⟩) = some ⟨[], dupR [], [.ops [1, 1, 1, 1, 1, 1, 0, 1, 0, 0, 1, 0, 0, 1, 1] [7], .blk 1, .code [1, 1, 1, 1, 1, 1, 0, 1, 0, 0, 1, 1], .inv J, .blk 0, .code [1, 1, 1, 1, 1, 1, 1]], ⟨[(0, .slice (some ⟨b, o, none⟩) n cp), (1, .slice K nk kcp), (2, .int .i64 x), (6, .bool false), (8, .pointer (some ⟨pb, 0, none⟩)), (10, .pointer (some ⟨qb, 0, none⟩)), (12, .int .i64 (i : Int)), (73, .pointer (some ⟨pb, 0, none⟩)), (79, .string (sec7 (acts i).letter))], [], [⟨b, o + i * 6, (apt_v2 acts i)⟩], z49⟩⟩ := by kernel_rfl
theorem apt_c51 (n : Nat) (cp : Nat) (K : Option Addr) (nk : Nat) (kcp : Nat) (b : Nat) (o : Nat) (acts : Nat → Act7) (x : Int) (i : Nat) (pb : Nat) (qb : Nat) : callAt Try.prog (opsOf (getCode (bodyOf Try.f4) [1, 1, 1, 1, 1, 1, 0, 1, 0, 0, 1, 0, 0, 1, 1])) [(0, .slice (some ⟨b, o, none⟩) n cp), (1, .slice K nk kcp), (2, .int .i64 x), (6, .bool false), (8, .pointer (some ⟨pb, 0, none⟩)), (10, .pointer (some ⟨qb, 0, none⟩)), (12, .int .i64 (i : Int)), (73, .pointer (some ⟨pb, 0, none⟩)), (79, .string (sec7 (acts i).letter))] 7 = some (12, [.pointer (some ⟨pb, 0, none⟩), .int .i64 0, .string (sec7 (acts i).letter)], some 80, []) := by kernel_rfl
theorem apt_s52 (n : Nat) (cp : Nat) (K : Option Addr) (nk : Nat) (kcp : Nat) (b : Nat) (o : Nat) (acts : Nat → Act7) (x : Int) (i : Nat) (pb : Nat) (qb : Nat) (W4 : World) (J : Act → World → Prop) : Res.prune [0, 1, 2, 6, 8, 10, 12] [] (exec Try.prog (bodyOf Try.f4) 117 10 [⟨false, 0, []⟩, ⟨false, 1, []⟩, ⟨false, 0, []⟩] [.ops [1, 1, 1, 1, 1, 1, 0, 1, 0, 0, 1, 0, 0, 1, 1] [], .blk 1, .code [1, 1, 1, 1, 1, 1, 0, 1, 0, 0, 1, 1], .inv J, .blk 0, .code [1, 1, 1, 1, 1, 1, 1]] ⟨[(80, .int .i64 0), (0, .slice (some ⟨b, o, none⟩) n cp), (1, .slice K nk kcp), (2, .int .i64 x), (6, .bool false), (8, .pointer (some ⟨pb, 0, none⟩)), (10, .pointer (some ⟨qb, 0, none⟩)), (12, .int .i64 (i : Int)), (73, .pointer (some ⟨pb, 0, none⟩)), (79, .string (sec7 (acts i).letter))], [], [], W4.heap.size⟩) = some ⟨[inR .i64 (((i : Int) + 1))], dupR [], [.inv J, .blk 0, .code [1, 1, 1, 1, 1, 1, 1]], ⟨[(0, .slice (some ⟨b, o, none⟩) n cp), (1, .slice K nk kcp), (2, .int .i64 x), (6, .bool false), (8, .pointer (some ⟨pb, 0, none⟩)), (10, .pointer (some ⟨qb, 0, none⟩)), (12, .int .i64 ((i : Int) + 1))], [], [], W4.heap.size⟩⟩ := by kernel_rfl
set_option maxRecDepth 100000 in
set_option maxHeartbeats 4000000 in
theorem apart_any (A : Option Addr) (n cp : Nat) (acts : Nat → Act7) (K : Option Addr) (nk kcp : Nat) (kf : Nat → Num1) (x : Int) (w : World) (HA : Acts7At w A n acts) (HK : NumsAt w K nk kf) (hx : I64 x) :
    Calls Try.prog 4 #[.slice A n cp, .slice K nk kcp, .int .i64 x] w (RetK (.bool true) w) := by
  refine calls_of_holds (S := (fun _ => False)) (l := [.slice A n cp, .slice K nk kcp, .int .i64 x]) (n := 117) Try.func4 (body_of (by kernel_rfl)) rfl (by simp) (MemOk.none w _) ?_
  refine holds_go _ _ (apt_s1 A n cp K nk kcp x w) trivial ?_
  refine holds_callP (.bool true) (apt_c2 A n cp K nk kcp x) trivial rfl (fun wx hm => awake7P wx) fun z2 hz2 => ?_
  replace hz2 : w.heap.size ≤ z2 := hz2
  refine holds_go _ _ (apt_s3 A n cp K nk kcp x z2) trivial ?_
  refine holds_callW (w := w) (S' := (fun _ => False)) (Y := Nat × Nat × Nat) (fun (⟨lb, mb, pb⟩ : Nat × Nat × Nat) => .tuple #[.pointer (some ⟨pb, 0, none⟩), .int .i64 0]) (fun (⟨lb, mb, pb⟩ : Nat × Nat × Nat) => []) (fun (⟨lb, mb, pb⟩ : Nat × Nat × Nat) W_ => z2 ≤ lb ∧ lb < mb ∧ mb < pb ∧ PlatAt 53 56 W_ pb (newPl lb mb 2)) (fun (⟨lb, mb, pb⟩ : Nat × Nat × Nat) => [(19, .tuple #[.pointer (some ⟨pb, 0, none⟩), .int .i64 0]), (0, .slice A n cp), (1, .slice K nk kcp), (2, .int .i64 x), (6, .bool false), (7, .bool true)]) (apt_c4 A n cp K nk kcp x) trivial (fun _ => rfl) (fun wx hm => ?_) (fun y WA hX1 hm1 => ?_)
  · refine (new_pl 2 (by omega) wx).mono fun e w' ⟨lb, mb, pb, he, h1, h2, h3, h4, h5⟩ => ?_
    exact ⟨(lb, mb, pb), he, ⟨by rw [hm.size] at h1; exact h1, h2, h3, h4⟩, (hm.same h5).2⟩
  obtain ⟨lb, mb, pb⟩ := y
  obtain ⟨hl_lb, hl_mb, hl_pb, hP1⟩ := hX1
  have hlt_pb : pb < WA.heap.size := hP1.lt.1
  have hw0 : w.heap.size ≤ lb := by omega
  have hltA := hP1.lt.1
  refine holds_go _ _ (apt_s5 A n cp K nk kcp x pb WA) trivial ?_
  refine holds_callW (w := w) (S' := (fun _ => False)) (Y := Nat × Nat × Nat) (fun (⟨lq, mq, qb⟩ : Nat × Nat × Nat) => .tuple #[.pointer (some ⟨qb, 0, none⟩), .int .i64 0]) (fun (⟨lq, mq, qb⟩ : Nat × Nat × Nat) => []) (fun (⟨lq, mq, qb⟩ : Nat × Nat × Nat) W_ => WA.heap.size ≤ lq ∧ lq < mq ∧ mq < qb ∧ PlatAt 53 56 W_ qb (newPl lq mq 2) ∧ PlatAt 53 56 W_ pb (newPl lb mb 2)) (fun (⟨lq, mq, qb⟩ : Nat × Nat × Nat) => [(23, .tuple #[.pointer (some ⟨qb, 0, none⟩), .int .i64 0]), (0, .slice A n cp), (1, .slice K nk kcp), (2, .int .i64 x), (6, .bool false), (7, .bool true), (8, .pointer (some ⟨pb, 0, none⟩)), (9, .int .i64 0)]) (apt_c6 A n cp K nk kcp x pb) trivial (fun _ => rfl) (fun wx hm => ?_) (fun y WB hX1 hm2 => ?_)
  · refine (new_pl 2 (by omega) wx).mono fun e w' ⟨lb, mb, pb, he, h1, h2, h3, h4, h5⟩ => ?_
    exact ⟨(lb, mb, pb), he, ⟨by rw [hm.size] at h1; exact h1, h2, h3, h4, (hP1.kept hm.kept (fun _ _ ⟨_, hb, _⟩ => by cases hb)).kept h5 (fun _ _ h => h)⟩, ((MemOk.back2 hm1 hm).same h5).2⟩
  obtain ⟨lq, mq, qb⟩ := y
  obtain ⟨hl_lq, hl_mq, hl_qb, hQ0, hXc⟩ := hX1
  have hlt_qb : qb < WB.heap.size := hQ0.lt.1
  have hP2 := hXc
  clear hP1
  have hO := OnPl.new lb mb 2
  have hlt2 := hP2.lt.1
  have hnT : ∀ xx, (xx = pb ∨ xx = lb ∨ xx = mb ∨ xx = qb ∨ xx = lq ∨ xx = mq) → ¬ Turned [] xx := by
    rintro xx _ ⟨b, hb, hr, he⟩
    simp at hb
  have hnB : ∀ b ∈ ([] : List Bk), ¬ (b.g = pb ∨ b.g = lb ∨ b.g = mb) := by simp
  refine holds_go _ _ (apt_s7 A n cp K nk kcp x pb qb WB) ⟨rfl, rfl, rfl, rfl, rfl, rfl, rfl, rfl, rfl, rfl, rfl, rfl, rfl, trivial⟩ ?_
  refine holds_callP (.string (sec7 x)) (apt_c8 A n cp K nk kcp x pb qb) trivial rfl (fun wx hm => sector_any _ hx wx) fun z8 hz8 => ?_
  replace hz8 : WB.heap.size ≤ z8 := hz8
  refine holds_go _ _ (apt_s9 A n cp K nk kcp x pb qb z8) trivial ?_
  refine holds_callW (w := w) (S' := (fun _ => False)) (Y := Nat) (fun _ => .int .i64 0) (fun _ => []) (fun _ W_ => PlatAt 53 56 W_ pb (writePl (newPl lb mb 2) 1 (intsOf (sec7 x))) ∧ PlatAt 53 56 W_ qb (newPl lq mq 2)) (fun _ => [(47, .int .i64 0), (0, .slice A n cp), (1, .slice K nk kcp), (2, .int .i64 x), (6, .bool false), (8, .pointer (some ⟨pb, 0, none⟩)), (10, .pointer (some ⟨qb, 0, none⟩)), (44, .pointer (some ⟨pb, 0, none⟩)), (46, .string (sec7 x))]) (apt_c10 A n cp K nk kcp x pb qb) trivial (fun _ => rfl) (fun wx hm => ?_) (fun _ W1 hX3 hm3 => ?_)
  · refine (write_pl (newPl lb mb 2) pb 1 (sec7 x) (by show (0 : Int) < _; omega) (by show (0 : Int) ≤ 1 ∧ (1 : Int) < 2; omega) (size_sec7 _) wx (hP2.kept hm.kept (fun x h => hnT x (by have := hO.mine x h; omega)))).mono fun e w' ⟨h1, h2, h3⟩ => ?_
    rw [hO.goes] at h1
    exact ⟨0, h1, ⟨h2, (hQ0.kept hm.kept (fun x h => hnT x (by have h2 : x = qb ∨ x = lq ∨ x = mq := h; omega))).kept h3 (fun x h => fun h4 => by have h5 : x = qb ∨ x = lq ∨ x = mq := h; have := hO.mine x h4; omega)⟩, MemOk.off (MemOk.back2 hm2 hm) (fun _ h => h) h3 (fun x h => .inr (by have := hO.mine x h; omega)) (fun b hb h => hnB b hb (hO.mine _ h))⟩
  have hO1 := hO.write 1 (intsOf (sec7 x))
  clear hO
  have hO := hO1
  obtain ⟨hP3, hQ3⟩ := hX3
  refine holds_go _ _ (apt_s11 A n cp K nk kcp x pb qb W1) ⟨rfl, trivial⟩ ?_
  refine holds_callW (w := w) (S' := (fun _ => False)) (Y := Nat) (fun _ => .int .i64 0) (fun _ => []) (fun _ W_ => PlatAt 53 56 W_ pb (flushPl (writePl (newPl lb mb 2) 1 (intsOf (sec7 x)))) ∧ PlatAt 53 56 W_ qb (newPl lq mq 2)) (fun _ => [(51, .int .i64 0), (0, .slice A n cp), (1, .slice K nk kcp), (2, .int .i64 x), (6, .bool false), (8, .pointer (some ⟨pb, 0, none⟩)), (10, .pointer (some ⟨qb, 0, none⟩)), (49, .bool false), (50, .pointer (some ⟨pb, 0, none⟩))]) (apt_c12 A n cp K nk kcp x pb qb) ⟨rfl, trivial⟩ (fun _ => rfl) (fun wx hm => ?_) (fun _ W2 hX4 hm4 => ?_)
  · refine (flush_pl _ pb (by show (1 : Int) < _; omega) wx (hP3.kept hm.kept (fun x h => hnT x (by have := hO.mine x h; omega)))).mono fun e w' ⟨h1, h2, h3⟩ => ?_
    rw [hO.goes] at h1
    exact ⟨0, h1, ⟨h2, (hQ3.kept hm.kept (fun x h => hnT x (by have h2 : x = qb ∨ x = lq ∨ x = mq := h; omega))).kept h3 (fun x h => fun h4 => by have h5 : x = qb ∨ x = lq ∨ x = mq := h; have := hO.mine x h4; omega)⟩, MemOk.off (MemOk.back2 hm3 hm) (fun _ h => h) h3 (fun x h => .inr (by have := hO.mine x h; omega)) (fun b hb h => hnB b hb (hO.mine _ h))⟩
  obtain ⟨hP4, hQ4⟩ := hX4
  have hR0 := apn_new lb mb x
  clear hO hO1
  refine holds_go _ _ (apt_s13 A n cp K nk kcp x pb qb W2) ⟨rfl, rfl, rfl, trivial⟩ ?_
  refine holds_loopW (w := w) (S' := fun _ => False) (ApartI A n cp K nk kcp x lb mb pb lq mq qb) 60 (by kernel_rfl) (fun W3 hm => ⟨⟨0, (flushPl (writePl (newPl lb mb 2) 1 (intsOf (sec7 x)))), _, rfl, Nat.zero_le _, hR0, ⟨hP4.kept hm.kept (fun _ _ ⟨_, hb, _⟩ => by cases hb), hQ4.kept hm.kept (fun _ _ ⟨_, hb, _⟩ => by cases hb)⟩, rfl⟩, MemOk.back2 hm4 hm⟩) ?_
  rintro m2 _ W3 ⟨i, M, z2, hmi, hin, hR, ⟨hP, hQ⟩, rfl⟩ hm5 J hJ
  have hO := hR.on
  have hPl := hP.lt.1
  have hQl := hQ.lt.1
  clear hnT hnB
  have hnT : ∀ xx, (xx = pb ∨ xx = lb ∨ xx = mb ∨ xx = qb ∨ xx = lq ∨ xx = mq) → ¬ Turned [] xx := by
    rintro xx _ ⟨b, hb, hr, he⟩
    simp at hb
  have hnB : ∀ b ∈ ([] : List Bk), ¬ (b.g = pb ∨ b.g = lb ∨ b.g = mb) := by simp
  by_cases h1 : i < n
  rotate_left
  · skip
    refine holds_go _ _ (apt_s14 A n cp K nk kcp x i pb qb W3 J) ⟨decide_eq_false (by omega), decide_eq_false (by omega), decide_eq_false (by omega), rfl, trivial⟩ ?_
    refine holds_callW (w := w) (S' := (fun _ => False)) (Y := Nat) (fun _ => .tuple #[]) (fun _ => []) (fun _ W_ => PlatAt 53 56 W_ pb (restartPl M (keepB nk kf)) ∧ PlatAt 53 56 W_ qb (newPl lq mq 2)) (fun _ => [(83, .tuple #[]), (2, .int .i64 x), (6, .bool false), (8, .pointer (some ⟨pb, 0, none⟩)), (10, .pointer (some ⟨qb, 0, none⟩)), (81, .pointer (some ⟨pb, 0, none⟩)), (82, .slice K nk kcp)]) (apt_c15 K nk kcp x pb qb) trivial (fun _ => rfl) (fun wx hm => ?_) (fun _ W4 hX6 hm6 => ?_)
    · refine (restart_pl M pb K nk kcp kf wx (hP.kept hm.kept (fun x h => hnT x (by have := hO.mine x h; omega))) (fun k hk => by obtain ⟨_, b, o, hA, hb, hc⟩ := HK k hk; have hq := MemOk.back2 hm5 hm; exact ⟨b, o, hA, Nat.lt_of_lt_of_le hb hq.kept.size, fun hx => (by have := hO.mine _ hx; omega), (hq.kept.cell (p := ⟨b, o + k * 1 + 0, none⟩) hb id).trans (hc 0 (by omega))⟩)).mono fun e w' ⟨h1, h2, h3⟩ => ?_
      exact ⟨0, h1, ⟨h2, (hQ.kept hm.kept (fun x h => hnT x (by have h2 : x = qb ∨ x = lq ∨ x = mq := h; omega))).kept h3 (fun x h => fun h4 => by have h5 : x = qb ∨ x = lq ∨ x = mq := h; have := hO.mine x h4; omega)⟩, MemOk.off (MemOk.back2 hm5 hm) (fun _ h => h) h3 (fun x h => .inr (by have := hO.mine x h; omega)) (fun b hb h => hnB b hb (hO.mine _ h))⟩
    obtain ⟨hP6, hQ6⟩ := hX6
    have hrs := hR.restart (keepB nk kf) hP.ok
    have hO2 := restart_on hO (keepB nk kf)
    clear hO
    have hO := hO2
    refine holds_go _ _ (apt_s16 K nk kcp x pb qb W4) trivial ?_
    refine holds_callP (.tuple #[.string (sec7 x), .int .i64 0]) (apt_c17 x pb qb) trivial rfl (fun wx hm => by have h := read_pl _ pb 1 (by rw [hO.n]; omega) hO.off wx (hP6.kept hm.kept (fun x h => hnT x (by have := hO.mine x h; omega))); rw [hrs] at h; exact h) fun z17 hz17 => ?_
    replace hz17 : W4.heap.size ≤ z17 := hz17
    refine holds_go _ _ (apt_s18 x pb qb z17) trivial ?_
    refine holds_callP (.tuple #[.string zero64, .int .i64 0]) (apt_c19 x qb) trivial rfl (fun wx hm => by have h := read_pl _ qb 0 (by show (0 : Int) ≤ 0 ∧ (0 : Int) < 2; omega) rfl wx (hQ6.kept hm.kept (fun x h => hnT x (by have h2 : x = qb ∨ x = lq ∨ x = mq := h; omega))); exact h) fun z19 hz19 => ?_
    replace hz19 : z17 ≤ z19 := hz19
    refine holds_go _ _ (apt_s20 x qb z19) ⟨rfl, rfl, rfl, rfl, rfl, trivial⟩ ?_
    refine holds_callP (.string (sec7 x)) (apt_c21 x qb) ⟨rfl, trivial⟩ rfl (fun wx hm => sector_any _ hx wx) fun z21 hz21 => ?_
    replace hz21 : z19 ≤ z21 := hz21
    refine holds_go _ _ (apt_s22 x qb z21) ⟨rfl, rfl, beq_self_eq_true _, beq_self_eq_true _, trivial⟩ ?_
    refine holds_opRG (dst := (some 109)) (x := convert 30 9 (.slice (some ⟨z21, 0, none⟩) 64 64)) (ob := (ByteArray.toList (sec7 x) == ByteArray.toList (sec7 x)) = true) (.string zero64) (by kernel_rfl) (beq_self_eq_true _) (by kernel_rfl) rfl (fun wx hm => ?_) ?_
    · exact run_bytesAt (P := Try.prog) wx 30 9 5 _ _ _ _ _ zeroSec [] [] (by kernel_rfl) (by kernel_rfl) (by kernel_rfl) (hm.at_ 0 rfl) rfl rfl secOk_zero.2
    refine holds_go _ _ (apt_s24 x qb z21) ⟨beq_self_eq_true _, beq_self_eq_true _, beq_self_eq_true _, trivial⟩ ?_
    refine holds_callP (.int .i64 0) (apt_c25 qb) ⟨beq_self_eq_true _, trivial⟩ rfl (fun wx hm => acts_pl (newPl lq mq 2) qb wx (hQ6.kept hm.kept (fun x h => hnT x (by have h2 : x = qb ∨ x = lq ∨ x = mq := h; omega)))) fun z25 hz25 => ?_
    replace hz25 : z21 + 1 ≤ z25 := hz25
    refine holds_go _ _ (apt_s26 qb z21 z25) ⟨beq_self_eq_true _, beq_self_eq_true _, trivial⟩ ?_
    refine holds_ret [] (by kernel_rfl) (apt_r27 z21) ?_
    intro wx hm
    exact ⟨rfl, (MemOk.back2 hm6 hm).kept⟩
  by_cases h2 : i < 60
  rotate_left
  · skip
    refine holds_go _ _ (apt_s28 A n cp K nk kcp x i pb qb W3 J) ⟨decide_eq_true (by omega), decide_eq_true (by omega), decide_eq_true (by omega), decide_eq_false (by omega), trivial⟩ ?_
    refine holds_callW (w := w) (S' := (fun _ => False)) (Y := Nat) (fun _ => .tuple #[]) (fun _ => []) (fun _ W_ => PlatAt 53 56 W_ pb (restartPl M (keepB nk kf)) ∧ PlatAt 53 56 W_ qb (newPl lq mq 2)) (fun _ => [(83, .tuple #[]), (2, .int .i64 x), (6, .bool false), (8, .pointer (some ⟨pb, 0, none⟩)), (10, .pointer (some ⟨qb, 0, none⟩)), (81, .pointer (some ⟨pb, 0, none⟩)), (82, .slice K nk kcp)]) (apt_c29 K nk kcp x pb qb) trivial (fun _ => rfl) (fun wx hm => ?_) (fun _ W4 hX6 hm6 => ?_)
    · refine (restart_pl M pb K nk kcp kf wx (hP.kept hm.kept (fun x h => hnT x (by have := hO.mine x h; omega))) (fun k hk => by obtain ⟨_, b, o, hA, hb, hc⟩ := HK k hk; have hq := MemOk.back2 hm5 hm; exact ⟨b, o, hA, Nat.lt_of_lt_of_le hb hq.kept.size, fun hx => (by have := hO.mine _ hx; omega), (hq.kept.cell (p := ⟨b, o + k * 1 + 0, none⟩) hb id).trans (hc 0 (by omega))⟩)).mono fun e w' ⟨h1, h2, h3⟩ => ?_
      exact ⟨0, h1, ⟨h2, (hQ.kept hm.kept (fun x h => hnT x (by have h2 : x = qb ∨ x = lq ∨ x = mq := h; omega))).kept h3 (fun x h => fun h4 => by have h5 : x = qb ∨ x = lq ∨ x = mq := h; have := hO.mine x h4; omega)⟩, MemOk.off (MemOk.back2 hm5 hm) (fun _ h => h) h3 (fun x h => .inr (by have := hO.mine x h; omega)) (fun b hb h => hnB b hb (hO.mine _ h))⟩
    obtain ⟨hP6, hQ6⟩ := hX6
    have hrs := hR.restart (keepB nk kf) hP.ok
    have hO2 := restart_on hO (keepB nk kf)
    clear hO
    have hO := hO2
    refine holds_go _ _ (apt_s30 K nk kcp x pb qb W4) trivial ?_
    refine holds_callP (.tuple #[.string (sec7 x), .int .i64 0]) (apt_c31 x pb qb) trivial rfl (fun wx hm => by have h := read_pl _ pb 1 (by rw [hO.n]; omega) hO.off wx (hP6.kept hm.kept (fun x h => hnT x (by have := hO.mine x h; omega))); rw [hrs] at h; exact h) fun z31 hz31 => ?_
    replace hz31 : W4.heap.size ≤ z31 := hz31
    refine holds_go _ _ (apt_s32 x pb qb z31) trivial ?_
    refine holds_callP (.tuple #[.string zero64, .int .i64 0]) (apt_c33 x qb) trivial rfl (fun wx hm => by have h := read_pl _ qb 0 (by show (0 : Int) ≤ 0 ∧ (0 : Int) < 2; omega) rfl wx (hQ6.kept hm.kept (fun x h => hnT x (by have h2 : x = qb ∨ x = lq ∨ x = mq := h; omega))); exact h) fun z33 hz33 => ?_
    replace hz33 : z31 ≤ z33 := hz33
    refine holds_go _ _ (apt_s34 x qb z33) ⟨rfl, rfl, rfl, rfl, rfl, trivial⟩ ?_
    refine holds_callP (.string (sec7 x)) (apt_c35 x qb) ⟨rfl, trivial⟩ rfl (fun wx hm => sector_any _ hx wx) fun z35 hz35 => ?_
    replace hz35 : z33 ≤ z35 := hz35
    refine holds_go _ _ (apt_s36 x qb z35) ⟨rfl, rfl, beq_self_eq_true _, beq_self_eq_true _, trivial⟩ ?_
    refine holds_opRG (dst := (some 109)) (x := convert 30 9 (.slice (some ⟨z35, 0, none⟩) 64 64)) (ob := (ByteArray.toList (sec7 x) == ByteArray.toList (sec7 x)) = true) (.string zero64) (by kernel_rfl) (beq_self_eq_true _) (by kernel_rfl) rfl (fun wx hm => ?_) ?_
    · exact run_bytesAt (P := Try.prog) wx 30 9 5 _ _ _ _ _ zeroSec [] [] (by kernel_rfl) (by kernel_rfl) (by kernel_rfl) (hm.at_ 0 rfl) rfl rfl secOk_zero.2
    refine holds_go _ _ (apt_s38 x qb z35) ⟨beq_self_eq_true _, beq_self_eq_true _, beq_self_eq_true _, trivial⟩ ?_
    refine holds_callP (.int .i64 0) (apt_c39 qb) ⟨beq_self_eq_true _, trivial⟩ rfl (fun wx hm => acts_pl (newPl lq mq 2) qb wx (hQ6.kept hm.kept (fun x h => hnT x (by have h2 : x = qb ∨ x = lq ∨ x = mq := h; omega)))) fun z39 hz39 => ?_
    replace hz39 : z35 + 1 ≤ z39 := hz39
    refine holds_go _ _ (apt_s40 qb z35 z39) ⟨beq_self_eq_true _, beq_self_eq_true _, trivial⟩ ?_
    refine holds_ret [] (by kernel_rfl) (apt_r41 z35) ?_
    intro wx hm
    exact ⟨rfl, (MemOk.back2 hm6 hm).kept⟩
  obtain ⟨ha, b, o, rfl, hb, hc⟩ := HA i h1
  obtain ⟨C, hC⟩ : ∃ C, pickZ (acts i).what 4 = C := ⟨_, rfl⟩
  refine holds_wins [⟨b, o + i * 6, (acts i).cells⟩] (fun _ x hx => ?_) ?_
  · simp only [List.mem_singleton] at hx
    subst hx
    exact ⟨by rintro ⟨c, hcb, hr, he⟩; simp at hcb, win_kept hb hc rfl hm5.kept id⟩
  refine holds_go _ _ (apt_s42 n cp K nk kcp b o acts x i pb qb W3 J) ⟨decide_eq_true (by omega), decide_eq_true (by omega), decide_eq_true (by omega), decide_eq_true (by omega), ⟨by omega, by omega⟩, trivial⟩ ?_
  refine holds_callP (.int .i64 C) (apt_c43 n cp K nk kcp b o acts x i pb qb) trivial rfl (fun wx hm => pick7 _ _ _ hC wx (by omega) (by omega) ha.what) fun z43 hz43 => ?_
  replace hz43 : W3.heap.size ≤ z43 := hz43
  refine holds_go _ _ (apt_s44 n cp K nk kcp b o acts x i C pb qb J z43) trivial ?_
  rcases Bool.eq_false_or_eq_true (C == 3) with d1 | d1
  · skip
    refine holds_go _ _ (apt_s45 n cp K nk kcp b o acts x i C pb qb J z43) ⟨d1, trivial⟩ ?_
    refine holds_callW (w := w) (S' := (fun _ => False)) (Y := Nat) (fun _ => .int .i64 0) (fun _ => []) (fun _ W_ => PlatAt 53 56 W_ pb (flushPl M) ∧ PlatAt 53 56 W_ qb (newPl lq mq 2)) (fun _ => [(72, .int .i64 0), (0, .slice (some ⟨b, o, none⟩) n cp), (1, .slice K nk kcp), (2, .int .i64 x), (6, .bool false), (8, .pointer (some ⟨pb, 0, none⟩)), (10, .pointer (some ⟨qb, 0, none⟩)), (12, .int .i64 (i : Int)), (71, .pointer (some ⟨pb, 0, none⟩))]) (apt_c46 n cp K nk kcp b o x i pb qb) trivial (fun _ => rfl) (fun wx hm => ?_) (fun _ W4 hX6 hm6 => ?_)
    · refine (flush_pl M pb (by rw [hR.acts]; omega) wx (hP.kept hm.kept (fun x h => hnT x (by have := hO.mine x h; omega)))).mono fun e w' ⟨h1, h2, h3⟩ => ?_
      rw [hO.goes] at h1
      exact ⟨0, h1, ⟨h2, (hQ.kept hm.kept (fun x h => hnT x (by have h2 : x = qb ∨ x = lq ∨ x = mq := h; omega))).kept h3 (fun x h => fun h4 => by have h5 : x = qb ∨ x = lq ∨ x = mq := h; have := hO.mine x h4; omega)⟩, MemOk.off (MemOk.back2 hm5 hm) (fun _ h => h) h3 (fun x h => .inr (by have := hO.mine x h; omega)) (fun b hb h => hnB b hb (hO.mine _ h))⟩
    have hR2 := apn_flush hR
    refine holds_go _ _ (apt_s47 n cp K nk kcp b o x i pb qb W4 J) ⟨in64 (by omega), trivial⟩ ?_
    clear hO
    have hO := hR2.on
    intro a_ w9 hf hm
    exact hJ (m2 - 1) _ a_ w9 (by omega) ⟨i + 1, (flushPl M), _, by omega, by omega, hR2, ⟨hX6.1.kept hm.kept (fun x h => hnT x (by have := hO.mine x h; omega)), hX6.2.kept hm.kept (fun x h => hnT x (by have h2 : x = qb ∨ x = lq ∨ x = mq := h; omega))⟩, by rw [← cast_succ i]⟩ hf (MemOk.back2 hm6 hm)
  · skip
    refine holds_go _ _ (apt_s48 n cp K nk kcp b o acts x i C pb qb J z43) ⟨d1, ⟨by omega, by omega⟩, trivial⟩ ?_
    refine holds_callP (.string (sec7 (acts i).letter)) (apt_c49 n cp K nk kcp b o acts x i pb qb) trivial rfl (fun wx hm => sector_any _ ha.letter wx) fun z49 hz49 => ?_
    replace hz49 : z43 ≤ z49 := hz49
    refine holds_go _ _ (apt_s50 n cp K nk kcp b o acts x i pb qb J z49) trivial ?_
    refine holds_callW (w := w) (S' := (fun _ => False)) (Y := Nat) (fun _ => .int .i64 0) (fun _ => []) (fun _ W_ => PlatAt 53 56 W_ pb (writePl M 0 (intsOf (sec7 (acts i).letter))) ∧ PlatAt 53 56 W_ qb (newPl lq mq 2)) (fun _ => [(80, .int .i64 0), (0, .slice (some ⟨b, o, none⟩) n cp), (1, .slice K nk kcp), (2, .int .i64 x), (6, .bool false), (8, .pointer (some ⟨pb, 0, none⟩)), (10, .pointer (some ⟨qb, 0, none⟩)), (12, .int .i64 (i : Int)), (73, .pointer (some ⟨pb, 0, none⟩)), (79, .string (sec7 (acts i).letter))]) (apt_c51 n cp K nk kcp b o acts x i pb qb) trivial (fun _ => rfl) (fun wx hm => ?_) (fun _ W4 hX6 hm6 => ?_)
    · refine (write_pl M pb 0 (sec7 (acts i).letter) (by rw [hR.acts]; omega) (by rw [hO.n]; omega) (size_sec7 _) wx (hP.kept hm.kept (fun x h => hnT x (by have := hO.mine x h; omega)))).mono fun e w' ⟨h1, h2, h3⟩ => ?_
      rw [hO.goes] at h1
      exact ⟨0, h1, ⟨h2, (hQ.kept hm.kept (fun x h => hnT x (by have h2 : x = qb ∨ x = lq ∨ x = mq := h; omega))).kept h3 (fun x h => fun h4 => by have h5 : x = qb ∨ x = lq ∨ x = mq := h; have := hO.mine x h4; omega)⟩, MemOk.off (MemOk.back2 hm5 hm) (fun _ h => h) h3 (fun x h => .inr (by have := hO.mine x h; omega)) (fun b hb h => hnB b hb (hO.mine _ h))⟩
    have hR2 := apn_write hR hP.ok (intsOf (sec7 (acts i).letter))
    refine holds_go _ _ (apt_s52 n cp K nk kcp b o acts x i pb qb W4 J) ⟨in64 (by omega), trivial⟩ ?_
    clear hO
    have hO := hR2.on
    intro a_ w9 hf hm
    exact hJ (m2 - 1) _ a_ w9 (by omega) ⟨i + 1, (writePl M 0 (intsOf (sec7 (acts i).letter))), _, by omega, by omega, hR2, ⟨hX6.1.kept hm.kept (fun x h => hnT x (by have := hO.mine x h; omega)), hX6.2.kept hm.kept (fun x h => hnT x (by have h2 : x = qb ∨ x = lq ∨ x = mq := h; omega))⟩, by rw [← cast_succ i]⟩ hf (MemOk.back2 hm6 hm)

end Go.Proofs.Ytillpjllbekedaa
