/- PlatterLoses, walked. -/
import Derived.Test.YtillpjllbekedaaPlat6
import Derived.Test.YtillpjllbekedaaEngH
namespace Go.Proofs.Ytillpjllbekedaa
open Go.RowKit

def zero64 : ByteArray := bytesI zeroSec
def init7 (n j : Nat) : List ByteArray := List.replicate j zero64 ++ List.replicate (n - j) ⟨#[]⟩
theorem init7_len {n j : Nat} (h : j ≤ n) : (init7 n j).length = n := by simp [init7]; omega
theorem init7_set {n j : Nat} (h : j < n) : (init7 n j).set j zero64 = init7 n (j + 1) := by
  apply List.ext_getElem?
  intro i
  rw [List.getElem?_set, init7_len (by omega)]
  unfold init7
  by_cases e : j = i
  · subst e
    rw [if_pos rfl, if_pos h, List.getElem?_append_left (by simp), List.getElem?_replicate, if_pos (by omega)]
  · rw [if_neg e]
    by_cases h1 : i < j
    · rw [List.getElem?_append_left (by simpa using h1), List.getElem?_append_left (by simp; omega), List.getElem?_replicate, List.getElem?_replicate, if_pos h1, if_pos (by omega)]
    · rw [List.getElem?_append_right (by simp; omega), List.getElem?_append_right (by simp; omega), List.getElem?_replicate, List.getElem?_replicate]
      simp only [List.length_replicate]
      by_cases h2 : i < n
      · rw [if_pos (by omega), if_pos (by omega)]
      · rw [if_neg (by omega), if_neg (by omega)]
theorem init7_all (n : Nat) : init7 n n = List.replicate n zero64 := by simp [init7]
theorem getB_set {now : List ByteArray} {k j : Nat} {s : ByteArray} (hk : k < now.length) : getB (now.set k s) j = if j = k then s else getB now j := by
  unfold getB
  rw [List.getElem?_set]
  by_cases e : k = j
  · rw [if_pos e, if_pos hk, if_pos e.symm]
    rfl
  · rw [if_neg e, if_neg (fun h => e h.symm)]
theorem read_new {lb mb n k : Nat} (h : k < n) : readPl (newPl lb mb n) (k : Int) = zeroSec := by
  show ((List.replicate n zeroSec)[(k : Int).toNat]?).getD zeroSec = zeroSec
  rw [List.getElem?_replicate, if_pos (by omega)]
  rfl
theorem read_write {M : Pl} {pb : Nat} (hp : PlOk pb M) (ho : M.off = false) (ha : M.armed = 0) (k : Int) (L : List Int) (j : Int) : readPl (writePl M k L) j = if j = k then L else readPl M j := by
  rw [write_on ho ha]
  exact read_put (M' := { M with cs := (putC M.cs M.ck k L).1, ck := (putC M.cs M.ck k L).2, acts := M.acts + 1 }) hp.nk k L rfl rfl j
theorem read_flush {M : Pl} {pb : Nat} (hp : PlOk pb M) (ho : M.off = false) (ha : M.armed = 0) {j : Int} (hj : 0 ≤ j ∧ j < (M.n : Int)) : readPl (flushPl M) j = readPl M j := by
  rw [flush_on ho ha]
  exact read_ovl (M := M) rfl rfl (by rw [hp.len]; exact hj)
/-- a platter that is on and not armed -/
structure OnPl (lb mb n : Nat) (M : Pl) : Prop where
  lb : M.lb = lb
  mb : M.mb = mb
  n : M.n = n
  off : M.off = false
  armed : M.armed = 0
theorem OnPl.new (lb mb n : Nat) : OnPl lb mb n (newPl lb mb n) := ⟨rfl, rfl, rfl, rfl, rfl⟩
theorem OnPl.write {lb mb n : Nat} {M : Pl} (h : OnPl lb mb n M) (k : Int) (L : List Int) : OnPl lb mb n (writePl M k L) := by
  rw [write_on h.off h.armed]
  exact ⟨h.lb, h.mb, h.n, h.off, h.armed⟩
theorem OnPl.flush {lb mb n : Nat} {M : Pl} (h : OnPl lb mb n M) : OnPl lb mb n (flushPl M) := by
  rw [flush_on h.off h.armed]
  exact ⟨h.lb, h.mb, h.n, h.off, h.armed⟩
theorem OnPl.acts_write {lb mb n : Nat} {M : Pl} (h : OnPl lb mb n M) (k : Int) (L : List Int) : (writePl M k L).acts = M.acts + 1 := by rw [write_on h.off h.armed]
theorem OnPl.acts_flush {lb mb n : Nat} {M : Pl} (h : OnPl lb mb n M) : (flushPl M).acts = M.acts + 1 := by rw [flush_on h.off h.armed]
theorem OnPl.goes {lb mb n : Nat} {M : Pl} (h : OnPl lb mb n M) : goesE M = 0 := by
  unfold goesE
  rw [if_pos (goes_on h.off h.armed)]
theorem OnPl.mine {lb mb n pb : Nat} {M : Pl} (h : OnPl lb mb n M) : ∀ x, minePl pb M x → x = pb ∨ x = lb ∨ x = mb := fun x hx => by
  unfold minePl at hx
  rwa [h.lb, h.mb] at hx
theorem bytesI_sec7 (x : Int) : bytesI (intsOf (sec7 x)) = sec7 x := bytesI_intsOf _
theorem init7_get (n j : Nat) : getB (init7 n (j + 1)) j = zero64 := by
  unfold getB init7
  rw [List.getElem?_append_left (by simp), List.getElem?_replicate, if_pos (by omega)]
  rfl
theorem list_ext {a b : List ByteArray} (ha : a.length = 6) (hb : b.length = 6) (h : ∀ k, k < 6 → getB a k = getB b k) : a = b := by
  refine List.ext_getElem (ha.trans hb.symm) fun k h1 h2 => ?_
  have := h k (by omega)
  unfold getB at this
  rwa [List.getElem?_eq_getElem h1, List.getElem?_eq_getElem h2] at this
theorem getB_map {last : List (List Int)} {k : Nat} (hk : k < last.length) : getB (last.map bytesI) k = bytesI (last[k]?.getD zeroSec) := by
  unfold getB
  rw [List.getElem?_map, List.getElem?_eq_getElem hk]
  rfl
theorem restart_on {lb mb n : Nat} {M : Pl} (h : OnPl lb mb n M) (keep : Nat → Bool) : OnPl lb mb n (restartPl M keep) := ⟨h.lb, h.mb, h.n, rfl, rfl⟩
theorem restart_last {M : Pl} (h : M.cs = []) (keep : Nat → Bool) : (restartPl M keep).last = M.last := by
  show ovl M.last (keptC M.cs keep M.cs.length) = _
  rw [h]
  exact ovl_nil _
theorem kept_val {cs : List CE} (hn : (cs.map (·.k)).Nodup) (keep : Nat → Bool) (i : Nat) (k : Int) : valC (keptC cs keep i) k = none ∨ valC (keptC cs keep i) k = valC cs k := by
  cases hv : valC (keptC cs keep i) k with
  | none => exact .inl rfl
  | some L =>
    refine .inr ?_
    have hn0 : ((keptC cs keep i).map (·.k)).Nodup := nodup_filter _ _ hn
    obtain ⟨c, hc, h1, h2⟩ := (valC_iff hn0 k L).1 hv
    exact ((valC_iff hn k L).2 ⟨c, (List.mem_filter.1 hc).1, h1, h2⟩).symm
theorem strs_cell {w : World} {g tt : Nat} {now : List ByteArray} {k : Nat} (hB : Blk w g tt (strsV now)) (hk : k < now.length) : w.cell? ⟨g, 0 + k * 1, none⟩ = some (.string (getB now k)) := by
  rw [Nat.zero_add, Nat.mul_one, hB.cell k]
  unfold strsV getB
  rw [List.getElem?_map, List.getElem?_eq_getElem hk]
  rfl
theorem load_strs {P : Program} {w0 wx : World} {S : Nat → Prop} {bk : List Bk} {wn : List Wn} {sz i g : Nat} {t tt : TypeId} {b : Bool} {now : List ByteArray} (hm : MemOk w0 S bk wn sz wx) (hi : bk[i]? = some ⟨g, tt, b, strsV now⟩) (ha : aggB P t = true) (hs : (P.info? t).map (·.size) = some now.length) :
    (Instr.loadAt t (.pointer (some ⟨g, 0, none⟩))).run P wx = .ok (.agg (strsV now).toArray) wx :=
  run_loadAgg (P := P) wx t g 0 tt (strsV now) (strsV now) ha (by rw [hs]; simp [strsV]) (hm.at_ i hi) (fun j v hv => by rw [Nat.zero_add]; exact hv)
theorem store_strs {P : Program} {w0 wx : World} {S : Nat → Prop} {bk : List Bk} {wn : List Wn} {sz i g : Nat} {t tt : TypeId} {old now : List ByteArray} (hm : MemOk w0 S bk wn sz wx) (hi : bk[i]? = some ⟨g, tt, true, strsV old⟩) (hl : now.length = old.length) (hs : (P.info? t).map (·.size) = some now.length) :
    ∃ w', (Instr.storeAt t (.pointer (some ⟨g, 0, none⟩)) (.agg (strsV now).toArray)).run P wx = .ok () w' ∧ sz ≤ w'.heap.size ∧ MemOk w0 S (bk.set i ⟨g, tt, true, strsV now⟩) wn w'.heap.size w' := by
  have hB : Blk wx g tt (strsV old) := hm.at_ i hi
  have h1 := run_storeG (P := P) wx t g 0 tt (strsV old) (.agg (strsV now).toArray) (by rw [hs]; simp [strsV, Value.cells]) hB (by simp [strsV, Value.cells]; omega) (fun u hu => by
    simp only [Value.cells, strsV, List.mem_map] at hu
    obtain ⟨s, _, rfl⟩ := hu
    rfl)
  have e : ((strsV old).take 0 ++ (Value.agg (strsV now).toArray).cells.toList ++ (strsV old).drop (0 + (Value.agg (strsV now).toArray).cells.size)) = strsV now := by
    simp [strsV, Value.cells, hl]
  rw [e] at h1
  exact ⟨_, h1, hm.set1 i hi rfl (setRow_kept wx g _) (setRow_blk hB (strsV now))⟩
theorem cached_pl (M : Pl) (pb : Nat) (w : World) (hP : PlatAt 53 56 w pb M) :
    Calls Try.prog 20 #[.pointer (some ⟨pb, 0, none⟩)] w (fun e w' => ∃ A cp, e = .returned (.slice A M.cs.length cp) ∧ OwnI w' w.heap.size 3 A M.cs.length cp (sortI (M.cs.map (·.k))) ∧ Kept (fun _ => False) w w') :=
  cached_any M.n M.lb M.mb pb M.off M.acts M.armed M.cs M.ck hP.ok.cs64 (fun c hc => (hP.ok.csk c hc).2.2.2) hP.ok.nb w hP.p hP.m
theorem MemOk.prune0 {w0 w : World} {S : Nat → Prop} {bk : List Bk} {sz : Nat} (h : MemOk w0 S bk [] sz w) : MemOk w0 S bk [] sz w := h
structure LsM (lb mb : Nat) (M : Pl) (i : Nat) : Prop where
  lb : M.lb = lb
  mb : M.mb = mb
  n : M.n = 6
  acts : M.acts ≤ (i : Int)
theorem LsM.mine {lb mb i pb : Nat} {M : Pl} (h : LsM lb mb M i) : ∀ x, minePl pb M x → x = pb ∨ x = lb ∨ x = mb := fun x hx => by
  unfold minePl at hx
  rwa [h.lb, h.mb] at hx
theorem ls_new (lb mb : Nat) : LsM lb mb (newPl lb mb 6) 0 := ⟨rfl, rfl, rfl, Int.le_refl _⟩
theorem ls_act {lb mb i : Nat} {M : Pl} (h : LsM lb mb M i) : LsM lb mb (actPl M) (i + 1) := by
  have := h.acts
  unfold actPl
  split
  · exact ⟨h.lb, h.mb, h.n, by omega⟩
  · exact ⟨h.lb, h.mb, h.n, by show M.acts + 1 ≤ _; omega⟩
theorem ls_write {lb mb i : Nat} {M : Pl} (h : LsM lb mb M i) (k : Int) (L : List Int) : LsM lb mb (writePl M k L) (i + 1) := by
  have h1 := ls_act h
  unfold writePl
  split
  · exact ⟨h1.lb, h1.mb, h1.n, h1.acts⟩
  · exact h1
theorem ls_flush {lb mb i : Nat} {M : Pl} (h : LsM lb mb M i) : LsM lb mb (flushPl M) (i + 1) := by
  have h1 := ls_act h
  unfold flushPl
  split
  · exact ⟨h1.lb, h1.mb, h1.n, h1.acts⟩
  · exact h1
theorem ls_arm {lb mb i : Nat} {M : Pl} (h : LsM lb mb M i) (d : Int) : LsM lb mb (armPl M d) (i + 1) := by
  have := h.acts
  unfold armPl
  split
  · exact ⟨h.lb, h.mb, h.n, by show M.acts ≤ _; omega⟩
  · exact ⟨h.lb, h.mb, h.n, by omega⟩
structure LkM (lb mb : Nat) (M : Pl) (now : List ByteArray) (j : Nat) : Prop where
  on : OnPl lb mb 6 M
  acts : M.acts ≤ 60 + (j : Int)
  len : now.length = 6
  read : ∀ k : Nat, k < 6 → bytesI (readPl M (k : Int)) = getB now k
theorem LsM.lose {lb mb i : Nat} {M : Pl} (h : LsM lb mb M i) (hi : i ≤ 60) : OnPl lb mb 6 (losePl M) ∧ LkM lb mb (losePl M) (init7 6 6) 0 := by
  have h1 : OnPl lb mb 6 (losePl M) := ⟨h.lb, h.mb, h.n, rfl, rfl⟩
  refine ⟨h1, h1, by have := h.acts; show M.acts ≤ _; omega, init7_len (Nat.le_refl _), fun k hk => ?_⟩
  show bytesI (((List.replicate M.n zeroSec)[(k : Int).toNat]?).getD zeroSec) = _
  rw [init7_all, h.n, Int.toNat_natCast]
  unfold getB
  rw [List.getElem?_replicate, List.getElem?_replicate, if_pos hk, if_pos hk]
  rfl
theorem lose_img {M : Pl} (h : M.n = 6) : (losePl M).last.map strV = strsV (init7 6 6) := by
  show (List.replicate M.n zeroSec).map strV = _
  rw [h, init7_all]
  rfl
theorem lk_write {lb mb j pb : Nat} {M : Pl} {now : List ByteArray} (h : LkM lb mb M now j) (hp : PlOk pb M) {B : Int} (hB : 0 ≤ B ∧ B < 6) (x : Int) : LkM lb mb (writePl M B (intsOf (sec7 x))) (now.set B.toNat (sec7 x)) (j + 1) := by
  refine ⟨h.on.write _ _, by have := h.acts; rw [h.on.acts_write]; omega, by rw [List.length_set]; exact h.len, fun k hk => ?_⟩
  rw [read_write hp h.on.off h.on.armed, getB_set (by rw [h.len]; omega)]
  by_cases e : (k : Int) = B
  · rw [if_pos e, if_pos (by omega)]
    exact bytesI_sec7 x
  · rw [if_neg e, if_neg (by omega)]
    exact h.read k hk
theorem LkM.flush {lb mb j pb : Nat} {M : Pl} {now : List ByteArray} (h : LkM lb mb M now j) (hp : PlOk pb M) : (flushPl M).cs = [] ∧ (flushPl M).last.map strV = strsV now := by
  have hl : M.last.length = 6 := by rw [hp.len, h.on.n]
  have e : (flushPl M).last = ovl M.last M.cs := by rw [flush_on h.on.off h.on.armed]
  refine ⟨by rw [flush_on h.on.off h.on.armed], ?_⟩
  have e2 : now = (flushPl M).last.map bytesI := by
    rw [e]
    refine list_ext h.len (by rw [List.length_map, length_ovl, hl]) fun k hk => ?_
    rw [getB_map (by rw [length_ovl, hl]; exact hk), ← h.read k hk, ovl_get, List.getElem?_eq_getElem (by omega)]
    unfold readPl
    rw [Int.toNat_natCast, List.getElem?_eq_getElem (by omega)]
    rfl
  rw [e2]
  unfold strsV
  rw [List.map_map]
  rfl
def lss_p (g o : Nat) : Value := .pointer (some ⟨g, o, none⟩)
def lss_v1 : List Value := [.int .u8 0, .int .u8 0, .int .u8 0, .int .u8 0, .int .u8 0, .int .u8 0, .int .u8 0, .int .u8 0, .int .u8 0, .int .u8 0, .int .u8 0, .int .u8 0, .int .u8 0, .int .u8 0, .int .u8 0, .int .u8 0, .int .u8 0, .int .u8 0, .int .u8 0, .int .u8 0, .int .u8 0, .int .u8 0, .int .u8 0, .int .u8 0, .int .u8 0, .int .u8 0, .int .u8 0, .int .u8 0, .int .u8 0, .int .u8 0, .int .u8 0, .int .u8 0, .int .u8 0, .int .u8 0, .int .u8 0, .int .u8 0, .int .u8 0, .int .u8 0, .int .u8 0, .int .u8 0, .int .u8 0, .int .u8 0, .int .u8 0, .int .u8 0, .int .u8 0, .int .u8 0, .int .u8 0, .int .u8 0, .int .u8 0, .int .u8 0, .int .u8 0, .int .u8 0, .int .u8 0, .int .u8 0, .int .u8 0, .int .u8 0, .int .u8 0, .int .u8 0, .int .u8 0, .int .u8 0, .int .u8 0, .int .u8 0, .int .u8 0, .int .u8 0]
def lss_v2 (acts : Nat → Act7) (i : Nat) : List Value := [.int .i64 ((acts i).what), .int .i64 ((acts i).n), .int .i64 ((acts i).at_), .int .i64 ((acts i).letter), .string ((acts i).text), .slice (acts i).ka ((acts i).kn) ((acts i).kc)]
def lss_n1 : List Nat := [0, 1, 2, 6, 8, 10, 57, 60, 63]
def lss_n2 : List Nat := [1, 1, 1, 1, 0, 1, 0, 0, 1, 0, 0, 1, 0]
def lss_n3 : List Nat := [1, 1, 1, 1, 0, 1, 0, 0, 1, 0, 0, 1, 1, 0, 1, 0]
def lss_n4 : List Nat := [1, 1, 1, 1, 0, 1, 0, 0, 1, 0, 0, 1, 1, 0, 1, 1, 1, 0]
def lss_n5 : List Nat := [1, 1, 1, 1, 0, 1, 0, 0, 1, 0, 0, 1, 1, 0, 1, 1, 1, 1]
def lss_n6 : List Nat := [1, 1, 1, 1, 0, 1, 0, 0, 1, 0, 0, 1, 1]
def lss_n7 : List Nat := [1, 1, 1, 1, 0, 1, 0, 0, 1, 1]
def lss_n8 : List Nat := [1, 1, 1, 1, 0, 1, 0, 0]
def lss_n9 : List Nat := [1, 1, 1, 1, 1, 1, 1, 0, 1, 0, 0, 1, 0, 0]
def lss_n10 : List Nat := [1, 1, 1, 1, 1, 1, 1, 0, 1, 0, 0, 1, 1]
def lss_n11 : List Nat := [1, 1, 1, 1, 1, 1, 1, 0, 1, 0, 0]
def lss_n12 : List Nat := [1, 1, 1, 1, 1, 1, 1, 1, 0, 0]
def lss_n13 : List Nat := [1, 1, 1, 1, 1, 1, 1, 1, 0, 1]
def lss_n14 : List Nat := [1, 1, 1, 1, 1, 1, 1, 1, 1, 0, 1, 0, 0, 1, 0, 0, 0]
def lss_n15 : List Nat := [1, 1, 1, 1, 1, 1, 1, 1, 1, 0, 1, 0, 0, 1, 0, 0, 1, 0]
def lss_n16 : List Nat := [1, 1, 1, 1, 1, 1, 1, 1, 1, 0, 1, 0, 0, 1, 0, 0, 1, 1, 0]
def lss_n17 : List Nat := [1, 1, 1, 1, 1, 1, 1, 1, 1, 0, 1, 0, 0, 1, 0, 0, 1, 1, 1]
def lss_n18 : List Nat := [1, 1, 1, 1, 1, 1, 1, 1, 1, 0, 1, 0, 0, 1, 0, 0, 1, 1]
def lss_n19 : List Nat := [1, 1, 1, 1, 1, 1, 1, 1, 1, 0, 1, 0, 0, 1, 0, 0, 1]
def lss_n20 : List Nat := [1, 1, 1, 1, 1, 1, 1, 1, 1, 0, 1, 0, 0, 1, 1]
def lss_n21 : List Nat := [1, 1, 1, 1, 1, 1, 1, 1, 1, 0, 1, 0, 0]
def lss_n22 : List Nat := [1, 1, 1, 1, 1, 1, 1, 1, 1, 1, 0]
def lss_n23 : List Nat := [1, 1, 1, 1, 1, 1, 1, 1, 1, 1, 1, 0]
def lss_n24 : List Nat := [1, 1, 1, 1, 1, 1, 1, 1, 1, 1, 1, 1, 0]
def lss_n25 : List Nat := [1, 1, 1, 1, 1, 1, 1, 1, 1, 1, 1, 1, 1]
def lss_n26 : List Nat := [1, 1, 1, 1, 1, 1, 1, 1, 1, 1, 1, 1]
def lss_n27 : List Nat := [1, 1, 1, 1, 1, 1, 1, 1, 1, 1, 1]
def lss_n28 : List Nat := [1, 1, 1, 1, 1, 1, 1, 1, 1, 1]
def lss_n29 : List Nat := [1, 1, 1, 1, 1, 1, 1, 1, 1]
def lss_n30 : List Nat := [1, 1, 1, 1, 1, 1, 1, 1]
def lss_h : OH := ⟨false, 0, []⟩
theorem lss_s1 (A : Option Addr) (n : Nat) (cp : Nat) (K : Option Addr) (nk : Nat) (kcp : Nat) (w : World) (A2 : Option Addr) (n2 : Nat) (cp2 : Nat) : Res.prune [0, 1, 2, 6] [] (exec Try.prog (bodyOf Try.f7) 140 9 [lss_h] [.code []] ⟨[(0, .slice A n cp), (1, .slice A2 n2 cp2), (2, .slice K nk kcp)], [], [], w.heap.size⟩) = some ⟨[], dupR [], [.ops [1, 0] [0, 1], .code [1, 1]], ⟨[(0, .slice A n cp), (1, .slice A2 n2 cp2), (2, .slice K nk kcp), (6, .bool false)], [], [], w.heap.size⟩⟩ := by kernel_rfl
theorem lss_c2 (A : Option Addr) (n : Nat) (cp : Nat) (K : Option Addr) (nk : Nat) (kcp : Nat) (A2 : Option Addr) (n2 : Nat) (cp2 : Nat) : callAt Try.prog (opsOf (getCode (bodyOf Try.f7) [1, 0])) [(0, .slice A n cp), (1, .slice A2 n2 cp2), (2, .slice K nk kcp), (6, .bool false)] 0 = some (8, [], some 17, []) := by kernel_rfl
theorem lss_s3 (A : Option Addr) (n : Nat) (cp : Nat) (K : Option Addr) (nk : Nat) (kcp : Nat) (A2 : Option Addr) (n2 : Nat) (cp2 : Nat) (z2 : Nat) : Res.prune [0, 1, 2, 6, 7] [] (exec Try.prog (bodyOf Try.f7) 140 7 [lss_h] [.ops [1, 0] [1], .code [1, 1]] ⟨[(17, .bool true), (0, .slice A n cp), (1, .slice A2 n2 cp2), (2, .slice K nk kcp), (6, .bool false)], [], [], z2⟩) = some ⟨[], dupR [], [.ops [1, 1, 0] [0, 1, 2, 3, 4, 5], .code [1, 1, 1]], ⟨[(0, .slice A n cp), (1, .slice A2 n2 cp2), (2, .slice K nk kcp), (6, .bool false), (7, .bool true)], [], [], z2⟩⟩ := by kernel_rfl
theorem lss_c4 (A : Option Addr) (n : Nat) (cp : Nat) (K : Option Addr) (nk : Nat) (kcp : Nat) (A2 : Option Addr) (n2 : Nat) (cp2 : Nat) : callAt Try.prog (opsOf (getCode (bodyOf Try.f7) [1, 1, 0])) [(0, .slice A n cp), (1, .slice A2 n2 cp2), (2, .slice K nk kcp), (6, .bool false), (7, .bool true)] 0 = some (9, [.int .i64 6], some 19, []) := by kernel_rfl
theorem lss_s5 (A : Option Addr) (n : Nat) (cp : Nat) (K : Option Addr) (nk : Nat) (kcp : Nat) (pb : Nat) (WA : World) (A2 : Option Addr) (n2 : Nat) (cp2 : Nat) : Res.prune [0, 1, 2, 6, 8, 10] [] (exec Try.prog (bodyOf Try.f7) 140 31 [lss_h, lss_h, lss_h, lss_h, lss_h, lss_h, lss_h, lss_h, lss_h, lss_h, ⟨false, 3, []⟩, lss_h, lss_h, lss_h, ⟨false, 3, []⟩, lss_h, lss_h] [.ops [1, 1, 0] [1, 2, 3, 4, 5], .code [1, 1, 1]] ⟨[(19, .tuple #[(lss_p pb 0), .int .i64 0]), (0, .slice A n cp), (1, .slice A2 n2 cp2), (2, .slice K nk kcp), (6, .bool false), (7, .bool true)], [], [], WA.heap.size⟩) = some ⟨[false = false, false = false, false = false, false = false, false = false, false = false, false = false], dupR [], [.code [1, 1, 1, 1, 0, 1, 0], .blk 0, .code [1, 1, 1, 1, 1]], ⟨[(0, .slice A n cp), (1, .slice A2 n2 cp2), (2, .slice K nk kcp), (6, .bool false), (8, (lss_p pb 0)), (10, .int .i64 0)], [], [], WA.heap.size⟩⟩ := by kernel_rfl
def LosesI (A : Option Addr) (n : Nat) (cp : Nat) (K : Option Addr) (nk : Nat) (kcp : Nat) (lb : Nat) (mb : Nat) (pb : Nat) (A2 : Option Addr) (n2 : Nat) (cp2 : Nat)  (m : Nat) (st : St) (W1 : World) : Prop :=
  ∃ (i : Nat) (M : Pl) (z : Nat), m + i = 60 ∧ i ≤ n ∧ LsM lb mb M i ∧ PlatAt 53 56 W1 pb M ∧ st = ⟨[(0, .slice A n cp), (1, .slice A2 n2 cp2), (2, .slice K nk kcp), (6, .bool false), (8, (lss_p pb 0)), (10, .int .i64 (i : Int))], [], [], z⟩
theorem lss_s6 (A : Option Addr) (n : Nat) (cp : Nat) (K : Option Addr) (nk : Nat) (kcp : Nat) (i : Nat) (pb : Nat) (W2 : World) (J : Act → World → Prop) (A2 : Option Addr) (n2 : Nat) (cp2 : Nat) : Res.prune [1, 2, 6, 8, 69] [] (exec Try.prog (bodyOf Try.f7) 140 20 [lss_h, lss_h, lss_h, lss_h, lss_h, lss_h, lss_h, ⟨false, 3, []⟩, lss_h, lss_h] [.code lss_n8, .inv J, .blk 0, .code [1, 1, 1, 1, 1]] ⟨[(0, .slice A n cp), (1, .slice A2 n2 cp2), (2, .slice K nk kcp), (6, .bool false), (8, (lss_p pb 0)), (10, .int .i64 (i : Int))], [], [], W2.heap.size⟩) = some ⟨[(decide (((i : Int) : Int) < (n : Int))) = false, (decide (((i : Int) : Int) < (n : Int))) = false, (decide (((i : Int) : Int) < (n : Int))) = false, false = false], dupR [], [.ops [1, 1, 1, 1, 1, 0] [1], .code [1, 1, 1, 1, 1, 1]], ⟨[(1, .slice A2 n2 cp2), (2, .slice K nk kcp), (6, .bool false), (8, (lss_p pb 0)), (69, (lss_p pb 0))], [], [], W2.heap.size⟩⟩ := by kernel_rfl
theorem lss_c7 (K : Option Addr) (nk : Nat) (kcp : Nat) (pb : Nat) (A2 : Option Addr) (n2 : Nat) (cp2 : Nat) : callAt Try.prog (opsOf (getCode (bodyOf Try.f7) [1, 1, 1, 1, 1, 0])) [(1, .slice A2 n2 cp2), (2, .slice K nk kcp), (6, .bool false), (8, (lss_p pb 0)), (69, (lss_p pb 0))] 1 = some (22, [(lss_p pb 0)], some 70, []) := by kernel_rfl
theorem lss_s8 (K : Option Addr) (nk : Nat) (kcp : Nat) (pb : Nat) (W3 : World) (A2 : Option Addr) (n2 : Nat) (cp2 : Nat) : Res.prune [1, 2, 6, 8, 12, 13] [] (exec Try.prog (bodyOf Try.f7) 140 15 [lss_h, lss_h, lss_h] [.ops [1, 1, 1, 1, 1, 0] [], .code [1, 1, 1, 1, 1, 1]] ⟨[(70, .tuple #[]), (1, .slice A2 n2 cp2), (2, .slice K nk kcp), (6, .bool false), (8, (lss_p pb 0)), (69, (lss_p pb 0))], [], [], W3.heap.size⟩) = some ⟨[], dupR [], [.code [1, 1, 1, 1, 1, 1, 1, 0, 1, 0], .blk 3, .code lss_n30], ⟨[(1, .slice A2 n2 cp2), (2, .slice K nk kcp), (6, .bool false), (8, (lss_p pb 0)), (12, .slice (some ⟨W3.heap.size, 0, none⟩) 6 6), (13, .int .i64 0)], [⟨W3.heap.size, 9, true, [.string ⟨#[]⟩, .string ⟨#[]⟩, .string ⟨#[]⟩, .string ⟨#[]⟩, .string ⟨#[]⟩, .string ⟨#[]⟩]⟩], [], W3.heap.size + 1⟩⟩ := by kernel_rfl
def LosesJ1 (K : Option Addr) (nk : Nat) (kcp : Nat) (pb : Nat) (W3 : World) (A2 : Option Addr) (n2 : Nat) (cp2 : Nat)  (m : Nat) (st : St) : Prop := ∃ (k z : Nat), m + k = 6 ∧ W3.heap.size + 1 ≤ z ∧ st = ⟨[(1, .slice A2 n2 cp2), (2, .slice K nk kcp), (6, .bool false), (8, (lss_p pb 0)), (12, .slice (some ⟨W3.heap.size, 0, none⟩) 6 6), (13, .int .i64 (k : Int))], [⟨W3.heap.size, 9, true, (strsV (init7 6 k))⟩], [], z⟩
theorem lss_s9 (K : Option Addr) (nk : Nat) (kcp : Nat) (k : Nat) (pb : Nat) (z : Nat) (W3 : World) (J2 : Act → World → Prop) (A2 : Option Addr) (n2 : Nat) (cp2 : Nat) : Res.prune [1, 2, 6, 8, 12, 13, 76, 77, 78] [] (exec Try.prog (bodyOf Try.f7) 140 17 [lss_h, lss_h, ⟨true, 0, []⟩, lss_h, lss_h, lss_h] [.code lss_n11, .inv J2, .blk 3, .code lss_n30] ⟨[(1, .slice A2 n2 cp2), (2, .slice K nk kcp), (6, .bool false), (8, (lss_p pb 0)), (12, .slice (some ⟨W3.heap.size, 0, none⟩) 6 6), (13, .int .i64 (k : Int))], [⟨W3.heap.size, 9, true, (strsV (init7 6 k))⟩], [], z⟩) = some ⟨[(decide (((k : Int) : Int) < 6)) = true], dupR [], [.ops lss_n9 [3, 4, 5], .blk 4, .code lss_n10, .inv J2, .blk 3, .code lss_n30], ⟨[(1, .slice A2 n2 cp2), (2, .slice K nk kcp), (6, .bool false), (8, (lss_p pb 0)), (12, .slice (some ⟨W3.heap.size, 0, none⟩) 6 6), (13, .int .i64 (k : Int)), (76, .slice (some ⟨W3.heap.size, 0, none⟩) 6 6), (77, .int .i64 (k : Int)), (78, .slice (some ⟨z, 0, none⟩) 64 64)], [⟨W3.heap.size, 9, true, (strsV (init7 6 k))⟩, ⟨z, 5, true, (lss_v1)⟩], [], z + 1⟩⟩ := by kernel_rfl
theorem lss_s11 (K : Option Addr) (nk : Nat) (kcp : Nat) (k : Nat) (pb : Nat) (z : Nat) (W3 : World) (J2 : Act → World → Prop) (A2 : Option Addr) (n2 : Nat) (cp2 : Nat) : Res.prune [1, 2, 6, 8, 12, 13, 79, 80] [] (exec Try.prog (bodyOf Try.f7) 140 4 [⟨false, 1, []⟩] [.ops lss_n9 [4, 5], .blk 4, .code lss_n10, .inv J2, .blk 3, .code lss_n30] ⟨[(79, .string zero64), (1, .slice A2 n2 cp2), (2, .slice K nk kcp), (6, .bool false), (8, (lss_p pb 0)), (12, .slice (some ⟨W3.heap.size, 0, none⟩) 6 6), (13, .int .i64 (k : Int)), (76, .slice (some ⟨W3.heap.size, 0, none⟩) 6 6), (77, .int .i64 (k : Int)), (78, .slice (some ⟨z, 0, none⟩) 64 64)], [⟨W3.heap.size, 9, true, (strsV (init7 6 k))⟩, ⟨z, 5, true, (lss_v1)⟩], [], z + 1⟩) = some ⟨[(0 : Int) ≤ (k : Int) ∧ (k : Int) < ((6 : Nat) : Int)], dupR [], [.ops lss_n9 [5], .blk 4, .code lss_n10, .inv J2, .blk 3, .code lss_n30], ⟨[(1, .slice A2 n2 cp2), (2, .slice K nk kcp), (6, .bool false), (8, (lss_p pb 0)), (12, .slice (some ⟨W3.heap.size, 0, none⟩) 6 6), (13, .int .i64 (k : Int)), (79, .string zero64), (80, .pointer (some ⟨W3.heap.size, 0 + k * 1, none⟩))], [⟨W3.heap.size, 9, true, (strsV (init7 6 k))⟩, ⟨z, 5, true, (lss_v1)⟩], [], z + 1⟩⟩ := by kernel_rfl
theorem lss_s13 (K : Option Addr) (nk : Nat) (kcp : Nat) (k : Nat) (pb : Nat) (z : Nat) (W3 : World) (J2 : Act → World → Prop) (A2 : Option Addr) (n2 : Nat) (cp2 : Nat) (z12 : Nat) : Res.prune [1, 2, 6, 8, 12, 13] [] (exec Try.prog (bodyOf Try.f7) 140 10 [lss_h, ⟨false, 1, []⟩, lss_h] [.ops lss_n9 [], .blk 4, .code lss_n10, .inv J2, .blk 3, .code lss_n30] ⟨[(1, .slice A2 n2 cp2), (2, .slice K nk kcp), (6, .bool false), (8, (lss_p pb 0)), (12, .slice (some ⟨W3.heap.size, 0, none⟩) 6 6), (13, .int .i64 (k : Int)), (79, .string zero64), (80, .pointer (some ⟨W3.heap.size, 0 + k * 1, none⟩))], [⟨W3.heap.size, 9, true, (strsV (init7 6 (k + 1)))⟩, ⟨z, 5, true, (lss_v1)⟩], [], z12⟩) = some ⟨[inR .i64 (((k : Int) + 1))], dupR [], [.inv J2, .blk 3, .code lss_n30], ⟨[(1, .slice A2 n2 cp2), (2, .slice K nk kcp), (6, .bool false), (8, (lss_p pb 0)), (12, .slice (some ⟨W3.heap.size, 0, none⟩) 6 6), (13, .int .i64 ((k : Int) + 1))], [⟨W3.heap.size, 9, true, (strsV (init7 6 (k + 1)))⟩, ⟨z, 5, true, (lss_v1)⟩], [], z12⟩⟩ := by kernel_rfl
theorem lss_s14 (K : Option Addr) (nk : Nat) (kcp : Nat) (k : Nat) (pb : Nat) (z : Nat) (W3 : World) (J2 : Act → World → Prop) (A2 : Option Addr) (n2 : Nat) (cp2 : Nat) : Res.prune [1, 2, 6, 8, 12, 81] [] (exec Try.prog (bodyOf Try.f7) 140 15 [lss_h, lss_h, lss_h, lss_h] [.code lss_n11, .inv J2, .blk 3, .code lss_n30] ⟨[(1, .slice A2 n2 cp2), (2, .slice K nk kcp), (6, .bool false), (8, (lss_p pb 0)), (12, .slice (some ⟨W3.heap.size, 0, none⟩) 6 6), (13, .int .i64 (k : Int))], [⟨W3.heap.size, 9, true, (strsV (init7 6 k))⟩], [], z⟩) = some ⟨[(decide (((k : Int) : Int) < 6)) = false], dupR [], [.ops lss_n12 [1, 2, 3, 4, 5, 6, 7, 8, 9, 10, 11, 12, 13, 14], .code lss_n13, .code lss_n29], ⟨[(1, .slice A2 n2 cp2), (2, .slice K nk kcp), (6, .bool false), (8, (lss_p pb 0)), (12, .slice (some ⟨W3.heap.size, 0, none⟩) 6 6), (81, (lss_p pb 0))], [⟨W3.heap.size, 9, true, (strsV (init7 6 k))⟩], [], z⟩⟩ := by kernel_rfl
theorem lss_c15 (K : Option Addr) (nk : Nat) (kcp : Nat) (pb : Nat) (W3 : World) (A2 : Option Addr) (n2 : Nat) (cp2 : Nat) : callAt Try.prog (opsOf (getCode (bodyOf Try.f7) lss_n12)) [(1, .slice A2 n2 cp2), (2, .slice K nk kcp), (6, .bool false), (8, (lss_p pb 0)), (12, .slice (some ⟨W3.heap.size, 0, none⟩) 6 6), (81, (lss_p pb 0))] 1 = some (15, [(lss_p pb 0)], some 82, []) := by kernel_rfl
theorem lss_s16 (K : Option Addr) (nk : Nat) (kcp : Nat) (k : Nat) (pb : Nat) (W3 : World) (A2 : Option Addr) (n2 : Nat) (cp2 : Nat) (z15 : Nat) : Res.prune [1, 2, 6, 8, 12, 83, 84] [] (exec Try.prog (bodyOf Try.f7) 140 5 [lss_h, lss_h] [.ops lss_n12 [2, 3, 4, 5, 6, 7, 8, 9, 10, 11, 12, 13, 14], .code lss_n13, .code lss_n29] ⟨[(82, .bool false), (1, .slice A2 n2 cp2), (2, .slice K nk kcp), (6, .bool false), (8, (lss_p pb 0)), (12, .slice (some ⟨W3.heap.size, 0, none⟩) 6 6), (81, (lss_p pb 0))], [⟨W3.heap.size, 9, true, (strsV (init7 6 k))⟩], [], z15⟩) = some ⟨[false = false], dupR [], [.ops lss_n12 [4, 5, 6, 7, 8, 9, 10, 11, 12, 13, 14], .code lss_n13, .code lss_n29], ⟨[(1, .slice A2 n2 cp2), (2, .slice K nk kcp), (6, .bool false), (8, (lss_p pb 0)), (12, .slice (some ⟨W3.heap.size, 0, none⟩) 6 6), (83, .bool false), (84, (lss_p pb 0))], [⟨W3.heap.size, 9, true, (strsV (init7 6 k))⟩], [], z15⟩⟩ := by kernel_rfl
theorem lss_c17 (K : Option Addr) (nk : Nat) (kcp : Nat) (pb : Nat) (W3 : World) (A2 : Option Addr) (n2 : Nat) (cp2 : Nat) : callAt Try.prog (opsOf (getCode (bodyOf Try.f7) lss_n12)) [(1, .slice A2 n2 cp2), (2, .slice K nk kcp), (6, .bool false), (8, (lss_p pb 0)), (12, .slice (some ⟨W3.heap.size, 0, none⟩) 6 6), (83, .bool false), (84, (lss_p pb 0))] 4 = some (20, [(lss_p pb 0)], some 85, [false = false]) := by kernel_rfl
theorem lss_s18 (K : Option Addr) (nk : Nat) (kcp : Nat) (k : Nat) (pb : Nat) (W3 : World) (W4 : World) (yc : Option Addr × Nat) (A2 : Option Addr) (n2 : Nat) (cp2 : Nat) : Res.prune [1, 2, 6, 8, 12, 89, 90] [] (exec Try.prog (bodyOf Try.f7) 140 8 [lss_h, lss_h, ⟨false, 3, []⟩, lss_h, lss_h] [.ops lss_n12 [5, 6, 7, 8, 9, 10, 11, 12, 13, 14], .code lss_n13, .code lss_n29] ⟨[(85, .slice yc.1 0 yc.2), (1, .slice A2 n2 cp2), (2, .slice K nk kcp), (6, .bool false), (8, (lss_p pb 0)), (12, .slice (some ⟨W3.heap.size, 0, none⟩) 6 6), (83, .bool false), (84, (lss_p pb 0))], [⟨W3.heap.size, 9, true, (strsV (init7 6 k))⟩], [], W4.heap.size⟩) = some ⟨[false = false, false = false, false = false, ((0 : Int) != 0) = false], dupR [], [.ops lss_n12 [10, 11, 12, 13, 14], .code lss_n13, .code lss_n29], ⟨[(1, .slice A2 n2 cp2), (2, .slice K nk kcp), (6, .bool false), (8, (lss_p pb 0)), (12, .slice (some ⟨W3.heap.size, 0, none⟩) 6 6), (89, .bool ((0 : Int) != 0)), (90, (lss_p pb 0))], [⟨W3.heap.size, 9, true, (strsV (init7 6 k))⟩], [], W4.heap.size⟩⟩ := by kernel_rfl
theorem lss_c19 (K : Option Addr) (nk : Nat) (kcp : Nat) (pb : Nat) (W3 : World) (A2 : Option Addr) (n2 : Nat) (cp2 : Nat) : callAt Try.prog (opsOf (getCode (bodyOf Try.f7) lss_n12)) [(1, .slice A2 n2 cp2), (2, .slice K nk kcp), (6, .bool false), (8, (lss_p pb 0)), (12, .slice (some ⟨W3.heap.size, 0, none⟩) 6 6), (89, .bool ((0 : Int) != 0)), (90, (lss_p pb 0))] 10 = some (19, [(lss_p pb 0)], some 91, [((0 : Int) != 0) = false]) := by kernel_rfl
theorem lss_s20 (K : Option Addr) (nk : Nat) (kcp : Nat) (k : Nat) (pb : Nat) (W3 : World) (W5 : World) (g1 : Nat) (A2 : Option Addr) (n2 : Nat) (cp2 : Nat) : Res.prune [1, 2, 6, 8, 12, 89, 91, 92] [] (exec Try.prog (bodyOf Try.f7) 140 4 [lss_h] [.ops lss_n12 [11, 12, 13, 14], .code lss_n13, .code lss_n29] ⟨[(91, .slice (some ⟨g1, 0, none⟩) 6 6), (1, .slice A2 n2 cp2), (2, .slice K nk kcp), (6, .bool false), (8, (lss_p pb 0)), (12, .slice (some ⟨W3.heap.size, 0, none⟩) 6 6), (89, .bool ((0 : Int) != 0)), (90, (lss_p pb 0))], [⟨W3.heap.size, 9, true, (strsV (init7 6 k))⟩, ⟨g1, 9, true, (strsV (init7 6 k))⟩], [], W5.heap.size⟩) = some ⟨[((0 : Int) != 0) = false], dupR [], [.ops lss_n12 [12, 13, 14], .code lss_n13, .code lss_n29], ⟨[(1, .slice A2 n2 cp2), (2, .slice K nk kcp), (6, .bool false), (8, (lss_p pb 0)), (12, .slice (some ⟨W3.heap.size, 0, none⟩) 6 6), (89, .bool ((0 : Int) != 0)), (91, .slice (some ⟨g1, 0, none⟩) 6 6), (92, .slice (some ⟨W3.heap.size, 0, none⟩) 6 6)], [⟨W3.heap.size, 9, true, (strsV (init7 6 k))⟩, ⟨g1, 9, true, (strsV (init7 6 k))⟩], [], W5.heap.size⟩⟩ := by kernel_rfl
theorem lss_c21 (K : Option Addr) (nk : Nat) (kcp : Nat) (pb : Nat) (W3 : World) (g1 : Nat) (A2 : Option Addr) (n2 : Nat) (cp2 : Nat) : callAt Try.prog (opsOf (getCode (bodyOf Try.f7) lss_n12)) [(1, .slice A2 n2 cp2), (2, .slice K nk kcp), (6, .bool false), (8, (lss_p pb 0)), (12, .slice (some ⟨W3.heap.size, 0, none⟩) 6 6), (89, .bool ((0 : Int) != 0)), (91, .slice (some ⟨g1, 0, none⟩) 6 6), (92, .slice (some ⟨W3.heap.size, 0, none⟩) 6 6)] 12 = some (21, [.slice (some ⟨g1, 0, none⟩) 6 6, .slice (some ⟨W3.heap.size, 0, none⟩) 6 6], some 93, [((0 : Int) != 0) = false]) := by kernel_rfl
theorem lss_s22 (K : Option Addr) (nk : Nat) (kcp : Nat) (k : Nat) (pb : Nat) (W3 : World) (g1 : Nat) (A2 : Option Addr) (n2 : Nat) (cp2 : Nat) (z21 : Nat) : Res.prune [1, 2, 6, 8, 12, 14] [] (exec Try.prog (bodyOf Try.f7) 140 14 [lss_h, ⟨false, 3, []⟩, lss_h, lss_h] [.ops lss_n12 [13, 14], .code lss_n13, .code lss_n29] ⟨[(93, .bool true), (1, .slice A2 n2 cp2), (2, .slice K nk kcp), (6, .bool false), (8, (lss_p pb 0)), (12, .slice (some ⟨W3.heap.size, 0, none⟩) 6 6), (89, .bool ((0 : Int) != 0)), (91, .slice (some ⟨g1, 0, none⟩) 6 6), (92, .slice (some ⟨W3.heap.size, 0, none⟩) 6 6)], [⟨W3.heap.size, 9, true, (strsV (init7 6 k))⟩, ⟨g1, 9, true, (strsV (init7 6 k))⟩], [], z21⟩) = some ⟨[((0 : Int) != 0) = false, ((0 : Int) != 0) = false, false = false], dupR [], [.code [1, 1, 1, 1, 1, 1, 1, 1, 1, 0, 1, 0], .blk 5, .code lss_n28], ⟨[(1, .slice A2 n2 cp2), (2, .slice K nk kcp), (6, .bool false), (8, (lss_p pb 0)), (12, .slice (some ⟨W3.heap.size, 0, none⟩) 6 6), (14, .int .i64 0)], [⟨W3.heap.size, 9, true, (strsV (init7 6 k))⟩, ⟨g1, 9, true, (strsV (init7 6 k))⟩], [], z21⟩⟩ := by kernel_rfl
def LosesK1 (K : Option Addr) (nk : Nat) (kcp : Nat) (lb : Nat) (mb : Nat) (pb : Nat) (W3 : World) (A2 : Option Addr) (n2 : Nat) (cp2 : Nat)  (m : Nat) (st : St) (W1 : World) : Prop :=
  ∃ (j : Nat) (M2 : Pl) (now : List ByteArray) (z : Nat), m + j = 30 ∧ j ≤ n2 ∧ LkM lb mb M2 now j ∧ PlatAt 53 56 W1 pb M2 ∧ st = ⟨[(1, .slice A2 n2 cp2), (2, .slice K nk kcp), (6, .bool false), (8, (lss_p pb 0)), (12, .slice (some ⟨W3.heap.size, 0, none⟩) 6 6), (14, .int .i64 (j : Int))], [⟨W3.heap.size, 9, true, (strsV now)⟩], [], z⟩
theorem lss_s23 (K : Option Addr) (nk : Nat) (kcp : Nat) (pb : Nat) (now : List ByteArray) (W3 : World) (W6 : World) (A2 : Option Addr) (n2 : Nat) (cp2 : Nat) (j : Nat) (J4 : Act → World → Prop) : Res.prune [2, 6, 8, 12, 127] [] (exec Try.prog (bodyOf Try.f7) 140 20 [lss_h, lss_h, lss_h, lss_h, lss_h, lss_h, lss_h, ⟨false, 3, []⟩, lss_h, lss_h] [.code lss_n21, .inv J4, .blk 5, .code lss_n28] ⟨[(1, .slice A2 n2 cp2), (2, .slice K nk kcp), (6, .bool false), (8, (lss_p pb 0)), (12, .slice (some ⟨W3.heap.size, 0, none⟩) 6 6), (14, .int .i64 (j : Int))], [⟨W3.heap.size, 9, true, (strsV now)⟩], [], W6.heap.size⟩) = some ⟨[(decide (((j : Int) : Int) < (n2 : Int))) = false, (decide (((j : Int) : Int) < (n2 : Int))) = false, (decide (((j : Int) : Int) < (n2 : Int))) = false, false = false], dupR [], [.ops lss_n22 [1, 2], .code lss_n27], ⟨[(2, .slice K nk kcp), (6, .bool false), (8, (lss_p pb 0)), (12, .slice (some ⟨W3.heap.size, 0, none⟩) 6 6), (127, (lss_p pb 0))], [⟨W3.heap.size, 9, true, (strsV now)⟩], [], W6.heap.size⟩⟩ := by kernel_rfl
theorem lss_c24 (K : Option Addr) (nk : Nat) (kcp : Nat) (pb : Nat) (W3 : World) : callAt Try.prog (opsOf (getCode (bodyOf Try.f7) lss_n22)) [(2, .slice K nk kcp), (6, .bool false), (8, (lss_p pb 0)), (12, .slice (some ⟨W3.heap.size, 0, none⟩) 6 6), (127, (lss_p pb 0))] 1 = some (14, [(lss_p pb 0)], some 128, []) := by kernel_rfl
theorem lss_s25 (K : Option Addr) (nk : Nat) (kcp : Nat) (pb : Nat) (now : List ByteArray) (W3 : World) (W7 : World) : Res.prune [6, 8, 12, 16, 129, 130] [] (exec Try.prog (bodyOf Try.f7) 140 9 [lss_h, lss_h, lss_h] [.ops lss_n22 [2], .code lss_n27] ⟨[(128, .int .i64 0), (2, .slice K nk kcp), (6, .bool false), (8, (lss_p pb 0)), (12, .slice (some ⟨W3.heap.size, 0, none⟩) 6 6), (127, (lss_p pb 0))], [⟨W3.heap.size, 9, true, (strsV now)⟩], [], W7.heap.size⟩) = some ⟨[], dupR [], [.ops lss_n23 [2], .code lss_n26], ⟨[(6, .bool false), (8, (lss_p pb 0)), (12, .slice (some ⟨W3.heap.size, 0, none⟩) 6 6), (16, .int .i64 0), (129, (lss_p pb 0)), (130, .slice K nk kcp)], [⟨W3.heap.size, 9, true, (strsV now)⟩], [], W7.heap.size⟩⟩ := by kernel_rfl
theorem lss_c26 (K : Option Addr) (nk : Nat) (kcp : Nat) (pb : Nat) (W3 : World) : callAt Try.prog (opsOf (getCode (bodyOf Try.f7) lss_n23)) [(6, .bool false), (8, (lss_p pb 0)), (12, .slice (some ⟨W3.heap.size, 0, none⟩) 6 6), (16, .int .i64 0), (129, (lss_p pb 0)), (130, .slice K nk kcp)] 2 = some (16, [(lss_p pb 0), .slice K nk kcp], some 131, []) := by kernel_rfl
theorem lss_s27 (K : Option Addr) (nk : Nat) (kcp : Nat) (pb : Nat) (now : List ByteArray) (W3 : World) (W8 : World) : Res.prune [6, 12, 134, 135] [] (exec Try.prog (bodyOf Try.f7) 140 10 [lss_h, lss_h, lss_h, ⟨true, 0, []⟩] [.ops lss_n23 [], .code lss_n26] ⟨[(131, .tuple #[]), (6, .bool false), (8, (lss_p pb 0)), (12, .slice (some ⟨W3.heap.size, 0, none⟩) 6 6), (16, .int .i64 0), (129, (lss_p pb 0)), (130, .slice K nk kcp)], [⟨W3.heap.size, 9, true, (strsV now)⟩], [], W8.heap.size⟩) = some ⟨[true = true], dupR [], [.ops lss_n24 [4, 5, 6, 7, 8], .code lss_n25], ⟨[(6, .bool false), (12, .slice (some ⟨W3.heap.size, 0, none⟩) 6 6), (134, .bool true), (135, (lss_p pb 0))], [⟨W3.heap.size, 9, true, (strsV now)⟩], [], W8.heap.size⟩⟩ := by kernel_rfl
theorem lss_c28 (pb : Nat) (W3 : World) : callAt Try.prog (opsOf (getCode (bodyOf Try.f7) lss_n24)) [(6, .bool false), (12, .slice (some ⟨W3.heap.size, 0, none⟩) 6 6), (134, .bool true), (135, (lss_p pb 0))] 4 = some (19, [(lss_p pb 0)], some 136, [true = true]) := by kernel_rfl
theorem lss_s29 (pb : Nat) (now : List ByteArray) (W3 : World) (W9 : World) (g2 : Nat) : Res.prune [6, 134, 136, 137] [] (exec Try.prog (bodyOf Try.f7) 140 4 [⟨true, 0, []⟩] [.ops lss_n24 [5, 6, 7, 8], .code lss_n25] ⟨[(136, .slice (some ⟨g2, 0, none⟩) 6 6), (6, .bool false), (12, .slice (some ⟨W3.heap.size, 0, none⟩) 6 6), (134, .bool true), (135, (lss_p pb 0))], [⟨W3.heap.size, 9, true, (strsV now)⟩, ⟨g2, 9, true, (strsV now)⟩], [], W9.heap.size⟩) = some ⟨[true = true], dupR [], [.ops lss_n24 [6, 7, 8], .code lss_n25], ⟨[(6, .bool false), (134, .bool true), (136, .slice (some ⟨g2, 0, none⟩) 6 6), (137, .slice (some ⟨W3.heap.size, 0, none⟩) 6 6)], [⟨W3.heap.size, 9, true, (strsV now)⟩, ⟨g2, 9, true, (strsV now)⟩], [], W9.heap.size⟩⟩ := by kernel_rfl
theorem lss_c30 (W3 : World) (g2 : Nat) : callAt Try.prog (opsOf (getCode (bodyOf Try.f7) lss_n24)) [(6, .bool false), (134, .bool true), (136, .slice (some ⟨g2, 0, none⟩) 6 6), (137, .slice (some ⟨W3.heap.size, 0, none⟩) 6 6)] 6 = some (21, [.slice (some ⟨g2, 0, none⟩) 6 6, .slice (some ⟨W3.heap.size, 0, none⟩) 6 6], some 138, [true = true]) := by kernel_rfl
theorem lss_s31 (now : List ByteArray) (W3 : World) (g2 : Nat) (z30 : Nat) : Res.prune [6] [] (exec Try.prog (bodyOf Try.f7) 140 6 [⟨false, 2, []⟩, lss_h] [.ops lss_n24 [7, 8], .code lss_n25] ⟨[(138, .bool true), (6, .bool false), (134, .bool true), (136, .slice (some ⟨g2, 0, none⟩) 6 6), (137, .slice (some ⟨W3.heap.size, 0, none⟩) 6 6)], [⟨W3.heap.size, 9, true, (strsV now)⟩, ⟨g2, 9, true, (strsV now)⟩], [], z30⟩) = some ⟨[true = true], dupR [], [.code lss_n25], ⟨[(6, .bool true)], [⟨W3.heap.size, 9, true, (strsV now)⟩, ⟨g2, 9, true, (strsV now)⟩], [], z30⟩⟩ := by kernel_rfl
theorem lss_r32 (now : List ByteArray) (W3 : World) (g2 : Nat) : resL Try.prog [] [⟨W3.heap.size, 9, true, (strsV now)⟩, ⟨g2, 9, true, (strsV now)⟩] [(6, .bool true)] Try.f7.results.toList [] = some ([.bool true], dupR []) := by kernel_rfl
theorem lss_s33 (K : Option Addr) (nk : Nat) (kcp : Nat) (pb : Nat) (now : List ByteArray) (W3 : World) (W6 : World) (A2 : Option Addr) (n2 : Nat) (cp2 : Nat) (j : Nat) (J4 : Act → World → Prop) : Res.prune [2, 6, 8, 12, 127] [] (exec Try.prog (bodyOf Try.f7) 140 20 [lss_h, lss_h, lss_h, lss_h, lss_h, ⟨true, 0, []⟩, ⟨true, 0, []⟩, ⟨false, 2, []⟩, lss_h, lss_h] [.code lss_n21, .inv J4, .blk 5, .code lss_n28] ⟨[(1, .slice A2 n2 cp2), (2, .slice K nk kcp), (6, .bool false), (8, (lss_p pb 0)), (12, .slice (some ⟨W3.heap.size, 0, none⟩) 6 6), (14, .int .i64 (j : Int))], [⟨W3.heap.size, 9, true, (strsV now)⟩], [], W6.heap.size⟩) = some ⟨[(decide (((j : Int) : Int) < (n2 : Int))) = true, (decide (((j : Int) : Int) < (n2 : Int))) = true, (decide (((j : Int) : Int) < (n2 : Int))) = true, (decide (((j : Int) : Int) < 30)) = false], dupR [], [.ops lss_n22 [1, 2], .code lss_n27], ⟨[(2, .slice K nk kcp), (6, .bool false), (8, (lss_p pb 0)), (12, .slice (some ⟨W3.heap.size, 0, none⟩) 6 6), (127, (lss_p pb 0))], [⟨W3.heap.size, 9, true, (strsV now)⟩], [], W6.heap.size⟩⟩ := by kernel_rfl
theorem lss_c34 (K : Option Addr) (nk : Nat) (kcp : Nat) (pb : Nat) (W3 : World) : callAt Try.prog (opsOf (getCode (bodyOf Try.f7) lss_n22)) [(2, .slice K nk kcp), (6, .bool false), (8, (lss_p pb 0)), (12, .slice (some ⟨W3.heap.size, 0, none⟩) 6 6), (127, (lss_p pb 0))] 1 = some (14, [(lss_p pb 0)], some 128, []) := by kernel_rfl
theorem lss_s35 (K : Option Addr) (nk : Nat) (kcp : Nat) (pb : Nat) (now : List ByteArray) (W3 : World) (W7 : World) : Res.prune [6, 8, 12, 16, 129, 130] [] (exec Try.prog (bodyOf Try.f7) 140 9 [lss_h, lss_h, lss_h] [.ops lss_n22 [2], .code lss_n27] ⟨[(128, .int .i64 0), (2, .slice K nk kcp), (6, .bool false), (8, (lss_p pb 0)), (12, .slice (some ⟨W3.heap.size, 0, none⟩) 6 6), (127, (lss_p pb 0))], [⟨W3.heap.size, 9, true, (strsV now)⟩], [], W7.heap.size⟩) = some ⟨[], dupR [], [.ops lss_n23 [2], .code lss_n26], ⟨[(6, .bool false), (8, (lss_p pb 0)), (12, .slice (some ⟨W3.heap.size, 0, none⟩) 6 6), (16, .int .i64 0), (129, (lss_p pb 0)), (130, .slice K nk kcp)], [⟨W3.heap.size, 9, true, (strsV now)⟩], [], W7.heap.size⟩⟩ := by kernel_rfl
theorem lss_c36 (K : Option Addr) (nk : Nat) (kcp : Nat) (pb : Nat) (W3 : World) : callAt Try.prog (opsOf (getCode (bodyOf Try.f7) lss_n23)) [(6, .bool false), (8, (lss_p pb 0)), (12, .slice (some ⟨W3.heap.size, 0, none⟩) 6 6), (16, .int .i64 0), (129, (lss_p pb 0)), (130, .slice K nk kcp)] 2 = some (16, [(lss_p pb 0), .slice K nk kcp], some 131, []) := by kernel_rfl
theorem lss_s37 (K : Option Addr) (nk : Nat) (kcp : Nat) (pb : Nat) (now : List ByteArray) (W3 : World) (W8 : World) : Res.prune [6, 12, 134, 135] [] (exec Try.prog (bodyOf Try.f7) 140 10 [lss_h, lss_h, lss_h, ⟨true, 0, []⟩] [.ops lss_n23 [], .code lss_n26] ⟨[(131, .tuple #[]), (6, .bool false), (8, (lss_p pb 0)), (12, .slice (some ⟨W3.heap.size, 0, none⟩) 6 6), (16, .int .i64 0), (129, (lss_p pb 0)), (130, .slice K nk kcp)], [⟨W3.heap.size, 9, true, (strsV now)⟩], [], W8.heap.size⟩) = some ⟨[true = true], dupR [], [.ops lss_n24 [4, 5, 6, 7, 8], .code lss_n25], ⟨[(6, .bool false), (12, .slice (some ⟨W3.heap.size, 0, none⟩) 6 6), (134, .bool true), (135, (lss_p pb 0))], [⟨W3.heap.size, 9, true, (strsV now)⟩], [], W8.heap.size⟩⟩ := by kernel_rfl
theorem lss_c38 (pb : Nat) (W3 : World) : callAt Try.prog (opsOf (getCode (bodyOf Try.f7) lss_n24)) [(6, .bool false), (12, .slice (some ⟨W3.heap.size, 0, none⟩) 6 6), (134, .bool true), (135, (lss_p pb 0))] 4 = some (19, [(lss_p pb 0)], some 136, [true = true]) := by kernel_rfl
theorem lss_s39 (pb : Nat) (now : List ByteArray) (W3 : World) (W9 : World) (g2 : Nat) : Res.prune [6, 134, 136, 137] [] (exec Try.prog (bodyOf Try.f7) 140 4 [⟨true, 0, []⟩] [.ops lss_n24 [5, 6, 7, 8], .code lss_n25] ⟨[(136, .slice (some ⟨g2, 0, none⟩) 6 6), (6, .bool false), (12, .slice (some ⟨W3.heap.size, 0, none⟩) 6 6), (134, .bool true), (135, (lss_p pb 0))], [⟨W3.heap.size, 9, true, (strsV now)⟩, ⟨g2, 9, true, (strsV now)⟩], [], W9.heap.size⟩) = some ⟨[true = true], dupR [], [.ops lss_n24 [6, 7, 8], .code lss_n25], ⟨[(6, .bool false), (134, .bool true), (136, .slice (some ⟨g2, 0, none⟩) 6 6), (137, .slice (some ⟨W3.heap.size, 0, none⟩) 6 6)], [⟨W3.heap.size, 9, true, (strsV now)⟩, ⟨g2, 9, true, (strsV now)⟩], [], W9.heap.size⟩⟩ := by kernel_rfl
theorem lss_c40 (W3 : World) (g2 : Nat) : callAt Try.prog (opsOf (getCode (bodyOf Try.f7) lss_n24)) [(6, .bool false), (134, .bool true), (136, .slice (some ⟨g2, 0, none⟩) 6 6), (137, .slice (some ⟨W3.heap.size, 0, none⟩) 6 6)] 6 = some (21, [.slice (some ⟨g2, 0, none⟩) 6 6, .slice (some ⟨W3.heap.size, 0, none⟩) 6 6], some 138, [true = true]) := by kernel_rfl
theorem lss_s41 (now : List ByteArray) (W3 : World) (g2 : Nat) (z40 : Nat) : Res.prune [6] [] (exec Try.prog (bodyOf Try.f7) 140 6 [⟨false, 2, []⟩, lss_h] [.ops lss_n24 [7, 8], .code lss_n25] ⟨[(138, .bool true), (6, .bool false), (134, .bool true), (136, .slice (some ⟨g2, 0, none⟩) 6 6), (137, .slice (some ⟨W3.heap.size, 0, none⟩) 6 6)], [⟨W3.heap.size, 9, true, (strsV now)⟩, ⟨g2, 9, true, (strsV now)⟩], [], z40⟩) = some ⟨[true = true], dupR [], [.code lss_n25], ⟨[(6, .bool true)], [⟨W3.heap.size, 9, true, (strsV now)⟩, ⟨g2, 9, true, (strsV now)⟩], [], z40⟩⟩ := by kernel_rfl
theorem lss_r42 (now : List ByteArray) (W3 : World) (g2 : Nat) : resL Try.prog [] [⟨W3.heap.size, 9, true, (strsV now)⟩, ⟨g2, 9, true, (strsV now)⟩] [(6, .bool true)] Try.f7.results.toList [] = some ([.bool true], dupR []) := by kernel_rfl
theorem lss_s43 (K : Option Addr) (nk : Nat) (kcp : Nat) (b : Nat) (o : Nat) (nums : Nat → Num1) (pb : Nat) (now : List ByteArray) (W3 : World) (W6 : World) (n2 : Nat) (cp2 : Nat) (j : Nat) (J4 : Act → World → Prop) : Res.prune [1, 2, 6, 8, 12, 14, 109] [] (exec Try.prog (bodyOf Try.f7) 140 25 [lss_h, lss_h, lss_h, lss_h, lss_h, ⟨true, 0, []⟩, ⟨true, 0, []⟩, ⟨false, 2, []⟩, ⟨true, 0, []⟩, lss_h, lss_h, ⟨false, 1, []⟩, ⟨false, 0, [⟨true, 0, 0, 1⟩]⟩] [.code lss_n21, .inv J4, .blk 5, .code lss_n28] ⟨[(1, .slice (some ⟨b, o, none⟩) n2 cp2), (2, .slice K nk kcp), (6, .bool false), (8, (lss_p pb 0)), (12, .slice (some ⟨W3.heap.size, 0, none⟩) 6 6), (14, .int .i64 (j : Int))], [⟨W3.heap.size, 9, true, (strsV now)⟩], [⟨b, o + j * 1, [.int .i64 ((nums j).v)]⟩], W6.heap.size⟩) = some ⟨[(decide (((j : Int) : Int) < (n2 : Int))) = true, (decide (((j : Int) : Int) < (n2 : Int))) = true, (decide (((j : Int) : Int) < (n2 : Int))) = true, (decide (((j : Int) : Int) < 30)) = true, (0 : Int) ≤ (j : Int) ∧ (j : Int) < ((n2 : Nat) : Int)], dupR [(b, o + j * 1, 1)], [.ops lss_n14 [4, 5], .code lss_n19, .blk 6, .code lss_n20, .inv J4, .blk 5, .code lss_n28], ⟨[(1, .slice (some ⟨b, o, none⟩) n2 cp2), (2, .slice K nk kcp), (6, .bool false), (8, (lss_p pb 0)), (12, .slice (some ⟨W3.heap.size, 0, none⟩) 6 6), (14, .int .i64 (j : Int)), (109, .int .i64 ((nums j).v))], [⟨W3.heap.size, 9, true, (strsV now)⟩], [⟨b, o + j * 1, [.int .i64 ((nums j).v)]⟩], W6.heap.size⟩⟩ := by kernel_rfl
theorem lss_c44 (K : Option Addr) (nk : Nat) (kcp : Nat) (b : Nat) (o : Nat) (nums : Nat → Num1) (pb : Nat) (W3 : World) (n2 : Nat) (cp2 : Nat) (j : Nat) : callAt Try.prog (opsOf (getCode (bodyOf Try.f7) lss_n14)) [(1, .slice (some ⟨b, o, none⟩) n2 cp2), (2, .slice K nk kcp), (6, .bool false), (8, (lss_p pb 0)), (12, .slice (some ⟨W3.heap.size, 0, none⟩) 6 6), (14, .int .i64 (j : Int)), (109, .int .i64 ((nums j).v))] 4 = some (10, [.int .i64 ((nums j).v), .int .i64 6], some 110, []) := by kernel_rfl
theorem lss_s45 (K : Option Addr) (nk : Nat) (kcp : Nat) (b : Nat) (o : Nat) (nums : Nat → Num1) (B : Int) (pb : Nat) (now : List ByteArray) (W3 : World) (n2 : Nat) (cp2 : Nat) (j : Nat) (J4 : Act → World → Prop) (z44 : Nat) : Res.prune [1, 2, 6, 8, 12, 14, 15, 111, 112, 116] [] (exec Try.prog (bodyOf Try.f7) 140 13 [lss_h, lss_h, lss_h, lss_h, lss_h, ⟨false, 1, []⟩, ⟨false, 0, [⟨true, 0, 0, 1⟩]⟩] [.ops lss_n14 [5], .code lss_n19, .blk 6, .code lss_n20, .inv J4, .blk 5, .code lss_n28] ⟨[(110, .int .i64 B), (1, .slice (some ⟨b, o, none⟩) n2 cp2), (2, .slice K nk kcp), (6, .bool false), (8, (lss_p pb 0)), (12, .slice (some ⟨W3.heap.size, 0, none⟩) 6 6), (14, .int .i64 (j : Int)), (109, .int .i64 ((nums j).v))], [⟨W3.heap.size, 9, true, (strsV now)⟩], [⟨b, o + j * 1, [.int .i64 ((nums j).v)]⟩], z44⟩) = some ⟨[(0 : Int) ≤ (j : Int) ∧ (j : Int) < ((n2 : Nat) : Int)], dupR [(b, o + j * 1, 1)], [.ops lss_n15 [6, 7, 8], .code lss_n18, .blk 6, .code lss_n20, .inv J4, .blk 5, .code lss_n28], ⟨[(1, .slice (some ⟨b, o, none⟩) n2 cp2), (2, .slice K nk kcp), (6, .bool false), (8, (lss_p pb 0)), (12, .slice (some ⟨W3.heap.size, 0, none⟩) 6 6), (14, .int .i64 (j : Int)), (15, .int .i64 B), (111, .slice (some ⟨W3.heap.size, 0, none⟩) 6 6), (112, .int .i64 B), (116, .int .i64 ((nums j).v))], [⟨W3.heap.size, 9, true, (strsV now)⟩], [⟨b, o + j * 1, [.int .i64 ((nums j).v)]⟩], z44⟩⟩ := by kernel_rfl
theorem lss_c46 (K : Option Addr) (nk : Nat) (kcp : Nat) (b : Nat) (o : Nat) (nums : Nat → Num1) (B : Int) (pb : Nat) (W3 : World) (n2 : Nat) (cp2 : Nat) (j : Nat) : callAt Try.prog (opsOf (getCode (bodyOf Try.f7) lss_n15)) [(1, .slice (some ⟨b, o, none⟩) n2 cp2), (2, .slice K nk kcp), (6, .bool false), (8, (lss_p pb 0)), (12, .slice (some ⟨W3.heap.size, 0, none⟩) 6 6), (14, .int .i64 (j : Int)), (15, .int .i64 B), (111, .slice (some ⟨W3.heap.size, 0, none⟩) 6 6), (112, .int .i64 B), (116, .int .i64 ((nums j).v))] 6 = some (13, [.int .i64 ((nums j).v)], some 117, []) := by kernel_rfl
theorem lss_s47 (K : Option Addr) (nk : Nat) (kcp : Nat) (b : Nat) (o : Nat) (nums : Nat → Num1) (B : Int) (pb : Nat) (now : List ByteArray) (W3 : World) (n2 : Nat) (cp2 : Nat) (j : Nat) (J4 : Act → World → Prop) (z46 : Nat) : Res.prune [1, 2, 6, 8, 12, 14, 15, 117, 118] [] (exec Try.prog (bodyOf Try.f7) 140 4 [⟨false, 1, []⟩] [.ops lss_n15 [7, 8], .code lss_n18, .blk 6, .code lss_n20, .inv J4, .blk 5, .code lss_n28] ⟨[(117, .string (sec7 (nums j).v)), (1, .slice (some ⟨b, o, none⟩) n2 cp2), (2, .slice K nk kcp), (6, .bool false), (8, (lss_p pb 0)), (12, .slice (some ⟨W3.heap.size, 0, none⟩) 6 6), (14, .int .i64 (j : Int)), (15, .int .i64 B), (111, .slice (some ⟨W3.heap.size, 0, none⟩) 6 6), (112, .int .i64 B), (116, .int .i64 ((nums j).v))], [⟨W3.heap.size, 9, true, (strsV now)⟩], [⟨b, o + j * 1, [.int .i64 ((nums j).v)]⟩], z46⟩) = some ⟨[(0 : Int) ≤ B ∧ B < ((6 : Nat) : Int)], dupR [], [.ops lss_n15 [8], .code lss_n18, .blk 6, .code lss_n20, .inv J4, .blk 5, .code lss_n28], ⟨[(1, .slice (some ⟨b, o, none⟩) n2 cp2), (2, .slice K nk kcp), (6, .bool false), (8, (lss_p pb 0)), (12, .slice (some ⟨W3.heap.size, 0, none⟩) 6 6), (14, .int .i64 (j : Int)), (15, .int .i64 B), (117, .string (sec7 (nums j).v)), (118, .pointer (some ⟨W3.heap.size, 0 + (Int.toNat B) * 1, none⟩))], [⟨W3.heap.size, 9, true, (strsV now)⟩], [⟨b, o + j * 1, [.int .i64 ((nums j).v)]⟩], z46⟩⟩ := by kernel_rfl
theorem lss_s49 (K : Option Addr) (nk : Nat) (kcp : Nat) (b : Nat) (o : Nat) (nums : Nat → Num1) (B : Int) (pb : Nat) (now : List ByteArray) (W3 : World) (n2 : Nat) (cp2 : Nat) (j : Nat) (J4 : Act → World → Prop) (z48 : Nat) : Res.prune [1, 2, 6, 8, 12, 14, 119, 120, 123] [] (exec Try.prog (bodyOf Try.f7) 140 11 [lss_h, lss_h, lss_h, lss_h, ⟨false, 1, []⟩] [.ops lss_n15 [], .code lss_n18, .blk 6, .code lss_n20, .inv J4, .blk 5, .code lss_n28] ⟨[(1, .slice (some ⟨b, o, none⟩) n2 cp2), (2, .slice K nk kcp), (6, .bool false), (8, (lss_p pb 0)), (12, .slice (some ⟨W3.heap.size, 0, none⟩) 6 6), (14, .int .i64 (j : Int)), (15, .int .i64 B), (117, .string (sec7 (nums j).v)), (118, .pointer (some ⟨W3.heap.size, 0 + (Int.toNat B) * 1, none⟩))], [⟨W3.heap.size, 9, true, (strsV (List.set now (Int.toNat B) (sec7 (nums j).v)))⟩], [⟨b, o + j * 1, [.int .i64 ((nums j).v)]⟩], z48⟩) = some ⟨[(0 : Int) ≤ B ∧ B < ((6 : Nat) : Int)], dupR [], [.ops lss_n16 [5, 6, 7], .code lss_n17, .blk 6, .code lss_n20, .inv J4, .blk 5, .code lss_n28], ⟨[(1, .slice (some ⟨b, o, none⟩) n2 cp2), (2, .slice K nk kcp), (6, .bool false), (8, (lss_p pb 0)), (12, .slice (some ⟨W3.heap.size, 0, none⟩) 6 6), (14, .int .i64 (j : Int)), (119, (lss_p pb 0)), (120, .int .i64 B), (123, .pointer (some ⟨W3.heap.size, 0 + (Int.toNat B) * 1, none⟩))], [⟨W3.heap.size, 9, true, (strsV (List.set now (Int.toNat B) (sec7 (nums j).v)))⟩], [⟨b, o + j * 1, [.int .i64 ((nums j).v)]⟩], z48⟩⟩ := by kernel_rfl
theorem lss_s51 (K : Option Addr) (nk : Nat) (kcp : Nat) (b : Nat) (o : Nat) (nums : Nat → Num1) (B : Int) (pb : Nat) (now : List ByteArray) (W3 : World) (n2 : Nat) (cp2 : Nat) (j : Nat) (J4 : Act → World → Prop) (z48 : Nat) : Res.prune [1, 2, 6, 8, 12, 14, 119, 120, 124] [] (exec Try.prog (bodyOf Try.f7) 140 3 [] [.ops lss_n16 [6, 7], .code lss_n17, .blk 6, .code lss_n20, .inv J4, .blk 5, .code lss_n28] ⟨[(124, .string (sec7 (nums j).v)), (1, .slice (some ⟨b, o, none⟩) n2 cp2), (2, .slice K nk kcp), (6, .bool false), (8, (lss_p pb 0)), (12, .slice (some ⟨W3.heap.size, 0, none⟩) 6 6), (14, .int .i64 (j : Int)), (119, (lss_p pb 0)), (120, .int .i64 B), (123, .pointer (some ⟨W3.heap.size, 0 + (Int.toNat B) * 1, none⟩))], [⟨W3.heap.size, 9, true, (strsV (List.set now (Int.toNat B) (sec7 (nums j).v)))⟩], [⟨b, o + j * 1, [.int .i64 ((nums j).v)]⟩], z48⟩) = some ⟨[], dupR [], [.ops lss_n16 [6, 7], .code lss_n17, .blk 6, .code lss_n20, .inv J4, .blk 5, .code lss_n28], ⟨[(1, .slice (some ⟨b, o, none⟩) n2 cp2), (2, .slice K nk kcp), (6, .bool false), (8, (lss_p pb 0)), (12, .slice (some ⟨W3.heap.size, 0, none⟩) 6 6), (14, .int .i64 (j : Int)), (119, (lss_p pb 0)), (120, .int .i64 B), (124, .string (sec7 (nums j).v))], [⟨W3.heap.size, 9, true, (strsV (List.set now (Int.toNat B) (sec7 (nums j).v)))⟩], [⟨b, o + j * 1, [.int .i64 ((nums j).v)]⟩], z48⟩⟩ := by kernel_rfl
theorem lss_c52 (K : Option Addr) (nk : Nat) (kcp : Nat) (b : Nat) (o : Nat) (nums : Nat → Num1) (B : Int) (pb : Nat) (W3 : World) (n2 : Nat) (cp2 : Nat) (j : Nat) : callAt Try.prog (opsOf (getCode (bodyOf Try.f7) lss_n16)) [(1, .slice (some ⟨b, o, none⟩) n2 cp2), (2, .slice K nk kcp), (6, .bool false), (8, (lss_p pb 0)), (12, .slice (some ⟨W3.heap.size, 0, none⟩) 6 6), (14, .int .i64 (j : Int)), (119, (lss_p pb 0)), (120, .int .i64 B), (124, .string (sec7 (nums j).v))] 6 = some (12, [(lss_p pb 0), .int .i64 B, .string (sec7 (nums j).v)], some 125, []) := by kernel_rfl
theorem lss_s53 (K : Option Addr) (nk : Nat) (kcp : Nat) (b : Nat) (o : Nat) (nums : Nat → Num1) (B : Int) (pb : Nat) (now : List ByteArray) (W3 : World) (W7 : World) (n2 : Nat) (cp2 : Nat) (j : Nat) (J4 : Act → World → Prop) : Res.prune [1, 2, 6, 8, 12, 14] [] (exec Try.prog (bodyOf Try.f7) 140 13 [lss_h, lss_h, lss_h, ⟨false, 1, []⟩, lss_h] [.ops lss_n16 [7], .code lss_n17, .blk 6, .code lss_n20, .inv J4, .blk 5, .code lss_n28] ⟨[(125, .int .i64 0), (1, .slice (some ⟨b, o, none⟩) n2 cp2), (2, .slice K nk kcp), (6, .bool false), (8, (lss_p pb 0)), (12, .slice (some ⟨W3.heap.size, 0, none⟩) 6 6), (14, .int .i64 (j : Int)), (119, (lss_p pb 0)), (120, .int .i64 B), (124, .string (sec7 (nums j).v))], [⟨W3.heap.size, 9, true, (strsV (List.set now (Int.toNat B) (sec7 (nums j).v)))⟩], [], W7.heap.size⟩) = some ⟨[false = false, inR .i64 (((j : Int) + 1))], dupR [], [.inv J4, .blk 5, .code lss_n28], ⟨[(1, .slice (some ⟨b, o, none⟩) n2 cp2), (2, .slice K nk kcp), (6, .bool false), (8, (lss_p pb 0)), (12, .slice (some ⟨W3.heap.size, 0, none⟩) 6 6), (14, .int .i64 ((j : Int) + 1))], [⟨W3.heap.size, 9, true, (strsV (List.set now (Int.toNat B) (sec7 (nums j).v)))⟩], [], W7.heap.size⟩⟩ := by kernel_rfl
theorem lss_s54 (A : Option Addr) (n : Nat) (cp : Nat) (K : Option Addr) (nk : Nat) (kcp : Nat) (i : Nat) (pb : Nat) (W2 : World) (J : Act → World → Prop) (A2 : Option Addr) (n2 : Nat) (cp2 : Nat) : Res.prune [1, 2, 6, 8, 69] [] (exec Try.prog (bodyOf Try.f7) 140 20 [lss_h, lss_h, lss_h, lss_h, lss_h, ⟨true, 0, []⟩, ⟨true, 0, []⟩, ⟨false, 2, []⟩, lss_h, lss_h] [.code lss_n8, .inv J, .blk 0, .code [1, 1, 1, 1, 1]] ⟨[(0, .slice A n cp), (1, .slice A2 n2 cp2), (2, .slice K nk kcp), (6, .bool false), (8, (lss_p pb 0)), (10, .int .i64 (i : Int))], [], [], W2.heap.size⟩) = some ⟨[(decide (((i : Int) : Int) < (n : Int))) = true, (decide (((i : Int) : Int) < (n : Int))) = true, (decide (((i : Int) : Int) < (n : Int))) = true, (decide (((i : Int) : Int) < 60)) = false], dupR [], [.ops [1, 1, 1, 1, 1, 0] [1], .code [1, 1, 1, 1, 1, 1]], ⟨[(1, .slice A2 n2 cp2), (2, .slice K nk kcp), (6, .bool false), (8, (lss_p pb 0)), (69, (lss_p pb 0))], [], [], W2.heap.size⟩⟩ := by kernel_rfl
theorem lss_c55 (K : Option Addr) (nk : Nat) (kcp : Nat) (pb : Nat) (A2 : Option Addr) (n2 : Nat) (cp2 : Nat) : callAt Try.prog (opsOf (getCode (bodyOf Try.f7) [1, 1, 1, 1, 1, 0])) [(1, .slice A2 n2 cp2), (2, .slice K nk kcp), (6, .bool false), (8, (lss_p pb 0)), (69, (lss_p pb 0))] 1 = some (22, [(lss_p pb 0)], some 70, []) := by kernel_rfl
theorem lss_s56 (K : Option Addr) (nk : Nat) (kcp : Nat) (pb : Nat) (W3 : World) (A2 : Option Addr) (n2 : Nat) (cp2 : Nat) : Res.prune [1, 2, 6, 8, 12, 13] [] (exec Try.prog (bodyOf Try.f7) 140 15 [lss_h, lss_h, lss_h] [.ops [1, 1, 1, 1, 1, 0] [], .code [1, 1, 1, 1, 1, 1]] ⟨[(70, .tuple #[]), (1, .slice A2 n2 cp2), (2, .slice K nk kcp), (6, .bool false), (8, (lss_p pb 0)), (69, (lss_p pb 0))], [], [], W3.heap.size⟩) = some ⟨[], dupR [], [.code [1, 1, 1, 1, 1, 1, 1, 0, 1, 0], .blk 3, .code lss_n30], ⟨[(1, .slice A2 n2 cp2), (2, .slice K nk kcp), (6, .bool false), (8, (lss_p pb 0)), (12, .slice (some ⟨W3.heap.size, 0, none⟩) 6 6), (13, .int .i64 0)], [⟨W3.heap.size, 9, true, [.string ⟨#[]⟩, .string ⟨#[]⟩, .string ⟨#[]⟩, .string ⟨#[]⟩, .string ⟨#[]⟩, .string ⟨#[]⟩]⟩], [], W3.heap.size + 1⟩⟩ := by kernel_rfl
def LosesJ2 (K : Option Addr) (nk : Nat) (kcp : Nat) (pb : Nat) (W3 : World) (A2 : Option Addr) (n2 : Nat) (cp2 : Nat)  (m : Nat) (st : St) : Prop := ∃ (k z : Nat), m + k = 6 ∧ W3.heap.size + 1 ≤ z ∧ st = ⟨[(1, .slice A2 n2 cp2), (2, .slice K nk kcp), (6, .bool false), (8, (lss_p pb 0)), (12, .slice (some ⟨W3.heap.size, 0, none⟩) 6 6), (13, .int .i64 (k : Int))], [⟨W3.heap.size, 9, true, (strsV (init7 6 k))⟩], [], z⟩
theorem lss_s57 (K : Option Addr) (nk : Nat) (kcp : Nat) (k : Nat) (pb : Nat) (z : Nat) (W3 : World) (J2 : Act → World → Prop) (A2 : Option Addr) (n2 : Nat) (cp2 : Nat) : Res.prune [1, 2, 6, 8, 12, 13, 76, 77, 78] [] (exec Try.prog (bodyOf Try.f7) 140 17 [lss_h, lss_h, ⟨true, 0, []⟩, lss_h, lss_h, lss_h] [.code lss_n11, .inv J2, .blk 3, .code lss_n30] ⟨[(1, .slice A2 n2 cp2), (2, .slice K nk kcp), (6, .bool false), (8, (lss_p pb 0)), (12, .slice (some ⟨W3.heap.size, 0, none⟩) 6 6), (13, .int .i64 (k : Int))], [⟨W3.heap.size, 9, true, (strsV (init7 6 k))⟩], [], z⟩) = some ⟨[(decide (((k : Int) : Int) < 6)) = true], dupR [], [.ops lss_n9 [3, 4, 5], .blk 4, .code lss_n10, .inv J2, .blk 3, .code lss_n30], ⟨[(1, .slice A2 n2 cp2), (2, .slice K nk kcp), (6, .bool false), (8, (lss_p pb 0)), (12, .slice (some ⟨W3.heap.size, 0, none⟩) 6 6), (13, .int .i64 (k : Int)), (76, .slice (some ⟨W3.heap.size, 0, none⟩) 6 6), (77, .int .i64 (k : Int)), (78, .slice (some ⟨z, 0, none⟩) 64 64)], [⟨W3.heap.size, 9, true, (strsV (init7 6 k))⟩, ⟨z, 5, true, (lss_v1)⟩], [], z + 1⟩⟩ := by kernel_rfl
theorem lss_s59 (K : Option Addr) (nk : Nat) (kcp : Nat) (k : Nat) (pb : Nat) (z : Nat) (W3 : World) (J2 : Act → World → Prop) (A2 : Option Addr) (n2 : Nat) (cp2 : Nat) : Res.prune [1, 2, 6, 8, 12, 13, 79, 80] [] (exec Try.prog (bodyOf Try.f7) 140 4 [⟨false, 1, []⟩] [.ops lss_n9 [4, 5], .blk 4, .code lss_n10, .inv J2, .blk 3, .code lss_n30] ⟨[(79, .string zero64), (1, .slice A2 n2 cp2), (2, .slice K nk kcp), (6, .bool false), (8, (lss_p pb 0)), (12, .slice (some ⟨W3.heap.size, 0, none⟩) 6 6), (13, .int .i64 (k : Int)), (76, .slice (some ⟨W3.heap.size, 0, none⟩) 6 6), (77, .int .i64 (k : Int)), (78, .slice (some ⟨z, 0, none⟩) 64 64)], [⟨W3.heap.size, 9, true, (strsV (init7 6 k))⟩, ⟨z, 5, true, (lss_v1)⟩], [], z + 1⟩) = some ⟨[(0 : Int) ≤ (k : Int) ∧ (k : Int) < ((6 : Nat) : Int)], dupR [], [.ops lss_n9 [5], .blk 4, .code lss_n10, .inv J2, .blk 3, .code lss_n30], ⟨[(1, .slice A2 n2 cp2), (2, .slice K nk kcp), (6, .bool false), (8, (lss_p pb 0)), (12, .slice (some ⟨W3.heap.size, 0, none⟩) 6 6), (13, .int .i64 (k : Int)), (79, .string zero64), (80, .pointer (some ⟨W3.heap.size, 0 + k * 1, none⟩))], [⟨W3.heap.size, 9, true, (strsV (init7 6 k))⟩, ⟨z, 5, true, (lss_v1)⟩], [], z + 1⟩⟩ := by kernel_rfl
theorem lss_s61 (K : Option Addr) (nk : Nat) (kcp : Nat) (k : Nat) (pb : Nat) (z : Nat) (W3 : World) (J2 : Act → World → Prop) (A2 : Option Addr) (n2 : Nat) (cp2 : Nat) (z60 : Nat) : Res.prune [1, 2, 6, 8, 12, 13] [] (exec Try.prog (bodyOf Try.f7) 140 10 [lss_h, ⟨false, 1, []⟩, lss_h] [.ops lss_n9 [], .blk 4, .code lss_n10, .inv J2, .blk 3, .code lss_n30] ⟨[(1, .slice A2 n2 cp2), (2, .slice K nk kcp), (6, .bool false), (8, (lss_p pb 0)), (12, .slice (some ⟨W3.heap.size, 0, none⟩) 6 6), (13, .int .i64 (k : Int)), (79, .string zero64), (80, .pointer (some ⟨W3.heap.size, 0 + k * 1, none⟩))], [⟨W3.heap.size, 9, true, (strsV (init7 6 (k + 1)))⟩, ⟨z, 5, true, (lss_v1)⟩], [], z60⟩) = some ⟨[inR .i64 (((k : Int) + 1))], dupR [], [.inv J2, .blk 3, .code lss_n30], ⟨[(1, .slice A2 n2 cp2), (2, .slice K nk kcp), (6, .bool false), (8, (lss_p pb 0)), (12, .slice (some ⟨W3.heap.size, 0, none⟩) 6 6), (13, .int .i64 ((k : Int) + 1))], [⟨W3.heap.size, 9, true, (strsV (init7 6 (k + 1)))⟩, ⟨z, 5, true, (lss_v1)⟩], [], z60⟩⟩ := by kernel_rfl
theorem lss_s62 (K : Option Addr) (nk : Nat) (kcp : Nat) (k : Nat) (pb : Nat) (z : Nat) (W3 : World) (J2 : Act → World → Prop) (A2 : Option Addr) (n2 : Nat) (cp2 : Nat) : Res.prune [1, 2, 6, 8, 12, 81] [] (exec Try.prog (bodyOf Try.f7) 140 15 [lss_h, lss_h, lss_h, lss_h] [.code lss_n11, .inv J2, .blk 3, .code lss_n30] ⟨[(1, .slice A2 n2 cp2), (2, .slice K nk kcp), (6, .bool false), (8, (lss_p pb 0)), (12, .slice (some ⟨W3.heap.size, 0, none⟩) 6 6), (13, .int .i64 (k : Int))], [⟨W3.heap.size, 9, true, (strsV (init7 6 k))⟩], [], z⟩) = some ⟨[(decide (((k : Int) : Int) < 6)) = false], dupR [], [.ops lss_n12 [1, 2, 3, 4, 5, 6, 7, 8, 9, 10, 11, 12, 13, 14], .code lss_n13, .code lss_n29], ⟨[(1, .slice A2 n2 cp2), (2, .slice K nk kcp), (6, .bool false), (8, (lss_p pb 0)), (12, .slice (some ⟨W3.heap.size, 0, none⟩) 6 6), (81, (lss_p pb 0))], [⟨W3.heap.size, 9, true, (strsV (init7 6 k))⟩], [], z⟩⟩ := by kernel_rfl
theorem lss_c63 (K : Option Addr) (nk : Nat) (kcp : Nat) (pb : Nat) (W3 : World) (A2 : Option Addr) (n2 : Nat) (cp2 : Nat) : callAt Try.prog (opsOf (getCode (bodyOf Try.f7) lss_n12)) [(1, .slice A2 n2 cp2), (2, .slice K nk kcp), (6, .bool false), (8, (lss_p pb 0)), (12, .slice (some ⟨W3.heap.size, 0, none⟩) 6 6), (81, (lss_p pb 0))] 1 = some (15, [(lss_p pb 0)], some 82, []) := by kernel_rfl
theorem lss_s64 (K : Option Addr) (nk : Nat) (kcp : Nat) (k : Nat) (pb : Nat) (W3 : World) (A2 : Option Addr) (n2 : Nat) (cp2 : Nat) (z63 : Nat) : Res.prune [1, 2, 6, 8, 12, 83, 84] [] (exec Try.prog (bodyOf Try.f7) 140 5 [lss_h, lss_h] [.ops lss_n12 [2, 3, 4, 5, 6, 7, 8, 9, 10, 11, 12, 13, 14], .code lss_n13, .code lss_n29] ⟨[(82, .bool false), (1, .slice A2 n2 cp2), (2, .slice K nk kcp), (6, .bool false), (8, (lss_p pb 0)), (12, .slice (some ⟨W3.heap.size, 0, none⟩) 6 6), (81, (lss_p pb 0))], [⟨W3.heap.size, 9, true, (strsV (init7 6 k))⟩], [], z63⟩) = some ⟨[false = false], dupR [], [.ops lss_n12 [4, 5, 6, 7, 8, 9, 10, 11, 12, 13, 14], .code lss_n13, .code lss_n29], ⟨[(1, .slice A2 n2 cp2), (2, .slice K nk kcp), (6, .bool false), (8, (lss_p pb 0)), (12, .slice (some ⟨W3.heap.size, 0, none⟩) 6 6), (83, .bool false), (84, (lss_p pb 0))], [⟨W3.heap.size, 9, true, (strsV (init7 6 k))⟩], [], z63⟩⟩ := by kernel_rfl
theorem lss_c65 (K : Option Addr) (nk : Nat) (kcp : Nat) (pb : Nat) (W3 : World) (A2 : Option Addr) (n2 : Nat) (cp2 : Nat) : callAt Try.prog (opsOf (getCode (bodyOf Try.f7) lss_n12)) [(1, .slice A2 n2 cp2), (2, .slice K nk kcp), (6, .bool false), (8, (lss_p pb 0)), (12, .slice (some ⟨W3.heap.size, 0, none⟩) 6 6), (83, .bool false), (84, (lss_p pb 0))] 4 = some (20, [(lss_p pb 0)], some 85, [false = false]) := by kernel_rfl
theorem lss_s66 (K : Option Addr) (nk : Nat) (kcp : Nat) (k : Nat) (pb : Nat) (W3 : World) (W4 : World) (yc : Option Addr × Nat) (A2 : Option Addr) (n2 : Nat) (cp2 : Nat) : Res.prune [1, 2, 6, 8, 12, 89, 90] [] (exec Try.prog (bodyOf Try.f7) 140 8 [lss_h, lss_h, ⟨false, 3, []⟩, lss_h, lss_h] [.ops lss_n12 [5, 6, 7, 8, 9, 10, 11, 12, 13, 14], .code lss_n13, .code lss_n29] ⟨[(85, .slice yc.1 0 yc.2), (1, .slice A2 n2 cp2), (2, .slice K nk kcp), (6, .bool false), (8, (lss_p pb 0)), (12, .slice (some ⟨W3.heap.size, 0, none⟩) 6 6), (83, .bool false), (84, (lss_p pb 0))], [⟨W3.heap.size, 9, true, (strsV (init7 6 k))⟩], [], W4.heap.size⟩) = some ⟨[false = false, false = false, false = false, ((0 : Int) != 0) = false], dupR [], [.ops lss_n12 [10, 11, 12, 13, 14], .code lss_n13, .code lss_n29], ⟨[(1, .slice A2 n2 cp2), (2, .slice K nk kcp), (6, .bool false), (8, (lss_p pb 0)), (12, .slice (some ⟨W3.heap.size, 0, none⟩) 6 6), (89, .bool ((0 : Int) != 0)), (90, (lss_p pb 0))], [⟨W3.heap.size, 9, true, (strsV (init7 6 k))⟩], [], W4.heap.size⟩⟩ := by kernel_rfl
theorem lss_c67 (K : Option Addr) (nk : Nat) (kcp : Nat) (pb : Nat) (W3 : World) (A2 : Option Addr) (n2 : Nat) (cp2 : Nat) : callAt Try.prog (opsOf (getCode (bodyOf Try.f7) lss_n12)) [(1, .slice A2 n2 cp2), (2, .slice K nk kcp), (6, .bool false), (8, (lss_p pb 0)), (12, .slice (some ⟨W3.heap.size, 0, none⟩) 6 6), (89, .bool ((0 : Int) != 0)), (90, (lss_p pb 0))] 10 = some (19, [(lss_p pb 0)], some 91, [((0 : Int) != 0) = false]) := by kernel_rfl
theorem lss_s68 (K : Option Addr) (nk : Nat) (kcp : Nat) (k : Nat) (pb : Nat) (W3 : World) (W5 : World) (g1 : Nat) (A2 : Option Addr) (n2 : Nat) (cp2 : Nat) : Res.prune [1, 2, 6, 8, 12, 89, 91, 92] [] (exec Try.prog (bodyOf Try.f7) 140 4 [lss_h] [.ops lss_n12 [11, 12, 13, 14], .code lss_n13, .code lss_n29] ⟨[(91, .slice (some ⟨g1, 0, none⟩) 6 6), (1, .slice A2 n2 cp2), (2, .slice K nk kcp), (6, .bool false), (8, (lss_p pb 0)), (12, .slice (some ⟨W3.heap.size, 0, none⟩) 6 6), (89, .bool ((0 : Int) != 0)), (90, (lss_p pb 0))], [⟨W3.heap.size, 9, true, (strsV (init7 6 k))⟩, ⟨g1, 9, true, (strsV (init7 6 k))⟩], [], W5.heap.size⟩) = some ⟨[((0 : Int) != 0) = false], dupR [], [.ops lss_n12 [12, 13, 14], .code lss_n13, .code lss_n29], ⟨[(1, .slice A2 n2 cp2), (2, .slice K nk kcp), (6, .bool false), (8, (lss_p pb 0)), (12, .slice (some ⟨W3.heap.size, 0, none⟩) 6 6), (89, .bool ((0 : Int) != 0)), (91, .slice (some ⟨g1, 0, none⟩) 6 6), (92, .slice (some ⟨W3.heap.size, 0, none⟩) 6 6)], [⟨W3.heap.size, 9, true, (strsV (init7 6 k))⟩, ⟨g1, 9, true, (strsV (init7 6 k))⟩], [], W5.heap.size⟩⟩ := by kernel_rfl
theorem lss_c69 (K : Option Addr) (nk : Nat) (kcp : Nat) (pb : Nat) (W3 : World) (g1 : Nat) (A2 : Option Addr) (n2 : Nat) (cp2 : Nat) : callAt Try.prog (opsOf (getCode (bodyOf Try.f7) lss_n12)) [(1, .slice A2 n2 cp2), (2, .slice K nk kcp), (6, .bool false), (8, (lss_p pb 0)), (12, .slice (some ⟨W3.heap.size, 0, none⟩) 6 6), (89, .bool ((0 : Int) != 0)), (91, .slice (some ⟨g1, 0, none⟩) 6 6), (92, .slice (some ⟨W3.heap.size, 0, none⟩) 6 6)] 12 = some (21, [.slice (some ⟨g1, 0, none⟩) 6 6, .slice (some ⟨W3.heap.size, 0, none⟩) 6 6], some 93, [((0 : Int) != 0) = false]) := by kernel_rfl
theorem lss_s70 (K : Option Addr) (nk : Nat) (kcp : Nat) (k : Nat) (pb : Nat) (W3 : World) (g1 : Nat) (A2 : Option Addr) (n2 : Nat) (cp2 : Nat) (z69 : Nat) : Res.prune [1, 2, 6, 8, 12, 14] [] (exec Try.prog (bodyOf Try.f7) 140 14 [lss_h, ⟨false, 3, []⟩, lss_h, lss_h] [.ops lss_n12 [13, 14], .code lss_n13, .code lss_n29] ⟨[(93, .bool true), (1, .slice A2 n2 cp2), (2, .slice K nk kcp), (6, .bool false), (8, (lss_p pb 0)), (12, .slice (some ⟨W3.heap.size, 0, none⟩) 6 6), (89, .bool ((0 : Int) != 0)), (91, .slice (some ⟨g1, 0, none⟩) 6 6), (92, .slice (some ⟨W3.heap.size, 0, none⟩) 6 6)], [⟨W3.heap.size, 9, true, (strsV (init7 6 k))⟩, ⟨g1, 9, true, (strsV (init7 6 k))⟩], [], z69⟩) = some ⟨[((0 : Int) != 0) = false, ((0 : Int) != 0) = false, false = false], dupR [], [.code [1, 1, 1, 1, 1, 1, 1, 1, 1, 0, 1, 0], .blk 5, .code lss_n28], ⟨[(1, .slice A2 n2 cp2), (2, .slice K nk kcp), (6, .bool false), (8, (lss_p pb 0)), (12, .slice (some ⟨W3.heap.size, 0, none⟩) 6 6), (14, .int .i64 0)], [⟨W3.heap.size, 9, true, (strsV (init7 6 k))⟩, ⟨g1, 9, true, (strsV (init7 6 k))⟩], [], z69⟩⟩ := by kernel_rfl
def LosesK2 (K : Option Addr) (nk : Nat) (kcp : Nat) (lb : Nat) (mb : Nat) (pb : Nat) (W3 : World) (A2 : Option Addr) (n2 : Nat) (cp2 : Nat)  (m : Nat) (st : St) (W1 : World) : Prop :=
  ∃ (j : Nat) (M2 : Pl) (now : List ByteArray) (z : Nat), m + j = 30 ∧ j ≤ n2 ∧ LkM lb mb M2 now j ∧ PlatAt 53 56 W1 pb M2 ∧ st = ⟨[(1, .slice A2 n2 cp2), (2, .slice K nk kcp), (6, .bool false), (8, (lss_p pb 0)), (12, .slice (some ⟨W3.heap.size, 0, none⟩) 6 6), (14, .int .i64 (j : Int))], [⟨W3.heap.size, 9, true, (strsV now)⟩], [], z⟩
theorem lss_s71 (K : Option Addr) (nk : Nat) (kcp : Nat) (pb : Nat) (now : List ByteArray) (W3 : World) (W6 : World) (A2 : Option Addr) (n2 : Nat) (cp2 : Nat) (j : Nat) (J4 : Act → World → Prop) : Res.prune [2, 6, 8, 12, 127] [] (exec Try.prog (bodyOf Try.f7) 140 20 [lss_h, lss_h, lss_h, lss_h, lss_h, lss_h, lss_h, ⟨false, 3, []⟩, lss_h, lss_h] [.code lss_n21, .inv J4, .blk 5, .code lss_n28] ⟨[(1, .slice A2 n2 cp2), (2, .slice K nk kcp), (6, .bool false), (8, (lss_p pb 0)), (12, .slice (some ⟨W3.heap.size, 0, none⟩) 6 6), (14, .int .i64 (j : Int))], [⟨W3.heap.size, 9, true, (strsV now)⟩], [], W6.heap.size⟩) = some ⟨[(decide (((j : Int) : Int) < (n2 : Int))) = false, (decide (((j : Int) : Int) < (n2 : Int))) = false, (decide (((j : Int) : Int) < (n2 : Int))) = false, false = false], dupR [], [.ops lss_n22 [1, 2], .code lss_n27], ⟨[(2, .slice K nk kcp), (6, .bool false), (8, (lss_p pb 0)), (12, .slice (some ⟨W3.heap.size, 0, none⟩) 6 6), (127, (lss_p pb 0))], [⟨W3.heap.size, 9, true, (strsV now)⟩], [], W6.heap.size⟩⟩ := by kernel_rfl
theorem lss_c72 (K : Option Addr) (nk : Nat) (kcp : Nat) (pb : Nat) (W3 : World) : callAt Try.prog (opsOf (getCode (bodyOf Try.f7) lss_n22)) [(2, .slice K nk kcp), (6, .bool false), (8, (lss_p pb 0)), (12, .slice (some ⟨W3.heap.size, 0, none⟩) 6 6), (127, (lss_p pb 0))] 1 = some (14, [(lss_p pb 0)], some 128, []) := by kernel_rfl
theorem lss_s73 (K : Option Addr) (nk : Nat) (kcp : Nat) (pb : Nat) (now : List ByteArray) (W3 : World) (W7 : World) : Res.prune [6, 8, 12, 16, 129, 130] [] (exec Try.prog (bodyOf Try.f7) 140 9 [lss_h, lss_h, lss_h] [.ops lss_n22 [2], .code lss_n27] ⟨[(128, .int .i64 0), (2, .slice K nk kcp), (6, .bool false), (8, (lss_p pb 0)), (12, .slice (some ⟨W3.heap.size, 0, none⟩) 6 6), (127, (lss_p pb 0))], [⟨W3.heap.size, 9, true, (strsV now)⟩], [], W7.heap.size⟩) = some ⟨[], dupR [], [.ops lss_n23 [2], .code lss_n26], ⟨[(6, .bool false), (8, (lss_p pb 0)), (12, .slice (some ⟨W3.heap.size, 0, none⟩) 6 6), (16, .int .i64 0), (129, (lss_p pb 0)), (130, .slice K nk kcp)], [⟨W3.heap.size, 9, true, (strsV now)⟩], [], W7.heap.size⟩⟩ := by kernel_rfl
theorem lss_c74 (K : Option Addr) (nk : Nat) (kcp : Nat) (pb : Nat) (W3 : World) : callAt Try.prog (opsOf (getCode (bodyOf Try.f7) lss_n23)) [(6, .bool false), (8, (lss_p pb 0)), (12, .slice (some ⟨W3.heap.size, 0, none⟩) 6 6), (16, .int .i64 0), (129, (lss_p pb 0)), (130, .slice K nk kcp)] 2 = some (16, [(lss_p pb 0), .slice K nk kcp], some 131, []) := by kernel_rfl
theorem lss_s75 (K : Option Addr) (nk : Nat) (kcp : Nat) (pb : Nat) (now : List ByteArray) (W3 : World) (W8 : World) : Res.prune [6, 12, 134, 135] [] (exec Try.prog (bodyOf Try.f7) 140 10 [lss_h, lss_h, lss_h, ⟨true, 0, []⟩] [.ops lss_n23 [], .code lss_n26] ⟨[(131, .tuple #[]), (6, .bool false), (8, (lss_p pb 0)), (12, .slice (some ⟨W3.heap.size, 0, none⟩) 6 6), (16, .int .i64 0), (129, (lss_p pb 0)), (130, .slice K nk kcp)], [⟨W3.heap.size, 9, true, (strsV now)⟩], [], W8.heap.size⟩) = some ⟨[true = true], dupR [], [.ops lss_n24 [4, 5, 6, 7, 8], .code lss_n25], ⟨[(6, .bool false), (12, .slice (some ⟨W3.heap.size, 0, none⟩) 6 6), (134, .bool true), (135, (lss_p pb 0))], [⟨W3.heap.size, 9, true, (strsV now)⟩], [], W8.heap.size⟩⟩ := by kernel_rfl
theorem lss_c76 (pb : Nat) (W3 : World) : callAt Try.prog (opsOf (getCode (bodyOf Try.f7) lss_n24)) [(6, .bool false), (12, .slice (some ⟨W3.heap.size, 0, none⟩) 6 6), (134, .bool true), (135, (lss_p pb 0))] 4 = some (19, [(lss_p pb 0)], some 136, [true = true]) := by kernel_rfl
theorem lss_s77 (pb : Nat) (now : List ByteArray) (W3 : World) (W9 : World) (g2 : Nat) : Res.prune [6, 134, 136, 137] [] (exec Try.prog (bodyOf Try.f7) 140 4 [⟨true, 0, []⟩] [.ops lss_n24 [5, 6, 7, 8], .code lss_n25] ⟨[(136, .slice (some ⟨g2, 0, none⟩) 6 6), (6, .bool false), (12, .slice (some ⟨W3.heap.size, 0, none⟩) 6 6), (134, .bool true), (135, (lss_p pb 0))], [⟨W3.heap.size, 9, true, (strsV now)⟩, ⟨g2, 9, true, (strsV now)⟩], [], W9.heap.size⟩) = some ⟨[true = true], dupR [], [.ops lss_n24 [6, 7, 8], .code lss_n25], ⟨[(6, .bool false), (134, .bool true), (136, .slice (some ⟨g2, 0, none⟩) 6 6), (137, .slice (some ⟨W3.heap.size, 0, none⟩) 6 6)], [⟨W3.heap.size, 9, true, (strsV now)⟩, ⟨g2, 9, true, (strsV now)⟩], [], W9.heap.size⟩⟩ := by kernel_rfl
theorem lss_c78 (W3 : World) (g2 : Nat) : callAt Try.prog (opsOf (getCode (bodyOf Try.f7) lss_n24)) [(6, .bool false), (134, .bool true), (136, .slice (some ⟨g2, 0, none⟩) 6 6), (137, .slice (some ⟨W3.heap.size, 0, none⟩) 6 6)] 6 = some (21, [.slice (some ⟨g2, 0, none⟩) 6 6, .slice (some ⟨W3.heap.size, 0, none⟩) 6 6], some 138, [true = true]) := by kernel_rfl
theorem lss_s79 (now : List ByteArray) (W3 : World) (g2 : Nat) (z78 : Nat) : Res.prune [6] [] (exec Try.prog (bodyOf Try.f7) 140 6 [⟨false, 2, []⟩, lss_h] [.ops lss_n24 [7, 8], .code lss_n25] ⟨[(138, .bool true), (6, .bool false), (134, .bool true), (136, .slice (some ⟨g2, 0, none⟩) 6 6), (137, .slice (some ⟨W3.heap.size, 0, none⟩) 6 6)], [⟨W3.heap.size, 9, true, (strsV now)⟩, ⟨g2, 9, true, (strsV now)⟩], [], z78⟩) = some ⟨[true = true], dupR [], [.code lss_n25], ⟨[(6, .bool true)], [⟨W3.heap.size, 9, true, (strsV now)⟩, ⟨g2, 9, true, (strsV now)⟩], [], z78⟩⟩ := by kernel_rfl
theorem lss_r80 (now : List ByteArray) (W3 : World) (g2 : Nat) : resL Try.prog [] [⟨W3.heap.size, 9, true, (strsV now)⟩, ⟨g2, 9, true, (strsV now)⟩] [(6, .bool true)] Try.f7.results.toList [] = some ([.bool true], dupR []) := by kernel_rfl
theorem lss_s81 (K : Option Addr) (nk : Nat) (kcp : Nat) (pb : Nat) (now : List ByteArray) (W3 : World) (W6 : World) (A2 : Option Addr) (n2 : Nat) (cp2 : Nat) (j : Nat) (J4 : Act → World → Prop) : Res.prune [2, 6, 8, 12, 127] [] (exec Try.prog (bodyOf Try.f7) 140 20 [lss_h, lss_h, lss_h, lss_h, lss_h, ⟨true, 0, []⟩, ⟨true, 0, []⟩, ⟨false, 2, []⟩, lss_h, lss_h] [.code lss_n21, .inv J4, .blk 5, .code lss_n28] ⟨[(1, .slice A2 n2 cp2), (2, .slice K nk kcp), (6, .bool false), (8, (lss_p pb 0)), (12, .slice (some ⟨W3.heap.size, 0, none⟩) 6 6), (14, .int .i64 (j : Int))], [⟨W3.heap.size, 9, true, (strsV now)⟩], [], W6.heap.size⟩) = some ⟨[(decide (((j : Int) : Int) < (n2 : Int))) = true, (decide (((j : Int) : Int) < (n2 : Int))) = true, (decide (((j : Int) : Int) < (n2 : Int))) = true, (decide (((j : Int) : Int) < 30)) = false], dupR [], [.ops lss_n22 [1, 2], .code lss_n27], ⟨[(2, .slice K nk kcp), (6, .bool false), (8, (lss_p pb 0)), (12, .slice (some ⟨W3.heap.size, 0, none⟩) 6 6), (127, (lss_p pb 0))], [⟨W3.heap.size, 9, true, (strsV now)⟩], [], W6.heap.size⟩⟩ := by kernel_rfl
theorem lss_c82 (K : Option Addr) (nk : Nat) (kcp : Nat) (pb : Nat) (W3 : World) : callAt Try.prog (opsOf (getCode (bodyOf Try.f7) lss_n22)) [(2, .slice K nk kcp), (6, .bool false), (8, (lss_p pb 0)), (12, .slice (some ⟨W3.heap.size, 0, none⟩) 6 6), (127, (lss_p pb 0))] 1 = some (14, [(lss_p pb 0)], some 128, []) := by kernel_rfl
theorem lss_s83 (K : Option Addr) (nk : Nat) (kcp : Nat) (pb : Nat) (now : List ByteArray) (W3 : World) (W7 : World) : Res.prune [6, 8, 12, 16, 129, 130] [] (exec Try.prog (bodyOf Try.f7) 140 9 [lss_h, lss_h, lss_h] [.ops lss_n22 [2], .code lss_n27] ⟨[(128, .int .i64 0), (2, .slice K nk kcp), (6, .bool false), (8, (lss_p pb 0)), (12, .slice (some ⟨W3.heap.size, 0, none⟩) 6 6), (127, (lss_p pb 0))], [⟨W3.heap.size, 9, true, (strsV now)⟩], [], W7.heap.size⟩) = some ⟨[], dupR [], [.ops lss_n23 [2], .code lss_n26], ⟨[(6, .bool false), (8, (lss_p pb 0)), (12, .slice (some ⟨W3.heap.size, 0, none⟩) 6 6), (16, .int .i64 0), (129, (lss_p pb 0)), (130, .slice K nk kcp)], [⟨W3.heap.size, 9, true, (strsV now)⟩], [], W7.heap.size⟩⟩ := by kernel_rfl
theorem lss_c84 (K : Option Addr) (nk : Nat) (kcp : Nat) (pb : Nat) (W3 : World) : callAt Try.prog (opsOf (getCode (bodyOf Try.f7) lss_n23)) [(6, .bool false), (8, (lss_p pb 0)), (12, .slice (some ⟨W3.heap.size, 0, none⟩) 6 6), (16, .int .i64 0), (129, (lss_p pb 0)), (130, .slice K nk kcp)] 2 = some (16, [(lss_p pb 0), .slice K nk kcp], some 131, []) := by kernel_rfl
theorem lss_s85 (K : Option Addr) (nk : Nat) (kcp : Nat) (pb : Nat) (now : List ByteArray) (W3 : World) (W8 : World) : Res.prune [6, 12, 134, 135] [] (exec Try.prog (bodyOf Try.f7) 140 10 [lss_h, lss_h, lss_h, ⟨true, 0, []⟩] [.ops lss_n23 [], .code lss_n26] ⟨[(131, .tuple #[]), (6, .bool false), (8, (lss_p pb 0)), (12, .slice (some ⟨W3.heap.size, 0, none⟩) 6 6), (16, .int .i64 0), (129, (lss_p pb 0)), (130, .slice K nk kcp)], [⟨W3.heap.size, 9, true, (strsV now)⟩], [], W8.heap.size⟩) = some ⟨[true = true], dupR [], [.ops lss_n24 [4, 5, 6, 7, 8], .code lss_n25], ⟨[(6, .bool false), (12, .slice (some ⟨W3.heap.size, 0, none⟩) 6 6), (134, .bool true), (135, (lss_p pb 0))], [⟨W3.heap.size, 9, true, (strsV now)⟩], [], W8.heap.size⟩⟩ := by kernel_rfl
theorem lss_c86 (pb : Nat) (W3 : World) : callAt Try.prog (opsOf (getCode (bodyOf Try.f7) lss_n24)) [(6, .bool false), (12, .slice (some ⟨W3.heap.size, 0, none⟩) 6 6), (134, .bool true), (135, (lss_p pb 0))] 4 = some (19, [(lss_p pb 0)], some 136, [true = true]) := by kernel_rfl
theorem lss_s87 (pb : Nat) (now : List ByteArray) (W3 : World) (W9 : World) (g2 : Nat) : Res.prune [6, 134, 136, 137] [] (exec Try.prog (bodyOf Try.f7) 140 4 [⟨true, 0, []⟩] [.ops lss_n24 [5, 6, 7, 8], .code lss_n25] ⟨[(136, .slice (some ⟨g2, 0, none⟩) 6 6), (6, .bool false), (12, .slice (some ⟨W3.heap.size, 0, none⟩) 6 6), (134, .bool true), (135, (lss_p pb 0))], [⟨W3.heap.size, 9, true, (strsV now)⟩, ⟨g2, 9, true, (strsV now)⟩], [], W9.heap.size⟩) = some ⟨[true = true], dupR [], [.ops lss_n24 [6, 7, 8], .code lss_n25], ⟨[(6, .bool false), (134, .bool true), (136, .slice (some ⟨g2, 0, none⟩) 6 6), (137, .slice (some ⟨W3.heap.size, 0, none⟩) 6 6)], [⟨W3.heap.size, 9, true, (strsV now)⟩, ⟨g2, 9, true, (strsV now)⟩], [], W9.heap.size⟩⟩ := by kernel_rfl
theorem lss_c88 (W3 : World) (g2 : Nat) : callAt Try.prog (opsOf (getCode (bodyOf Try.f7) lss_n24)) [(6, .bool false), (134, .bool true), (136, .slice (some ⟨g2, 0, none⟩) 6 6), (137, .slice (some ⟨W3.heap.size, 0, none⟩) 6 6)] 6 = some (21, [.slice (some ⟨g2, 0, none⟩) 6 6, .slice (some ⟨W3.heap.size, 0, none⟩) 6 6], some 138, [true = true]) := by kernel_rfl
theorem lss_s89 (now : List ByteArray) (W3 : World) (g2 : Nat) (z88 : Nat) : Res.prune [6] [] (exec Try.prog (bodyOf Try.f7) 140 6 [⟨false, 2, []⟩, lss_h] [.ops lss_n24 [7, 8], .code lss_n25] ⟨[(138, .bool true), (6, .bool false), (134, .bool true), (136, .slice (some ⟨g2, 0, none⟩) 6 6), (137, .slice (some ⟨W3.heap.size, 0, none⟩) 6 6)], [⟨W3.heap.size, 9, true, (strsV now)⟩, ⟨g2, 9, true, (strsV now)⟩], [], z88⟩) = some ⟨[true = true], dupR [], [.code lss_n25], ⟨[(6, .bool true)], [⟨W3.heap.size, 9, true, (strsV now)⟩, ⟨g2, 9, true, (strsV now)⟩], [], z88⟩⟩ := by kernel_rfl
theorem lss_r90 (now : List ByteArray) (W3 : World) (g2 : Nat) : resL Try.prog [] [⟨W3.heap.size, 9, true, (strsV now)⟩, ⟨g2, 9, true, (strsV now)⟩] [(6, .bool true)] Try.f7.results.toList [] = some ([.bool true], dupR []) := by kernel_rfl
theorem lss_s91 (K : Option Addr) (nk : Nat) (kcp : Nat) (b : Nat) (o : Nat) (nums : Nat → Num1) (pb : Nat) (now : List ByteArray) (W3 : World) (W6 : World) (n2 : Nat) (cp2 : Nat) (j : Nat) (J4 : Act → World → Prop) : Res.prune [1, 2, 6, 8, 12, 14, 109] [] (exec Try.prog (bodyOf Try.f7) 140 25 [lss_h, lss_h, lss_h, lss_h, lss_h, ⟨true, 0, []⟩, ⟨true, 0, []⟩, ⟨false, 2, []⟩, ⟨true, 0, []⟩, lss_h, lss_h, ⟨false, 1, []⟩, ⟨false, 0, [⟨true, 0, 0, 1⟩]⟩] [.code lss_n21, .inv J4, .blk 5, .code lss_n28] ⟨[(1, .slice (some ⟨b, o, none⟩) n2 cp2), (2, .slice K nk kcp), (6, .bool false), (8, (lss_p pb 0)), (12, .slice (some ⟨W3.heap.size, 0, none⟩) 6 6), (14, .int .i64 (j : Int))], [⟨W3.heap.size, 9, true, (strsV now)⟩], [⟨b, o + j * 1, [.int .i64 ((nums j).v)]⟩], W6.heap.size⟩) = some ⟨[(decide (((j : Int) : Int) < (n2 : Int))) = true, (decide (((j : Int) : Int) < (n2 : Int))) = true, (decide (((j : Int) : Int) < (n2 : Int))) = true, (decide (((j : Int) : Int) < 30)) = true, (0 : Int) ≤ (j : Int) ∧ (j : Int) < ((n2 : Nat) : Int)], dupR [(b, o + j * 1, 1)], [.ops lss_n14 [4, 5], .code lss_n19, .blk 6, .code lss_n20, .inv J4, .blk 5, .code lss_n28], ⟨[(1, .slice (some ⟨b, o, none⟩) n2 cp2), (2, .slice K nk kcp), (6, .bool false), (8, (lss_p pb 0)), (12, .slice (some ⟨W3.heap.size, 0, none⟩) 6 6), (14, .int .i64 (j : Int)), (109, .int .i64 ((nums j).v))], [⟨W3.heap.size, 9, true, (strsV now)⟩], [⟨b, o + j * 1, [.int .i64 ((nums j).v)]⟩], W6.heap.size⟩⟩ := by kernel_rfl
theorem lss_c92 (K : Option Addr) (nk : Nat) (kcp : Nat) (b : Nat) (o : Nat) (nums : Nat → Num1) (pb : Nat) (W3 : World) (n2 : Nat) (cp2 : Nat) (j : Nat) : callAt Try.prog (opsOf (getCode (bodyOf Try.f7) lss_n14)) [(1, .slice (some ⟨b, o, none⟩) n2 cp2), (2, .slice K nk kcp), (6, .bool false), (8, (lss_p pb 0)), (12, .slice (some ⟨W3.heap.size, 0, none⟩) 6 6), (14, .int .i64 (j : Int)), (109, .int .i64 ((nums j).v))] 4 = some (10, [.int .i64 ((nums j).v), .int .i64 6], some 110, []) := by kernel_rfl
theorem lss_s93 (K : Option Addr) (nk : Nat) (kcp : Nat) (b : Nat) (o : Nat) (nums : Nat → Num1) (B : Int) (pb : Nat) (now : List ByteArray) (W3 : World) (n2 : Nat) (cp2 : Nat) (j : Nat) (J4 : Act → World → Prop) (z92 : Nat) : Res.prune [1, 2, 6, 8, 12, 14, 15, 111, 112, 116] [] (exec Try.prog (bodyOf Try.f7) 140 13 [lss_h, lss_h, lss_h, lss_h, lss_h, ⟨false, 1, []⟩, ⟨false, 0, [⟨true, 0, 0, 1⟩]⟩] [.ops lss_n14 [5], .code lss_n19, .blk 6, .code lss_n20, .inv J4, .blk 5, .code lss_n28] ⟨[(110, .int .i64 B), (1, .slice (some ⟨b, o, none⟩) n2 cp2), (2, .slice K nk kcp), (6, .bool false), (8, (lss_p pb 0)), (12, .slice (some ⟨W3.heap.size, 0, none⟩) 6 6), (14, .int .i64 (j : Int)), (109, .int .i64 ((nums j).v))], [⟨W3.heap.size, 9, true, (strsV now)⟩], [⟨b, o + j * 1, [.int .i64 ((nums j).v)]⟩], z92⟩) = some ⟨[(0 : Int) ≤ (j : Int) ∧ (j : Int) < ((n2 : Nat) : Int)], dupR [(b, o + j * 1, 1)], [.ops lss_n15 [6, 7, 8], .code lss_n18, .blk 6, .code lss_n20, .inv J4, .blk 5, .code lss_n28], ⟨[(1, .slice (some ⟨b, o, none⟩) n2 cp2), (2, .slice K nk kcp), (6, .bool false), (8, (lss_p pb 0)), (12, .slice (some ⟨W3.heap.size, 0, none⟩) 6 6), (14, .int .i64 (j : Int)), (15, .int .i64 B), (111, .slice (some ⟨W3.heap.size, 0, none⟩) 6 6), (112, .int .i64 B), (116, .int .i64 ((nums j).v))], [⟨W3.heap.size, 9, true, (strsV now)⟩], [⟨b, o + j * 1, [.int .i64 ((nums j).v)]⟩], z92⟩⟩ := by kernel_rfl
theorem lss_c94 (K : Option Addr) (nk : Nat) (kcp : Nat) (b : Nat) (o : Nat) (nums : Nat → Num1) (B : Int) (pb : Nat) (W3 : World) (n2 : Nat) (cp2 : Nat) (j : Nat) : callAt Try.prog (opsOf (getCode (bodyOf Try.f7) lss_n15)) [(1, .slice (some ⟨b, o, none⟩) n2 cp2), (2, .slice K nk kcp), (6, .bool false), (8, (lss_p pb 0)), (12, .slice (some ⟨W3.heap.size, 0, none⟩) 6 6), (14, .int .i64 (j : Int)), (15, .int .i64 B), (111, .slice (some ⟨W3.heap.size, 0, none⟩) 6 6), (112, .int .i64 B), (116, .int .i64 ((nums j).v))] 6 = some (13, [.int .i64 ((nums j).v)], some 117, []) := by kernel_rfl
theorem lss_s95 (K : Option Addr) (nk : Nat) (kcp : Nat) (b : Nat) (o : Nat) (nums : Nat → Num1) (B : Int) (pb : Nat) (now : List ByteArray) (W3 : World) (n2 : Nat) (cp2 : Nat) (j : Nat) (J4 : Act → World → Prop) (z94 : Nat) : Res.prune [1, 2, 6, 8, 12, 14, 15, 117, 118] [] (exec Try.prog (bodyOf Try.f7) 140 4 [⟨false, 1, []⟩] [.ops lss_n15 [7, 8], .code lss_n18, .blk 6, .code lss_n20, .inv J4, .blk 5, .code lss_n28] ⟨[(117, .string (sec7 (nums j).v)), (1, .slice (some ⟨b, o, none⟩) n2 cp2), (2, .slice K nk kcp), (6, .bool false), (8, (lss_p pb 0)), (12, .slice (some ⟨W3.heap.size, 0, none⟩) 6 6), (14, .int .i64 (j : Int)), (15, .int .i64 B), (111, .slice (some ⟨W3.heap.size, 0, none⟩) 6 6), (112, .int .i64 B), (116, .int .i64 ((nums j).v))], [⟨W3.heap.size, 9, true, (strsV now)⟩], [⟨b, o + j * 1, [.int .i64 ((nums j).v)]⟩], z94⟩) = some ⟨[(0 : Int) ≤ B ∧ B < ((6 : Nat) : Int)], dupR [], [.ops lss_n15 [8], .code lss_n18, .blk 6, .code lss_n20, .inv J4, .blk 5, .code lss_n28], ⟨[(1, .slice (some ⟨b, o, none⟩) n2 cp2), (2, .slice K nk kcp), (6, .bool false), (8, (lss_p pb 0)), (12, .slice (some ⟨W3.heap.size, 0, none⟩) 6 6), (14, .int .i64 (j : Int)), (15, .int .i64 B), (117, .string (sec7 (nums j).v)), (118, .pointer (some ⟨W3.heap.size, 0 + (Int.toNat B) * 1, none⟩))], [⟨W3.heap.size, 9, true, (strsV now)⟩], [⟨b, o + j * 1, [.int .i64 ((nums j).v)]⟩], z94⟩⟩ := by kernel_rfl
theorem lss_s97 (K : Option Addr) (nk : Nat) (kcp : Nat) (b : Nat) (o : Nat) (nums : Nat → Num1) (B : Int) (pb : Nat) (now : List ByteArray) (W3 : World) (n2 : Nat) (cp2 : Nat) (j : Nat) (J4 : Act → World → Prop) (z96 : Nat) : Res.prune [1, 2, 6, 8, 12, 14, 119, 120, 123] [] (exec Try.prog (bodyOf Try.f7) 140 11 [lss_h, lss_h, lss_h, lss_h, ⟨false, 1, []⟩] [.ops lss_n15 [], .code lss_n18, .blk 6, .code lss_n20, .inv J4, .blk 5, .code lss_n28] ⟨[(1, .slice (some ⟨b, o, none⟩) n2 cp2), (2, .slice K nk kcp), (6, .bool false), (8, (lss_p pb 0)), (12, .slice (some ⟨W3.heap.size, 0, none⟩) 6 6), (14, .int .i64 (j : Int)), (15, .int .i64 B), (117, .string (sec7 (nums j).v)), (118, .pointer (some ⟨W3.heap.size, 0 + (Int.toNat B) * 1, none⟩))], [⟨W3.heap.size, 9, true, (strsV (List.set now (Int.toNat B) (sec7 (nums j).v)))⟩], [⟨b, o + j * 1, [.int .i64 ((nums j).v)]⟩], z96⟩) = some ⟨[(0 : Int) ≤ B ∧ B < ((6 : Nat) : Int)], dupR [], [.ops lss_n16 [5, 6, 7], .code lss_n17, .blk 6, .code lss_n20, .inv J4, .blk 5, .code lss_n28], ⟨[(1, .slice (some ⟨b, o, none⟩) n2 cp2), (2, .slice K nk kcp), (6, .bool false), (8, (lss_p pb 0)), (12, .slice (some ⟨W3.heap.size, 0, none⟩) 6 6), (14, .int .i64 (j : Int)), (119, (lss_p pb 0)), (120, .int .i64 B), (123, .pointer (some ⟨W3.heap.size, 0 + (Int.toNat B) * 1, none⟩))], [⟨W3.heap.size, 9, true, (strsV (List.set now (Int.toNat B) (sec7 (nums j).v)))⟩], [⟨b, o + j * 1, [.int .i64 ((nums j).v)]⟩], z96⟩⟩ := by kernel_rfl
theorem lss_s99 (K : Option Addr) (nk : Nat) (kcp : Nat) (b : Nat) (o : Nat) (nums : Nat → Num1) (B : Int) (pb : Nat) (now : List ByteArray) (W3 : World) (n2 : Nat) (cp2 : Nat) (j : Nat) (J4 : Act → World → Prop) (z96 : Nat) : Res.prune [1, 2, 6, 8, 12, 14, 119, 120, 124] [] (exec Try.prog (bodyOf Try.f7) 140 3 [] [.ops lss_n16 [6, 7], .code lss_n17, .blk 6, .code lss_n20, .inv J4, .blk 5, .code lss_n28] ⟨[(124, .string (sec7 (nums j).v)), (1, .slice (some ⟨b, o, none⟩) n2 cp2), (2, .slice K nk kcp), (6, .bool false), (8, (lss_p pb 0)), (12, .slice (some ⟨W3.heap.size, 0, none⟩) 6 6), (14, .int .i64 (j : Int)), (119, (lss_p pb 0)), (120, .int .i64 B), (123, .pointer (some ⟨W3.heap.size, 0 + (Int.toNat B) * 1, none⟩))], [⟨W3.heap.size, 9, true, (strsV (List.set now (Int.toNat B) (sec7 (nums j).v)))⟩], [⟨b, o + j * 1, [.int .i64 ((nums j).v)]⟩], z96⟩) = some ⟨[], dupR [], [.ops lss_n16 [6, 7], .code lss_n17, .blk 6, .code lss_n20, .inv J4, .blk 5, .code lss_n28], ⟨[(1, .slice (some ⟨b, o, none⟩) n2 cp2), (2, .slice K nk kcp), (6, .bool false), (8, (lss_p pb 0)), (12, .slice (some ⟨W3.heap.size, 0, none⟩) 6 6), (14, .int .i64 (j : Int)), (119, (lss_p pb 0)), (120, .int .i64 B), (124, .string (sec7 (nums j).v))], [⟨W3.heap.size, 9, true, (strsV (List.set now (Int.toNat B) (sec7 (nums j).v)))⟩], [⟨b, o + j * 1, [.int .i64 ((nums j).v)]⟩], z96⟩⟩ := by kernel_rfl
theorem lss_c100 (K : Option Addr) (nk : Nat) (kcp : Nat) (b : Nat) (o : Nat) (nums : Nat → Num1) (B : Int) (pb : Nat) (W3 : World) (n2 : Nat) (cp2 : Nat) (j : Nat) : callAt Try.prog (opsOf (getCode (bodyOf Try.f7) lss_n16)) [(1, .slice (some ⟨b, o, none⟩) n2 cp2), (2, .slice K nk kcp), (6, .bool false), (8, (lss_p pb 0)), (12, .slice (some ⟨W3.heap.size, 0, none⟩) 6 6), (14, .int .i64 (j : Int)), (119, (lss_p pb 0)), (120, .int .i64 B), (124, .string (sec7 (nums j).v))] 6 = some (12, [(lss_p pb 0), .int .i64 B, .string (sec7 (nums j).v)], some 125, []) := by kernel_rfl
theorem lss_s101 (K : Option Addr) (nk : Nat) (kcp : Nat) (b : Nat) (o : Nat) (nums : Nat → Num1) (B : Int) (pb : Nat) (now : List ByteArray) (W3 : World) (W7 : World) (n2 : Nat) (cp2 : Nat) (j : Nat) (J4 : Act → World → Prop) : Res.prune [1, 2, 6, 8, 12, 14] [] (exec Try.prog (bodyOf Try.f7) 140 13 [lss_h, lss_h, lss_h, ⟨false, 1, []⟩, lss_h] [.ops lss_n16 [7], .code lss_n17, .blk 6, .code lss_n20, .inv J4, .blk 5, .code lss_n28] ⟨[(125, .int .i64 0), (1, .slice (some ⟨b, o, none⟩) n2 cp2), (2, .slice K nk kcp), (6, .bool false), (8, (lss_p pb 0)), (12, .slice (some ⟨W3.heap.size, 0, none⟩) 6 6), (14, .int .i64 (j : Int)), (119, (lss_p pb 0)), (120, .int .i64 B), (124, .string (sec7 (nums j).v))], [⟨W3.heap.size, 9, true, (strsV (List.set now (Int.toNat B) (sec7 (nums j).v)))⟩], [], W7.heap.size⟩) = some ⟨[false = false, inR .i64 (((j : Int) + 1))], dupR [], [.inv J4, .blk 5, .code lss_n28], ⟨[(1, .slice (some ⟨b, o, none⟩) n2 cp2), (2, .slice K nk kcp), (6, .bool false), (8, (lss_p pb 0)), (12, .slice (some ⟨W3.heap.size, 0, none⟩) 6 6), (14, .int .i64 ((j : Int) + 1))], [⟨W3.heap.size, 9, true, (strsV (List.set now (Int.toNat B) (sec7 (nums j).v)))⟩], [], W7.heap.size⟩⟩ := by kernel_rfl
theorem lss_s102 (n : Nat) (cp : Nat) (K : Option Addr) (nk : Nat) (kcp : Nat) (b : Nat) (o : Nat) (acts : Nat → Act7) (i : Nat) (pb : Nat) (W2 : World) (J : Act → World → Prop) (A2 : Option Addr) (n2 : Nat) (cp2 : Nat) : Res.prune [0, 1, 2, 6, 8, 10, 11, 47] [] (exec Try.prog (bodyOf Try.f7) 140 32 [lss_h, lss_h, lss_h, lss_h, lss_h, ⟨true, 0, []⟩, ⟨true, 0, []⟩, ⟨false, 2, []⟩, ⟨true, 0, []⟩, lss_h, lss_h, ⟨false, 1, []⟩, ⟨false, 0, [⟨true, 0, 0, 6⟩]⟩, lss_h, ⟨false, 0, [⟨false, 0, 0, 6⟩]⟩, lss_h, ⟨false, 0, [⟨false, 0, 0, 1⟩]⟩] [.code lss_n8, .inv J, .blk 0, .code [1, 1, 1, 1, 1]] ⟨[(0, .slice (some ⟨b, o, none⟩) n cp), (1, .slice A2 n2 cp2), (2, .slice K nk kcp), (6, .bool false), (8, (lss_p pb 0)), (10, .int .i64 (i : Int))], [], [⟨b, o + i * 6, (lss_v2 acts i)⟩], W2.heap.size⟩) = some ⟨[(decide (((i : Int) : Int) < (n : Int))) = true, (decide (((i : Int) : Int) < (n : Int))) = true, (decide (((i : Int) : Int) < (n : Int))) = true, (decide (((i : Int) : Int) < 60)) = true, (0 : Int) ≤ (i : Int) ∧ (i : Int) < ((n : Nat) : Int)], dupR [(b, o + i * 6, 6), (W2.heap.size, 0, 6), (W2.heap.size, 0, 1)], [.ops lss_n2 [2], .code lss_n6, .blk 1, .code lss_n7, .inv J, .blk 0, .code [1, 1, 1, 1, 1]], ⟨[(0, .slice (some ⟨b, o, none⟩) n cp), (1, .slice A2 n2 cp2), (2, .slice K nk kcp), (6, .bool false), (8, (lss_p pb 0)), (10, .int .i64 (i : Int)), (11, (lss_p W2.heap.size 0)), (47, .int .i64 ((acts i).what))], [⟨W2.heap.size, 40, true, (lss_v2 acts i)⟩], [⟨b, o + i * 6, (lss_v2 acts i)⟩], W2.heap.size + 1⟩⟩ := by kernel_rfl
theorem lss_c103 (n : Nat) (cp : Nat) (K : Option Addr) (nk : Nat) (kcp : Nat) (b : Nat) (o : Nat) (acts : Nat → Act7) (i : Nat) (pb : Nat) (W2 : World) (A2 : Option Addr) (n2 : Nat) (cp2 : Nat) : callAt Try.prog (opsOf (getCode (bodyOf Try.f7) lss_n2)) [(0, .slice (some ⟨b, o, none⟩) n cp), (1, .slice A2 n2 cp2), (2, .slice K nk kcp), (6, .bool false), (8, (lss_p pb 0)), (10, .int .i64 (i : Int)), (11, (lss_p W2.heap.size 0)), (47, .int .i64 ((acts i).what))] 2 = some (10, [.int .i64 ((acts i).what), .int .i64 5], some 48, []) := by kernel_rfl
theorem lss_s104 (n : Nat) (cp : Nat) (K : Option Addr) (nk : Nat) (kcp : Nat) (b : Nat) (o : Nat) (acts : Nat → Act7) (i : Nat) (C : Int) (pb : Nat) (W2 : World) (J : Act → World → Prop) (A2 : Option Addr) (n2 : Nat) (cp2 : Nat) (z103 : Nat) : Res.prune [0, 1, 2, 6, 8, 10, 11] [] (exec Try.prog (bodyOf Try.f7) 140 14 [lss_h, lss_h, ⟨true, 0, []⟩, ⟨true, 0, []⟩] [.ops lss_n2 [], .code lss_n6, .blk 1, .code lss_n7, .inv J, .blk 0, .code [1, 1, 1, 1, 1]] ⟨[(48, .int .i64 C), (0, .slice (some ⟨b, o, none⟩) n cp), (1, .slice A2 n2 cp2), (2, .slice K nk kcp), (6, .bool false), (8, (lss_p pb 0)), (10, .int .i64 (i : Int)), (11, (lss_p W2.heap.size 0)), (47, .int .i64 ((acts i).what))], [⟨W2.heap.size, 40, true, (lss_v2 acts i)⟩], [⟨b, o + i * 6, (lss_v2 acts i)⟩], z103⟩) = some ⟨[(C == 0) = true, (C == 0) = true], dupR [], [.code lss_n3, .blk 2, .blk 1, .code lss_n7, .inv J, .blk 0, .code [1, 1, 1, 1, 1]], ⟨[(0, .slice (some ⟨b, o, none⟩) n cp), (1, .slice A2 n2 cp2), (2, .slice K nk kcp), (6, .bool false), (8, (lss_p pb 0)), (10, .int .i64 (i : Int)), (11, (lss_p W2.heap.size 0))], [⟨W2.heap.size, 40, true, (lss_v2 acts i)⟩], [⟨b, o + i * 6, (lss_v2 acts i)⟩], z103⟩⟩ := by kernel_rfl
theorem lss_q105 (n : Nat) (cp : Nat) (K : Option Addr) (nk : Nat) (kcp : Nat) (b : Nat) (o : Nat) (acts : Nat → Act7) (i : Nat) (B : Int) (pb : Nat) (W2 : World) (A2 : Option Addr) (n2 : Nat) (cp2 : Nat) (z103 : Nat) : Out.prune lss_n1 (qList Try.prog 140 W2 (Turned []) ((opsOf (getCode (bodyOf Try.f7) lss_n3)).toList.take 7) ⟨[(0, .slice (some ⟨b, o, none⟩) n cp), (1, .slice A2 n2 cp2), (2, .slice K nk kcp), (6, .bool false), (8, (lss_p pb 0)), (10, .int .i64 (i : Int)), (11, (lss_p W2.heap.size 0))], [⟨W2.heap.size, 40, true, (lss_v2 acts i)⟩], [⟨b, o + i * 6, (lss_v2 acts i)⟩], z103⟩ [.op lss_h, .op lss_h, .op ⟨false, 0, [⟨false, 0, 1, 1⟩]⟩, .call (.int .i64 B), .op lss_h, .op ⟨false, 0, [⟨false, 0, 3, 1⟩]⟩, .call (.string (sec7 (acts i).letter))]) = some ⟨[∀ w', MemC W2 (Turned []) [⟨W2.heap.size, 40, true, (lss_v2 acts i)⟩] [⟨b, o + i * 6, (lss_v2 acts i)⟩] z103 w' → Calls Try.prog 10 #[.int .i64 ((acts i).n), .int .i64 6] w' (RetK (.int .i64 B) w'), ∀ w', MemC W2 (Turned []) [⟨W2.heap.size, 40, true, (lss_v2 acts i)⟩] [⟨b, o + i * 6, (lss_v2 acts i)⟩] z103 w' → Calls Try.prog 13 #[.int .i64 ((acts i).letter)] w' (RetK (.string (sec7 (acts i).letter)) w')], dupR [(W2.heap.size, 1, 1), (W2.heap.size, 3, 1)], ⟨[(0, .slice (some ⟨b, o, none⟩) n cp), (1, .slice A2 n2 cp2), (2, .slice K nk kcp), (6, .bool false), (8, (lss_p pb 0)), (10, .int .i64 (i : Int)), (57, (lss_p pb 0)), (60, .int .i64 B), (63, .string (sec7 (acts i).letter))], [⟨W2.heap.size, 40, true, (lss_v2 acts i)⟩], [⟨b, o + i * 6, (lss_v2 acts i)⟩], z103⟩⟩ := by kernel_rfl
theorem lss_c106 (n : Nat) (cp : Nat) (K : Option Addr) (nk : Nat) (kcp : Nat) (b : Nat) (o : Nat) (acts : Nat → Act7) (i : Nat) (B : Int) (pb : Nat) (A2 : Option Addr) (n2 : Nat) (cp2 : Nat) : callAt Try.prog (opsOf (getCode (bodyOf Try.f7) lss_n3)) [(0, .slice (some ⟨b, o, none⟩) n cp), (1, .slice A2 n2 cp2), (2, .slice K nk kcp), (6, .bool false), (8, (lss_p pb 0)), (10, .int .i64 (i : Int)), (57, (lss_p pb 0)), (60, .int .i64 B), (63, .string (sec7 (acts i).letter))] 7 = some (12, [(lss_p pb 0), .int .i64 B, .string (sec7 (acts i).letter)], some 64, []) := by kernel_rfl
theorem lss_s107 (n : Nat) (cp : Nat) (K : Option Addr) (nk : Nat) (kcp : Nat) (b : Nat) (o : Nat) (acts : Nat → Act7) (i : Nat) (B : Int) (pb : Nat) (M : Pl) (W2 : World) (W4 : World) (J : Act → World → Prop) (A2 : Option Addr) (n2 : Nat) (cp2 : Nat) : Res.prune [0, 1, 2, 6, 8, 10] [] (exec Try.prog (bodyOf Try.f7) 140 10 [lss_h, ⟨false, 1, []⟩, lss_h] [.blk 2, .blk 1, .code lss_n7, .inv J, .blk 0, .code [1, 1, 1, 1, 1]] ⟨[(64, .int .i64 (goesE M)), (0, .slice (some ⟨b, o, none⟩) n cp), (1, .slice A2 n2 cp2), (2, .slice K nk kcp), (6, .bool false), (8, (lss_p pb 0)), (10, .int .i64 (i : Int)), (57, (lss_p pb 0)), (60, .int .i64 B), (63, .string (sec7 (acts i).letter))], [⟨W2.heap.size, 40, true, (lss_v2 acts i)⟩], [], W4.heap.size⟩) = some ⟨[inR .i64 (((i : Int) + 1))], dupR [], [.inv J, .blk 0, .code [1, 1, 1, 1, 1]], ⟨[(0, .slice (some ⟨b, o, none⟩) n cp), (1, .slice A2 n2 cp2), (2, .slice K nk kcp), (6, .bool false), (8, (lss_p pb 0)), (10, .int .i64 ((i : Int) + 1))], [⟨W2.heap.size, 40, true, (lss_v2 acts i)⟩], [], W4.heap.size⟩⟩ := by kernel_rfl
theorem lss_s108 (n : Nat) (cp : Nat) (K : Option Addr) (nk : Nat) (kcp : Nat) (b : Nat) (o : Nat) (acts : Nat → Act7) (i : Nat) (C : Int) (pb : Nat) (W2 : World) (J : Act → World → Prop) (A2 : Option Addr) (n2 : Nat) (cp2 : Nat) (z103 : Nat) : Res.prune [0, 1, 2, 6, 8, 10, 11] [] (exec Try.prog (bodyOf Try.f7) 140 20 [lss_h, lss_h, lss_h, lss_h, lss_h, ⟨true, 0, []⟩, ⟨true, 0, []⟩] [.ops lss_n2 [], .code lss_n6, .blk 1, .code lss_n7, .inv J, .blk 0, .code [1, 1, 1, 1, 1]] ⟨[(48, .int .i64 C), (0, .slice (some ⟨b, o, none⟩) n cp), (1, .slice A2 n2 cp2), (2, .slice K nk kcp), (6, .bool false), (8, (lss_p pb 0)), (10, .int .i64 (i : Int)), (11, (lss_p W2.heap.size 0)), (47, .int .i64 ((acts i).what))], [⟨W2.heap.size, 40, true, (lss_v2 acts i)⟩], [⟨b, o + i * 6, (lss_v2 acts i)⟩], z103⟩) = some ⟨[(C == 0) = false, (C == 1) = true, (C == 1) = true], dupR [], [.code lss_n3, .blk 2, .blk 1, .code lss_n7, .inv J, .blk 0, .code [1, 1, 1, 1, 1]], ⟨[(0, .slice (some ⟨b, o, none⟩) n cp), (1, .slice A2 n2 cp2), (2, .slice K nk kcp), (6, .bool false), (8, (lss_p pb 0)), (10, .int .i64 (i : Int)), (11, (lss_p W2.heap.size 0))], [⟨W2.heap.size, 40, true, (lss_v2 acts i)⟩], [⟨b, o + i * 6, (lss_v2 acts i)⟩], z103⟩⟩ := by kernel_rfl
theorem lss_q109 (n : Nat) (cp : Nat) (K : Option Addr) (nk : Nat) (kcp : Nat) (b : Nat) (o : Nat) (acts : Nat → Act7) (i : Nat) (B : Int) (pb : Nat) (W2 : World) (A2 : Option Addr) (n2 : Nat) (cp2 : Nat) (z103 : Nat) : Out.prune lss_n1 (qList Try.prog 140 W2 (Turned []) ((opsOf (getCode (bodyOf Try.f7) lss_n3)).toList.take 7) ⟨[(0, .slice (some ⟨b, o, none⟩) n cp), (1, .slice A2 n2 cp2), (2, .slice K nk kcp), (6, .bool false), (8, (lss_p pb 0)), (10, .int .i64 (i : Int)), (11, (lss_p W2.heap.size 0))], [⟨W2.heap.size, 40, true, (lss_v2 acts i)⟩], [⟨b, o + i * 6, (lss_v2 acts i)⟩], z103⟩ [.op lss_h, .op lss_h, .op ⟨false, 0, [⟨false, 0, 1, 1⟩]⟩, .call (.int .i64 B), .op lss_h, .op ⟨false, 0, [⟨false, 0, 3, 1⟩]⟩, .call (.string (sec7 (acts i).letter))]) = some ⟨[∀ w', MemC W2 (Turned []) [⟨W2.heap.size, 40, true, (lss_v2 acts i)⟩] [⟨b, o + i * 6, (lss_v2 acts i)⟩] z103 w' → Calls Try.prog 10 #[.int .i64 ((acts i).n), .int .i64 6] w' (RetK (.int .i64 B) w'), ∀ w', MemC W2 (Turned []) [⟨W2.heap.size, 40, true, (lss_v2 acts i)⟩] [⟨b, o + i * 6, (lss_v2 acts i)⟩] z103 w' → Calls Try.prog 13 #[.int .i64 ((acts i).letter)] w' (RetK (.string (sec7 (acts i).letter)) w')], dupR [(W2.heap.size, 1, 1), (W2.heap.size, 3, 1)], ⟨[(0, .slice (some ⟨b, o, none⟩) n cp), (1, .slice A2 n2 cp2), (2, .slice K nk kcp), (6, .bool false), (8, (lss_p pb 0)), (10, .int .i64 (i : Int)), (57, (lss_p pb 0)), (60, .int .i64 B), (63, .string (sec7 (acts i).letter))], [⟨W2.heap.size, 40, true, (lss_v2 acts i)⟩], [⟨b, o + i * 6, (lss_v2 acts i)⟩], z103⟩⟩ := by kernel_rfl
theorem lss_c110 (n : Nat) (cp : Nat) (K : Option Addr) (nk : Nat) (kcp : Nat) (b : Nat) (o : Nat) (acts : Nat → Act7) (i : Nat) (B : Int) (pb : Nat) (A2 : Option Addr) (n2 : Nat) (cp2 : Nat) : callAt Try.prog (opsOf (getCode (bodyOf Try.f7) lss_n3)) [(0, .slice (some ⟨b, o, none⟩) n cp), (1, .slice A2 n2 cp2), (2, .slice K nk kcp), (6, .bool false), (8, (lss_p pb 0)), (10, .int .i64 (i : Int)), (57, (lss_p pb 0)), (60, .int .i64 B), (63, .string (sec7 (acts i).letter))] 7 = some (12, [(lss_p pb 0), .int .i64 B, .string (sec7 (acts i).letter)], some 64, []) := by kernel_rfl
theorem lss_s111 (n : Nat) (cp : Nat) (K : Option Addr) (nk : Nat) (kcp : Nat) (b : Nat) (o : Nat) (acts : Nat → Act7) (i : Nat) (B : Int) (pb : Nat) (M : Pl) (W2 : World) (W4 : World) (J : Act → World → Prop) (A2 : Option Addr) (n2 : Nat) (cp2 : Nat) : Res.prune [0, 1, 2, 6, 8, 10] [] (exec Try.prog (bodyOf Try.f7) 140 10 [lss_h, ⟨false, 1, []⟩, lss_h] [.blk 2, .blk 1, .code lss_n7, .inv J, .blk 0, .code [1, 1, 1, 1, 1]] ⟨[(64, .int .i64 (goesE M)), (0, .slice (some ⟨b, o, none⟩) n cp), (1, .slice A2 n2 cp2), (2, .slice K nk kcp), (6, .bool false), (8, (lss_p pb 0)), (10, .int .i64 (i : Int)), (57, (lss_p pb 0)), (60, .int .i64 B), (63, .string (sec7 (acts i).letter))], [⟨W2.heap.size, 40, true, (lss_v2 acts i)⟩], [], W4.heap.size⟩) = some ⟨[inR .i64 (((i : Int) + 1))], dupR [], [.inv J, .blk 0, .code [1, 1, 1, 1, 1]], ⟨[(0, .slice (some ⟨b, o, none⟩) n cp), (1, .slice A2 n2 cp2), (2, .slice K nk kcp), (6, .bool false), (8, (lss_p pb 0)), (10, .int .i64 ((i : Int) + 1))], [⟨W2.heap.size, 40, true, (lss_v2 acts i)⟩], [], W4.heap.size⟩⟩ := by kernel_rfl
theorem lss_s112 (n : Nat) (cp : Nat) (K : Option Addr) (nk : Nat) (kcp : Nat) (b : Nat) (o : Nat) (acts : Nat → Act7) (i : Nat) (C : Int) (pb : Nat) (W2 : World) (J : Act → World → Prop) (A2 : Option Addr) (n2 : Nat) (cp2 : Nat) (z103 : Nat) : Res.prune [0, 1, 2, 6, 8, 10, 11] [] (exec Try.prog (bodyOf Try.f7) 140 23 [lss_h, lss_h, lss_h, lss_h, lss_h, lss_h, lss_h, lss_h, ⟨true, 0, []⟩] [.ops lss_n2 [], .code lss_n6, .blk 1, .code lss_n7, .inv J, .blk 0, .code [1, 1, 1, 1, 1]] ⟨[(48, .int .i64 C), (0, .slice (some ⟨b, o, none⟩) n cp), (1, .slice A2 n2 cp2), (2, .slice K nk kcp), (6, .bool false), (8, (lss_p pb 0)), (10, .int .i64 (i : Int)), (11, (lss_p W2.heap.size 0)), (47, .int .i64 ((acts i).what))], [⟨W2.heap.size, 40, true, (lss_v2 acts i)⟩], [⟨b, o + i * 6, (lss_v2 acts i)⟩], z103⟩) = some ⟨[(C == 0) = false, (C == 1) = false, (C == 2) = true], dupR [], [.code lss_n3, .blk 2, .blk 1, .code lss_n7, .inv J, .blk 0, .code [1, 1, 1, 1, 1]], ⟨[(0, .slice (some ⟨b, o, none⟩) n cp), (1, .slice A2 n2 cp2), (2, .slice K nk kcp), (6, .bool false), (8, (lss_p pb 0)), (10, .int .i64 (i : Int)), (11, (lss_p W2.heap.size 0))], [⟨W2.heap.size, 40, true, (lss_v2 acts i)⟩], [⟨b, o + i * 6, (lss_v2 acts i)⟩], z103⟩⟩ := by kernel_rfl
theorem lss_q113 (n : Nat) (cp : Nat) (K : Option Addr) (nk : Nat) (kcp : Nat) (b : Nat) (o : Nat) (acts : Nat → Act7) (i : Nat) (B : Int) (pb : Nat) (W2 : World) (A2 : Option Addr) (n2 : Nat) (cp2 : Nat) (z103 : Nat) : Out.prune lss_n1 (qList Try.prog 140 W2 (Turned []) ((opsOf (getCode (bodyOf Try.f7) lss_n3)).toList.take 7) ⟨[(0, .slice (some ⟨b, o, none⟩) n cp), (1, .slice A2 n2 cp2), (2, .slice K nk kcp), (6, .bool false), (8, (lss_p pb 0)), (10, .int .i64 (i : Int)), (11, (lss_p W2.heap.size 0))], [⟨W2.heap.size, 40, true, (lss_v2 acts i)⟩], [⟨b, o + i * 6, (lss_v2 acts i)⟩], z103⟩ [.op lss_h, .op lss_h, .op ⟨false, 0, [⟨false, 0, 1, 1⟩]⟩, .call (.int .i64 B), .op lss_h, .op ⟨false, 0, [⟨false, 0, 3, 1⟩]⟩, .call (.string (sec7 (acts i).letter))]) = some ⟨[∀ w', MemC W2 (Turned []) [⟨W2.heap.size, 40, true, (lss_v2 acts i)⟩] [⟨b, o + i * 6, (lss_v2 acts i)⟩] z103 w' → Calls Try.prog 10 #[.int .i64 ((acts i).n), .int .i64 6] w' (RetK (.int .i64 B) w'), ∀ w', MemC W2 (Turned []) [⟨W2.heap.size, 40, true, (lss_v2 acts i)⟩] [⟨b, o + i * 6, (lss_v2 acts i)⟩] z103 w' → Calls Try.prog 13 #[.int .i64 ((acts i).letter)] w' (RetK (.string (sec7 (acts i).letter)) w')], dupR [(W2.heap.size, 1, 1), (W2.heap.size, 3, 1)], ⟨[(0, .slice (some ⟨b, o, none⟩) n cp), (1, .slice A2 n2 cp2), (2, .slice K nk kcp), (6, .bool false), (8, (lss_p pb 0)), (10, .int .i64 (i : Int)), (57, (lss_p pb 0)), (60, .int .i64 B), (63, .string (sec7 (acts i).letter))], [⟨W2.heap.size, 40, true, (lss_v2 acts i)⟩], [⟨b, o + i * 6, (lss_v2 acts i)⟩], z103⟩⟩ := by kernel_rfl
theorem lss_c114 (n : Nat) (cp : Nat) (K : Option Addr) (nk : Nat) (kcp : Nat) (b : Nat) (o : Nat) (acts : Nat → Act7) (i : Nat) (B : Int) (pb : Nat) (A2 : Option Addr) (n2 : Nat) (cp2 : Nat) : callAt Try.prog (opsOf (getCode (bodyOf Try.f7) lss_n3)) [(0, .slice (some ⟨b, o, none⟩) n cp), (1, .slice A2 n2 cp2), (2, .slice K nk kcp), (6, .bool false), (8, (lss_p pb 0)), (10, .int .i64 (i : Int)), (57, (lss_p pb 0)), (60, .int .i64 B), (63, .string (sec7 (acts i).letter))] 7 = some (12, [(lss_p pb 0), .int .i64 B, .string (sec7 (acts i).letter)], some 64, []) := by kernel_rfl
theorem lss_s115 (n : Nat) (cp : Nat) (K : Option Addr) (nk : Nat) (kcp : Nat) (b : Nat) (o : Nat) (acts : Nat → Act7) (i : Nat) (B : Int) (pb : Nat) (M : Pl) (W2 : World) (W4 : World) (J : Act → World → Prop) (A2 : Option Addr) (n2 : Nat) (cp2 : Nat) : Res.prune [0, 1, 2, 6, 8, 10] [] (exec Try.prog (bodyOf Try.f7) 140 10 [lss_h, ⟨false, 1, []⟩, lss_h] [.blk 2, .blk 1, .code lss_n7, .inv J, .blk 0, .code [1, 1, 1, 1, 1]] ⟨[(64, .int .i64 (goesE M)), (0, .slice (some ⟨b, o, none⟩) n cp), (1, .slice A2 n2 cp2), (2, .slice K nk kcp), (6, .bool false), (8, (lss_p pb 0)), (10, .int .i64 (i : Int)), (57, (lss_p pb 0)), (60, .int .i64 B), (63, .string (sec7 (acts i).letter))], [⟨W2.heap.size, 40, true, (lss_v2 acts i)⟩], [], W4.heap.size⟩) = some ⟨[inR .i64 (((i : Int) + 1))], dupR [], [.inv J, .blk 0, .code [1, 1, 1, 1, 1]], ⟨[(0, .slice (some ⟨b, o, none⟩) n cp), (1, .slice A2 n2 cp2), (2, .slice K nk kcp), (6, .bool false), (8, (lss_p pb 0)), (10, .int .i64 ((i : Int) + 1))], [⟨W2.heap.size, 40, true, (lss_v2 acts i)⟩], [], W4.heap.size⟩⟩ := by kernel_rfl
theorem lss_s116 (n : Nat) (cp : Nat) (K : Option Addr) (nk : Nat) (kcp : Nat) (b : Nat) (o : Nat) (acts : Nat → Act7) (i : Nat) (C : Int) (pb : Nat) (W2 : World) (J : Act → World → Prop) (A2 : Option Addr) (n2 : Nat) (cp2 : Nat) (z103 : Nat) : Res.prune [0, 1, 2, 6, 8, 10, 67] [] (exec Try.prog (bodyOf Try.f7) 140 31 [lss_h, lss_h, lss_h, lss_h, lss_h, lss_h, lss_h, lss_h, lss_h, lss_h, lss_h, ⟨true, 0, []⟩, lss_h] [.ops lss_n2 [], .code lss_n6, .blk 1, .code lss_n7, .inv J, .blk 0, .code [1, 1, 1, 1, 1]] ⟨[(48, .int .i64 C), (0, .slice (some ⟨b, o, none⟩) n cp), (1, .slice A2 n2 cp2), (2, .slice K nk kcp), (6, .bool false), (8, (lss_p pb 0)), (10, .int .i64 (i : Int)), (11, (lss_p W2.heap.size 0)), (47, .int .i64 ((acts i).what))], [⟨W2.heap.size, 40, true, (lss_v2 acts i)⟩], [⟨b, o + i * 6, (lss_v2 acts i)⟩], z103⟩) = some ⟨[(C == 0) = false, (C == 1) = false, (C == 2) = false, (C == 3) = true], dupR [], [.ops lss_n4 [1], .blk 2, .blk 1, .code lss_n7, .inv J, .blk 0, .code [1, 1, 1, 1, 1]], ⟨[(0, .slice (some ⟨b, o, none⟩) n cp), (1, .slice A2 n2 cp2), (2, .slice K nk kcp), (6, .bool false), (8, (lss_p pb 0)), (10, .int .i64 (i : Int)), (67, (lss_p pb 0))], [⟨W2.heap.size, 40, true, (lss_v2 acts i)⟩], [⟨b, o + i * 6, (lss_v2 acts i)⟩], z103⟩⟩ := by kernel_rfl
theorem lss_c117 (n : Nat) (cp : Nat) (K : Option Addr) (nk : Nat) (kcp : Nat) (b : Nat) (o : Nat) (i : Nat) (pb : Nat) (A2 : Option Addr) (n2 : Nat) (cp2 : Nat) : callAt Try.prog (opsOf (getCode (bodyOf Try.f7) lss_n4)) [(0, .slice (some ⟨b, o, none⟩) n cp), (1, .slice A2 n2 cp2), (2, .slice K nk kcp), (6, .bool false), (8, (lss_p pb 0)), (10, .int .i64 (i : Int)), (67, (lss_p pb 0))] 1 = some (14, [(lss_p pb 0)], some 68, []) := by kernel_rfl
theorem lss_s118 (n : Nat) (cp : Nat) (K : Option Addr) (nk : Nat) (kcp : Nat) (b : Nat) (o : Nat) (acts : Nat → Act7) (i : Nat) (pb : Nat) (M : Pl) (W2 : World) (W4 : World) (J : Act → World → Prop) (A2 : Option Addr) (n2 : Nat) (cp2 : Nat) : Res.prune [0, 1, 2, 6, 8, 10] [] (exec Try.prog (bodyOf Try.f7) 140 11 [lss_h, ⟨false, 1, []⟩, lss_h] [.ops lss_n4 [], .blk 2, .blk 1, .code lss_n7, .inv J, .blk 0, .code [1, 1, 1, 1, 1]] ⟨[(68, .int .i64 (goesE M)), (0, .slice (some ⟨b, o, none⟩) n cp), (1, .slice A2 n2 cp2), (2, .slice K nk kcp), (6, .bool false), (8, (lss_p pb 0)), (10, .int .i64 (i : Int)), (67, (lss_p pb 0))], [⟨W2.heap.size, 40, true, (lss_v2 acts i)⟩], [], W4.heap.size⟩) = some ⟨[inR .i64 (((i : Int) + 1))], dupR [], [.inv J, .blk 0, .code [1, 1, 1, 1, 1]], ⟨[(0, .slice (some ⟨b, o, none⟩) n cp), (1, .slice A2 n2 cp2), (2, .slice K nk kcp), (6, .bool false), (8, (lss_p pb 0)), (10, .int .i64 ((i : Int) + 1))], [⟨W2.heap.size, 40, true, (lss_v2 acts i)⟩], [], W4.heap.size⟩⟩ := by kernel_rfl
theorem lss_s119 (n : Nat) (cp : Nat) (K : Option Addr) (nk : Nat) (kcp : Nat) (b : Nat) (o : Nat) (acts : Nat → Act7) (i : Nat) (C : Int) (pb : Nat) (W2 : World) (J : Act → World → Prop) (A2 : Option Addr) (n2 : Nat) (cp2 : Nat) (z103 : Nat) : Res.prune [0, 1, 2, 6, 8, 10, 49, 51] [] (exec Try.prog (bodyOf Try.f7) 140 33 [lss_h, lss_h, lss_h, lss_h, lss_h, lss_h, lss_h, lss_h, lss_h, lss_h, lss_h, lss_h, lss_h, lss_h, ⟨false, 0, [⟨false, 0, 2, 1⟩]⟩] [.ops lss_n2 [], .code lss_n6, .blk 1, .code lss_n7, .inv J, .blk 0, .code [1, 1, 1, 1, 1]] ⟨[(48, .int .i64 C), (0, .slice (some ⟨b, o, none⟩) n cp), (1, .slice A2 n2 cp2), (2, .slice K nk kcp), (6, .bool false), (8, (lss_p pb 0)), (10, .int .i64 (i : Int)), (11, (lss_p W2.heap.size 0)), (47, .int .i64 ((acts i).what))], [⟨W2.heap.size, 40, true, (lss_v2 acts i)⟩], [⟨b, o + i * 6, (lss_v2 acts i)⟩], z103⟩) = some ⟨[(C == 0) = false, (C == 1) = false, (C == 2) = false, (C == 3) = false], dupR [(W2.heap.size, 2, 1)], [.ops lss_n5 [3], .blk 2, .blk 1, .code lss_n7, .inv J, .blk 0, .code [1, 1, 1, 1, 1]], ⟨[(0, .slice (some ⟨b, o, none⟩) n cp), (1, .slice A2 n2 cp2), (2, .slice K nk kcp), (6, .bool false), (8, (lss_p pb 0)), (10, .int .i64 (i : Int)), (49, (lss_p pb 0)), (51, .int .i64 ((acts i).at_))], [⟨W2.heap.size, 40, true, (lss_v2 acts i)⟩], [⟨b, o + i * 6, (lss_v2 acts i)⟩], z103⟩⟩ := by kernel_rfl
theorem lss_c120 (n : Nat) (cp : Nat) (K : Option Addr) (nk : Nat) (kcp : Nat) (b : Nat) (o : Nat) (acts : Nat → Act7) (i : Nat) (pb : Nat) (A2 : Option Addr) (n2 : Nat) (cp2 : Nat) : callAt Try.prog (opsOf (getCode (bodyOf Try.f7) lss_n5)) [(0, .slice (some ⟨b, o, none⟩) n cp), (1, .slice A2 n2 cp2), (2, .slice K nk kcp), (6, .bool false), (8, (lss_p pb 0)), (10, .int .i64 (i : Int)), (49, (lss_p pb 0)), (51, .int .i64 ((acts i).at_))] 3 = some (11, [(lss_p pb 0), .int .i64 ((acts i).at_)], some 52, []) := by kernel_rfl
theorem lss_s121 (n : Nat) (cp : Nat) (K : Option Addr) (nk : Nat) (kcp : Nat) (b : Nat) (o : Nat) (acts : Nat → Act7) (i : Nat) (pb : Nat) (W2 : World) (W4 : World) (J : Act → World → Prop) (A2 : Option Addr) (n2 : Nat) (cp2 : Nat) : Res.prune [0, 1, 2, 6, 8, 10] [] (exec Try.prog (bodyOf Try.f7) 140 11 [lss_h, ⟨false, 1, []⟩, lss_h] [.ops lss_n5 [], .blk 2, .blk 1, .code lss_n7, .inv J, .blk 0, .code [1, 1, 1, 1, 1]] ⟨[(52, .int .i64 (armE (acts i).at_)), (0, .slice (some ⟨b, o, none⟩) n cp), (1, .slice A2 n2 cp2), (2, .slice K nk kcp), (6, .bool false), (8, (lss_p pb 0)), (10, .int .i64 (i : Int)), (49, (lss_p pb 0)), (51, .int .i64 ((acts i).at_))], [⟨W2.heap.size, 40, true, (lss_v2 acts i)⟩], [], W4.heap.size⟩) = some ⟨[inR .i64 (((i : Int) + 1))], dupR [], [.inv J, .blk 0, .code [1, 1, 1, 1, 1]], ⟨[(0, .slice (some ⟨b, o, none⟩) n cp), (1, .slice A2 n2 cp2), (2, .slice K nk kcp), (6, .bool false), (8, (lss_p pb 0)), (10, .int .i64 ((i : Int) + 1))], [⟨W2.heap.size, 40, true, (lss_v2 acts i)⟩], [], W4.heap.size⟩⟩ := by kernel_rfl
set_option maxRecDepth 100000 in
set_option maxHeartbeats 4000000 in
theorem loses_any (A : Option Addr) (n cp : Nat) (acts : Nat → Act7) (A2 : Option Addr) (n2 cp2 : Nat) (nums : Nat → Num1) (K : Option Addr) (nk kcp : Nat) (kf : Nat → Num1) (w : World) (HA : Acts7At w A n acts) (HA2 : NumsAt w A2 n2 nums) (HK : NumsAt w K nk kf) :
    Calls Try.prog 7 #[.slice A n cp, .slice A2 n2 cp2, .slice K nk kcp] w (RetK (.bool true) w) := by
  refine calls_of_holds (S := (fun _ => False)) (l := [.slice A n cp, .slice A2 n2 cp2, .slice K nk kcp]) (n := 140) Try.func7 (body_of (by kernel_rfl)) rfl (by simp) (MemOk.none w _) ?_
  refine holds_go _ _ (lss_s1 A n cp K nk kcp w A2 n2 cp2) trivial ?_
  refine holds_callP (.bool true) (lss_c2 A n cp K nk kcp A2 n2 cp2) trivial rfl (fun wx hm => awake7P wx) fun z2 hz2 => ?_
  replace hz2 : w.heap.size ≤ z2 := hz2
  refine holds_go _ _ (lss_s3 A n cp K nk kcp A2 n2 cp2 z2) trivial ?_
  refine holds_callW (w := w) (S' := (fun _ => False)) (Y := Nat × Nat × Nat) (fun (⟨lb, mb, pb⟩ : Nat × Nat × Nat) => .tuple #[(lss_p pb 0), .int .i64 0]) (fun (⟨lb, mb, pb⟩ : Nat × Nat × Nat) => []) (fun (⟨lb, mb, pb⟩ : Nat × Nat × Nat) W_ => z2 ≤ lb ∧ lb < mb ∧ mb < pb ∧ PlatAt 53 56 W_ pb (newPl lb mb 6)) (fun (⟨lb, mb, pb⟩ : Nat × Nat × Nat) => [(19, .tuple #[(lss_p pb 0), .int .i64 0]), (0, .slice A n cp), (1, .slice A2 n2 cp2), (2, .slice K nk kcp), (6, .bool false), (7, .bool true)]) (lss_c4 A n cp K nk kcp A2 n2 cp2) trivial (fun _ => rfl) (fun wx hm => ?_) (fun y WA hX1 hm1 => ?_)
  · refine (new_pl 6 (by omega) wx).mono fun e w' ⟨lb, mb, pb, he, h1, h2, h3, h4, h5⟩ => ?_
    exact ⟨(lb, mb, pb), he, ⟨by rw [hm.size] at h1; exact h1, h2, h3, h4⟩, (hm.same h5).2⟩
  obtain ⟨lb, mb, pb⟩ := y
  obtain ⟨hl_lb, hl_mb, hl_pb, hP1⟩ := hX1
  have hlt_pb : pb < WA.heap.size := hP1.lt.1
  have hw0 : w.heap.size ≤ lb := by omega
  refine holds_go _ _ (lss_s5 A n cp K nk kcp pb WA A2 n2 cp2) ⟨rfl, rfl, rfl, rfl, rfl, rfl, rfl, trivial⟩ ?_
  refine holds_loopW (w := w) (S' := fun _ => False) (LosesI A n cp K nk kcp lb mb pb A2 n2 cp2) 60 (by kernel_rfl) (fun W2 hm => ⟨⟨0, newPl lb mb 6, _, rfl, Nat.zero_le _, ls_new lb mb, hP1.kept hm.kept (fun _ _ ⟨_, hb, _⟩ => by cases hb), rfl⟩, MemOk.back2 hm1 hm⟩) ?_
  rintro m2 _ W2 ⟨i, M, z2, hmi, hin, hR, hP, rfl⟩ hm2 J hJ
  have hO := hR
  have hPl := hP.lt.1
  have hnT : ∀ xx, (xx = pb ∨ xx = lb ∨ xx = mb) → ¬ Turned [] xx := by
    rintro xx _ ⟨b, hb, hr, he⟩
    simp at hb
  have hnB : ∀ b ∈ ([] : List Bk), ¬ (b.g = pb ∨ b.g = lb ∨ b.g = mb) := by simp
  by_cases h1 : i < n
  rotate_left
  · skip
    refine holds_go _ _ (lss_s6 A n cp K nk kcp i pb W2 J A2 n2 cp2) ⟨decide_eq_false (by omega), decide_eq_false (by omega), decide_eq_false (by omega), rfl, trivial⟩ ?_
    refine holds_callW (w := w) (S' := (fun _ => False)) (Y := Nat) (fun _ => .tuple #[]) (fun _ => []) (fun _ W_ => PlatAt 53 56 W_ pb (losePl M)) (fun _ => [(70, .tuple #[]), (1, .slice A2 n2 cp2), (2, .slice K nk kcp), (6, .bool false), (8, (lss_p pb 0)), (69, (lss_p pb 0))]) (lss_c7 K nk kcp pb A2 n2 cp2) trivial (fun _ => rfl) (fun wx hm => ?_) (fun _ W3 hP3 hm3 => ?_)
    · refine (lose_pl M pb wx (hP.kept hm.kept (fun x h => hnT x (hO.mine x h)))).mono fun e w' ⟨h1, h2, h3⟩ => ?_
      exact ⟨0, h1, h2, (MemOk.back2 hm2 hm).off (fun _ h => h) h3 (fun x h => .inr (by have := hO.mine x h; omega)) (fun b hb h => hnB b hb (hO.mine _ h))⟩
    have hO3 := hR.lose (by omega)
    clear hO
    have hO := hO3.1
    have hltW3 := hP3.lt.1
    clear hnT hnB
    have hnT : ∀ xx, (xx = pb ∨ xx = lb ∨ xx = mb) → ¬ Turned [] xx := by
      rintro xx _ ⟨b, hb, hr, he⟩
      simp at hb
    have hnB : ∀ b ∈ ([] : List Bk), ¬ (b.g = pb ∨ b.g = lb ∨ b.g = mb) := by simp
    refine holds_go _ _ (lss_s8 K nk kcp pb W3 A2 n2 cp2) trivial ?_
    refine holds_loop (LosesJ1 K nk kcp pb W3 A2 n2 cp2) 6 (by kernel_rfl) ⟨0, _, rfl, Nat.le_refl _, rfl⟩ ?_
    rintro m3 _ ⟨k, z, hmk3, hz3, rfl⟩ J2 hJ2
    by_cases h6 : k < 6
    · skip
      refine holds_go _ _ (lss_s9 K nk kcp k pb z W3 J2 A2 n2 cp2) ⟨decide_eq_true (by omega), trivial⟩ ?_
      refine holds_opR (dst := (some 79)) (x := convert 30 9 (.slice (some ⟨z, 0, none⟩) 64 64)) (.string zero64) (by kernel_rfl) (by kernel_rfl) rfl (fun wx hm => ?_) ?_
      · exact run_bytesAt (P := Try.prog) wx 30 9 5 _ _ _ _ _ zeroSec [] [] (by kernel_rfl) (by kernel_rfl) (by kernel_rfl) (hm.at_ 1 rfl) rfl rfl secOk_zero.2
      refine holds_go _ _ (lss_s11 K nk kcp k pb z W3 J2 A2 n2 cp2) ⟨⟨by omega, by omega⟩, trivial⟩ ?_
      refine holds_opS (x := Instr.storeAt 9 (.pointer (some ⟨W3.heap.size, 0 + k * 1, none⟩)) (.string zero64)) [⟨W3.heap.size, 9, true, (strsV (init7 6 (k + 1)))⟩, ⟨z, 5, true, (lss_v1)⟩] (by kernel_rfl) (by kernel_rfl) rfl (fun wx hm => ?_) (fun z12 hz12 => ?_)
      · have h := store_str (P := Try.prog) (t := 9) (s := zero64) hm (i := 0) (k := k) rfl (by rw [init7_len (by omega)]; exact h6) (by kernel_rfl)
        rw [init7_set h6] at h
        exact h
      replace hz12 : z + 1 ≤ z12 := hz12
      refine holds_go _ _ (lss_s13 K nk kcp k pb z W3 J2 A2 n2 cp2 z12) ⟨in64 (by omega), trivial⟩ ?_
      refine holds_prune [1, 2, 6, 8, 12, 13] [true, false] ?_
      exact hJ2 (m3 - 1) _ (by omega) ⟨k + 1, z12, by omega, by omega, by rw [cast_succ]; rfl⟩
    have hk6 : k = 6 := by omega
    clear hJ2
    refine holds_go _ _ (lss_s14 K nk kcp k pb z W3 J2 A2 n2 cp2) ⟨decide_eq_false (by omega), trivial⟩ ?_
    refine holds_callP (.bool false) (lss_c15 K nk kcp pb W3 A2 n2 cp2) trivial rfl (fun wx hm => off_pl (losePl M) pb wx (hP3.kept hm.kept (fun x h => hnT x (hO.mine x h)))) fun z15 hz15 => ?_
    replace hz15 : z ≤ z15 := hz15
    refine holds_go _ _ (lss_s16 K nk kcp k pb W3 A2 n2 cp2 z15) ⟨rfl, trivial⟩ ?_
    refine holds_callW (w := w) (S' := (fun _ => False)) (Y := Option Addr × Nat) (fun yc => .slice yc.1 0 yc.2) (fun yc => [⟨W3.heap.size, 9, true, (strsV (init7 6 k))⟩]) (fun yc W_ => PlatAt 53 56 W_ pb (losePl M)) (fun yc => [(85, .slice yc.1 0 yc.2), (1, .slice A2 n2 cp2), (2, .slice K nk kcp), (6, .bool false), (8, (lss_p pb 0)), (12, .slice (some ⟨W3.heap.size, 0, none⟩) 6 6), (83, .bool false), (84, (lss_p pb 0))]) (lss_c17 K nk kcp pb W3 A2 n2 cp2) ⟨rfl, trivial⟩ (fun _ => rfl) (fun wx hm => ?_) (fun yc W4 hP4 hm4 => ?_)
    · refine (cached_pl (losePl M) pb wx (hP3.kept hm.kept (fun x h => hnT x (hO.mine x h)))).mono fun e w' ⟨A, cq, he, _, hk⟩ => ?_
      exact ⟨(A, cq), he, (hP3.kept hm.kept (fun x h => hnT x (hO.mine x h))).kept hk (fun _ _ h => h), ((MemOk.back2 hm3 hm).same hk).2⟩
    have hltW4 := hP4.lt.1
    have hgbW4_0 := (hm4.at_ 0 rfl).lt
    replace hgbW4_0 : W3.heap.size < W4.heap.size := hgbW4_0
    clear hnT hnB
    have hnT : ∀ xx, (xx = pb ∨ xx = lb ∨ xx = mb) → ¬ Turned [⟨W3.heap.size, 9, true, (strsV (init7 6 k))⟩] xx := by
      rintro xx hx2 ⟨b, hb, hr, he⟩
      simp at hb
      subst hb <;> simp at he hr <;> omega
    have hnB : ∀ b ∈ ([⟨W3.heap.size, 9, true, (strsV (init7 6 k))⟩] : List Bk), ¬ (b.g = pb ∨ b.g = lb ∨ b.g = mb) := by
      intro b hb hx2
      simp at hb
      subst hb <;> simp at hx2 <;> omega
    refine holds_go _ _ (lss_s18 K nk kcp k pb W3 W4 yc A2 n2 cp2) ⟨rfl, rfl, rfl, rfl, trivial⟩ ?_
    have hi5 : (losePl M).last.map strV = strsV (init7 6 k) := by rw [hk6]; exact lose_img hR.n
    refine holds_callW (w := w) (S' := (fun _ => False)) (Y := Nat) (fun g1 => .slice (some ⟨g1, 0, none⟩) 6 6) (fun g1 => [⟨W3.heap.size, 9, true, (strsV (init7 6 k))⟩, ⟨g1, 9, true, (strsV (init7 6 k))⟩]) (fun g1 W_ => W4.heap.size ≤ g1 ∧ PlatAt 53 56 W_ pb (losePl M)) (fun g1 => [(91, .slice (some ⟨g1, 0, none⟩) 6 6), (1, .slice A2 n2 cp2), (2, .slice K nk kcp), (6, .bool false), (8, (lss_p pb 0)), (12, .slice (some ⟨W3.heap.size, 0, none⟩) 6 6), (89, .bool ((0 : Int) != 0)), (90, (lss_p pb 0))]) (lss_c19 K nk kcp pb W3 A2 n2 cp2) ⟨rfl, trivial⟩ (fun _ => rfl) (fun wx hm => ?_) (fun g1 W5 hX5 hm5 => ?_)
    · refine (image_pl (losePl M) pb wx (hP4.kept hm.kept (fun x h => hnT x (hO.mine x h)))).mono fun e w' ⟨g, he, hg, hB, hk⟩ => ?_
      have hmo := MemOk.back2 hm4 hm
      have hsz : wx.heap.size = W4.heap.size := hm.size
      rw [hi5] at hB
      exact ⟨g, by rw [he]; exact congrArg (fun q => Ending.returned (.slice (some ⟨g, 0, none⟩) q q)) hO.n, ⟨by omega, (hP4.kept hm.kept (fun x h => hnT x (hO.mine x h))).kept hk (fun _ _ h => h)⟩, (MemOk.add hmo hk [⟨g, 9, true, strsV (init7 6 k)⟩] ⟨hB, trivial⟩ (by simp; omega) (by simp)).2⟩
    obtain ⟨hg1, hP5⟩ := hX5
    have hltW5 := hP5.lt.1
    have hgbW5_0 := (hm5.at_ 0 rfl).lt
    replace hgbW5_0 : W3.heap.size < W5.heap.size := hgbW5_0
    have hgbW5_1 := (hm5.at_ 1 rfl).lt
    replace hgbW5_1 : g1 < W5.heap.size := hgbW5_1
    clear hnT hnB
    have hnT : ∀ xx, (xx = pb ∨ xx = lb ∨ xx = mb) → ¬ Turned [⟨W3.heap.size, 9, true, (strsV (init7 6 k))⟩, ⟨g1, 9, true, (strsV (init7 6 k))⟩] xx := by
      rintro xx hx2 ⟨b, hb, hr, he⟩
      simp at hb
      rcases hb with rfl | rfl <;> simp at he hr <;> omega
    have hnB : ∀ b ∈ ([⟨W3.heap.size, 9, true, (strsV (init7 6 k))⟩, ⟨g1, 9, true, (strsV (init7 6 k))⟩] : List Bk), ¬ (b.g = pb ∨ b.g = lb ∨ b.g = mb) := by
      intro b hb hx2
      simp at hb
      rcases hb with rfl | rfl <;> simp at hx2 <;> omega
    refine holds_go _ _ (lss_s20 K nk kcp k pb W3 W5 g1 A2 n2 cp2) ⟨rfl, trivial⟩ ?_
    refine holds_callP (.bool true) (lss_c21 K nk kcp pb W3 g1 A2 n2 cp2) ⟨rfl, trivial⟩ rfl (fun wx hm => texts6_same g1 W3.heap.size 6 6 6 (by omega) (fun j => getB (init7 6 k) j) wx (fun j hj => strs_cell (hm.at_ 1 rfl) (by rw [init7_len (by omega)]; exact hj)) (fun j hj => strs_cell (hm.at_ 0 rfl) (by rw [init7_len (by omega)]; exact hj))) fun z21 hz21 => ?_
    replace hz21 : W5.heap.size ≤ z21 := hz21
    refine holds_go _ _ (lss_s22 K nk kcp k pb W3 g1 A2 n2 cp2 z21) ⟨rfl, rfl, rfl, trivial⟩ ?_
    refine holds_prune [1, 2, 6, 8, 12, 14] [true, false] ?_
    refine holds_loopW (w := w) (S' := fun _ => False) (LosesK1 K nk kcp lb mb pb W3 A2 n2 cp2) 30 (by kernel_rfl) (fun W6 hm => ⟨⟨0, (losePl M), init7 6 k, _, rfl, Nat.zero_le _, by rw [hk6]; exact hO3.2, (hP5.kept hm.kept (fun x h => hnT x (hO.mine x h))), rfl⟩, MemOk.back2 hm5 hm⟩) ?_
    rintro m4 _ W6 ⟨j, M2, now, z4, hmj, hjn, hR4, hP6, rfl⟩ hm6 J4 hJ4
    clear hO
    have hO := hR4.on
    clear hnT hnB
    have hlt6 := hP6.lt.1
    have hgb6 := (hm6.at_ 0 rfl).lt
    replace hgb6 : W3.heap.size < W6.heap.size := hgb6
    have hnT : ∀ xx, (xx = pb ∨ xx = lb ∨ xx = mb) → ¬ Turned [⟨W3.heap.size, 9, true, (strsV now)⟩] xx := by
      rintro xx hx2 ⟨b, hb, hr, he⟩
      simp at hb
      subst hb <;> simp at he hr <;> omega
    have hnB : ∀ b ∈ ([⟨W3.heap.size, 9, true, (strsV now)⟩] : List Bk), ¬ (b.g = pb ∨ b.g = lb ∨ b.g = mb) := by
      intro b hb hx2
      simp at hb
      subst hb <;> simp at hx2 <;> omega
    by_cases h3 : j < n2
    rotate_left
    · skip
      refine holds_go _ _ (lss_s23 K nk kcp pb now W3 W6 A2 n2 cp2 j J4) ⟨decide_eq_false (by omega), decide_eq_false (by omega), decide_eq_false (by omega), rfl, trivial⟩ ?_
      refine holds_callW (w := w) (S' := (fun _ => False)) (Y := Nat) (fun _ => .int .i64 0) (fun _ => [⟨W3.heap.size, 9, true, (strsV now)⟩]) (fun _ W_ => PlatAt 53 56 W_ pb (flushPl M2)) (fun _ => [(128, .int .i64 0), (2, .slice K nk kcp), (6, .bool false), (8, (lss_p pb 0)), (12, .slice (some ⟨W3.heap.size, 0, none⟩) 6 6), (127, (lss_p pb 0))]) (lss_c24 K nk kcp pb W3) trivial (fun _ => rfl) (fun wx hm => ?_) (fun _ W7 hP7 hm7 => ?_)
      · refine (flush_pl M2 pb (by have := hR4.acts; omega) wx (hP6.kept hm.kept (fun x h => hnT x (hO.mine x h)))).mono fun e w' ⟨h1, h2, h3⟩ => ?_
        rw [hO.goes] at h1
        exact ⟨0, h1, h2, (MemOk.back2 hm6 hm).off (fun _ h => h) h3 (fun x h => .inr (by have := hO.mine x h; omega)) (fun b hb h => hnB b hb (hO.mine _ h))⟩
      have hfl := hR4.flush hP6.ok
      have hO7 := hO.flush
      clear hO
      have hO := hO7
      have hltW7 := hP7.lt.1
      have hgbW7_0 := (hm7.at_ 0 rfl).lt
      replace hgbW7_0 : W3.heap.size < W7.heap.size := hgbW7_0
      clear hnT hnB
      have hnT : ∀ xx, (xx = pb ∨ xx = lb ∨ xx = mb) → ¬ Turned [⟨W3.heap.size, 9, true, (strsV now)⟩] xx := by
        rintro xx hx2 ⟨b, hb, hr, he⟩
        simp at hb
        subst hb <;> simp at he hr <;> omega
      have hnB : ∀ b ∈ ([⟨W3.heap.size, 9, true, (strsV now)⟩] : List Bk), ¬ (b.g = pb ∨ b.g = lb ∨ b.g = mb) := by
        intro b hb hx2
        simp at hb
        subst hb <;> simp at hx2 <;> omega
      refine holds_go _ _ (lss_s25 K nk kcp pb now W3 W7) trivial ?_
      refine holds_callW (w := w) (S' := (fun _ => False)) (Y := Nat) (fun _ => .tuple #[]) (fun _ => [⟨W3.heap.size, 9, true, (strsV now)⟩]) (fun _ W_ => PlatAt 53 56 W_ pb (restartPl (flushPl M2) (keepB nk kf))) (fun _ => [(131, .tuple #[]), (6, .bool false), (8, (lss_p pb 0)), (12, .slice (some ⟨W3.heap.size, 0, none⟩) 6 6), (16, .int .i64 0), (129, (lss_p pb 0)), (130, .slice K nk kcp)]) (lss_c26 K nk kcp pb W3) trivial (fun _ => rfl) (fun wx hm => ?_) (fun _ W8 hP8 hm8 => ?_)
      · refine (restart_pl (flushPl M2) pb K nk kcp kf wx (hP7.kept hm.kept (fun x h => hnT x (hO.mine x h))) (fun k hk => by obtain ⟨_, b, o, hA, hb, hc⟩ := HK k hk; have hq := MemOk.back2 hm7 hm; exact ⟨b, o, hA, Nat.lt_of_lt_of_le hb hq.kept.size, fun hx => (by have := hO.mine _ hx; omega), (hq.kept.cell (p := ⟨b, o + k * 1 + 0, none⟩) hb id).trans (hc 0 (by omega))⟩)).mono fun e w' ⟨h1, h2, h3⟩ => ?_
        exact ⟨0, h1, h2, (MemOk.back2 hm7 hm).off (fun _ h => h) h3 (fun x h => .inr (by have := hO.mine x h; omega)) (fun b hb h => hnB b hb (hO.mine _ h))⟩
      have hi8 : (restartPl (flushPl M2) (keepB nk kf)).last.map strV = strsV now := by rw [restart_last (M := flushPl M2) hfl.1]; exact hfl.2
      have hO8 := restart_on hO (keepB nk kf)
      clear hO
      have hO := hO8
      have hltW8 := hP8.lt.1
      have hgbW8_0 := (hm8.at_ 0 rfl).lt
      replace hgbW8_0 : W3.heap.size < W8.heap.size := hgbW8_0
      clear hnT hnB
      have hnT : ∀ xx, (xx = pb ∨ xx = lb ∨ xx = mb) → ¬ Turned [⟨W3.heap.size, 9, true, (strsV now)⟩] xx := by
        rintro xx hx2 ⟨b, hb, hr, he⟩
        simp at hb
        subst hb <;> simp at he hr <;> omega
      have hnB : ∀ b ∈ ([⟨W3.heap.size, 9, true, (strsV now)⟩] : List Bk), ¬ (b.g = pb ∨ b.g = lb ∨ b.g = mb) := by
        intro b hb hx2
        simp at hb
        subst hb <;> simp at hx2 <;> omega
      refine holds_go _ _ (lss_s27 K nk kcp pb now W3 W8) ⟨rfl, trivial⟩ ?_
      refine holds_callW (w := w) (S' := (fun _ => False)) (Y := Nat) (fun g2 => .slice (some ⟨g2, 0, none⟩) 6 6) (fun g2 => [⟨W3.heap.size, 9, true, (strsV now)⟩, ⟨g2, 9, true, (strsV now)⟩]) (fun g2 W_ => W8.heap.size ≤ g2 ∧ PlatAt 53 56 W_ pb (restartPl (flushPl M2) (keepB nk kf))) (fun g2 => [(136, .slice (some ⟨g2, 0, none⟩) 6 6), (6, .bool false), (12, .slice (some ⟨W3.heap.size, 0, none⟩) 6 6), (134, .bool true), (135, (lss_p pb 0))]) (lss_c28 pb W3) ⟨rfl, trivial⟩ (fun _ => rfl) (fun wx hm => ?_) (fun g2 W9 hX9 hm9 => ?_)
      · refine (image_pl (restartPl (flushPl M2) (keepB nk kf)) pb wx (hP8.kept hm.kept (fun x h => hnT x (hO.mine x h)))).mono fun e w' ⟨g, he, hg, hB, hk⟩ => ?_
        have hmo := MemOk.back2 hm8 hm
        have hsz : wx.heap.size = W8.heap.size := hm.size
        rw [hi8] at hB
        exact ⟨g, by rw [he]; exact congrArg (fun q => Ending.returned (.slice (some ⟨g, 0, none⟩) q q)) hO.n, ⟨by omega, (hP8.kept hm.kept (fun x h => hnT x (hO.mine x h))).kept hk (fun _ _ h => h)⟩, (MemOk.add hmo hk [⟨g, 9, true, strsV now⟩] ⟨hB, trivial⟩ (by simp; omega) (by simp)).2⟩
      refine holds_go _ _ (lss_s29 pb now W3 W9 g2) ⟨rfl, trivial⟩ ?_
      refine holds_callP (.bool true) (lss_c30 W3 g2) ⟨rfl, trivial⟩ rfl (fun wx hm => texts6_same g2 W3.heap.size 6 6 6 (by omega) (fun j => getB now j) wx (fun j hj => strs_cell (hm.at_ 1 rfl) (by rw [hR4.len]; exact hj)) (fun j hj => strs_cell (hm.at_ 0 rfl) (by rw [hR4.len]; exact hj))) fun z30 hz30 => ?_
      replace hz30 : W9.heap.size ≤ z30 := hz30
      refine holds_go _ _ (lss_s31 now W3 g2 z30) ⟨rfl, trivial⟩ ?_
      refine holds_ret [] (by kernel_rfl) (lss_r32 now W3 g2) ?_
      intro wx hm
      exact ⟨rfl, (MemOk.back2 hm9 hm).kept⟩
    by_cases h4 : j < 30
    rotate_left
    · skip
      refine holds_go _ _ (lss_s33 K nk kcp pb now W3 W6 A2 n2 cp2 j J4) ⟨decide_eq_true (by omega), decide_eq_true (by omega), decide_eq_true (by omega), decide_eq_false (by omega), trivial⟩ ?_
      refine holds_callW (w := w) (S' := (fun _ => False)) (Y := Nat) (fun _ => .int .i64 0) (fun _ => [⟨W3.heap.size, 9, true, (strsV now)⟩]) (fun _ W_ => PlatAt 53 56 W_ pb (flushPl M2)) (fun _ => [(128, .int .i64 0), (2, .slice K nk kcp), (6, .bool false), (8, (lss_p pb 0)), (12, .slice (some ⟨W3.heap.size, 0, none⟩) 6 6), (127, (lss_p pb 0))]) (lss_c34 K nk kcp pb W3) trivial (fun _ => rfl) (fun wx hm => ?_) (fun _ W7 hP7 hm7 => ?_)
      · refine (flush_pl M2 pb (by have := hR4.acts; omega) wx (hP6.kept hm.kept (fun x h => hnT x (hO.mine x h)))).mono fun e w' ⟨h1, h2, h3⟩ => ?_
        rw [hO.goes] at h1
        exact ⟨0, h1, h2, (MemOk.back2 hm6 hm).off (fun _ h => h) h3 (fun x h => .inr (by have := hO.mine x h; omega)) (fun b hb h => hnB b hb (hO.mine _ h))⟩
      have hfl := hR4.flush hP6.ok
      have hO7 := hO.flush
      clear hO
      have hO := hO7
      have hltW7 := hP7.lt.1
      have hgbW7_0 := (hm7.at_ 0 rfl).lt
      replace hgbW7_0 : W3.heap.size < W7.heap.size := hgbW7_0
      clear hnT hnB
      have hnT : ∀ xx, (xx = pb ∨ xx = lb ∨ xx = mb) → ¬ Turned [⟨W3.heap.size, 9, true, (strsV now)⟩] xx := by
        rintro xx hx2 ⟨b, hb, hr, he⟩
        simp at hb
        subst hb <;> simp at he hr <;> omega
      have hnB : ∀ b ∈ ([⟨W3.heap.size, 9, true, (strsV now)⟩] : List Bk), ¬ (b.g = pb ∨ b.g = lb ∨ b.g = mb) := by
        intro b hb hx2
        simp at hb
        subst hb <;> simp at hx2 <;> omega
      refine holds_go _ _ (lss_s35 K nk kcp pb now W3 W7) trivial ?_
      refine holds_callW (w := w) (S' := (fun _ => False)) (Y := Nat) (fun _ => .tuple #[]) (fun _ => [⟨W3.heap.size, 9, true, (strsV now)⟩]) (fun _ W_ => PlatAt 53 56 W_ pb (restartPl (flushPl M2) (keepB nk kf))) (fun _ => [(131, .tuple #[]), (6, .bool false), (8, (lss_p pb 0)), (12, .slice (some ⟨W3.heap.size, 0, none⟩) 6 6), (16, .int .i64 0), (129, (lss_p pb 0)), (130, .slice K nk kcp)]) (lss_c36 K nk kcp pb W3) trivial (fun _ => rfl) (fun wx hm => ?_) (fun _ W8 hP8 hm8 => ?_)
      · refine (restart_pl (flushPl M2) pb K nk kcp kf wx (hP7.kept hm.kept (fun x h => hnT x (hO.mine x h))) (fun k hk => by obtain ⟨_, b, o, hA, hb, hc⟩ := HK k hk; have hq := MemOk.back2 hm7 hm; exact ⟨b, o, hA, Nat.lt_of_lt_of_le hb hq.kept.size, fun hx => (by have := hO.mine _ hx; omega), (hq.kept.cell (p := ⟨b, o + k * 1 + 0, none⟩) hb id).trans (hc 0 (by omega))⟩)).mono fun e w' ⟨h1, h2, h3⟩ => ?_
        exact ⟨0, h1, h2, (MemOk.back2 hm7 hm).off (fun _ h => h) h3 (fun x h => .inr (by have := hO.mine x h; omega)) (fun b hb h => hnB b hb (hO.mine _ h))⟩
      have hi8 : (restartPl (flushPl M2) (keepB nk kf)).last.map strV = strsV now := by rw [restart_last (M := flushPl M2) hfl.1]; exact hfl.2
      have hO8 := restart_on hO (keepB nk kf)
      clear hO
      have hO := hO8
      have hltW8 := hP8.lt.1
      have hgbW8_0 := (hm8.at_ 0 rfl).lt
      replace hgbW8_0 : W3.heap.size < W8.heap.size := hgbW8_0
      clear hnT hnB
      have hnT : ∀ xx, (xx = pb ∨ xx = lb ∨ xx = mb) → ¬ Turned [⟨W3.heap.size, 9, true, (strsV now)⟩] xx := by
        rintro xx hx2 ⟨b, hb, hr, he⟩
        simp at hb
        subst hb <;> simp at he hr <;> omega
      have hnB : ∀ b ∈ ([⟨W3.heap.size, 9, true, (strsV now)⟩] : List Bk), ¬ (b.g = pb ∨ b.g = lb ∨ b.g = mb) := by
        intro b hb hx2
        simp at hb
        subst hb <;> simp at hx2 <;> omega
      refine holds_go _ _ (lss_s37 K nk kcp pb now W3 W8) ⟨rfl, trivial⟩ ?_
      refine holds_callW (w := w) (S' := (fun _ => False)) (Y := Nat) (fun g2 => .slice (some ⟨g2, 0, none⟩) 6 6) (fun g2 => [⟨W3.heap.size, 9, true, (strsV now)⟩, ⟨g2, 9, true, (strsV now)⟩]) (fun g2 W_ => W8.heap.size ≤ g2 ∧ PlatAt 53 56 W_ pb (restartPl (flushPl M2) (keepB nk kf))) (fun g2 => [(136, .slice (some ⟨g2, 0, none⟩) 6 6), (6, .bool false), (12, .slice (some ⟨W3.heap.size, 0, none⟩) 6 6), (134, .bool true), (135, (lss_p pb 0))]) (lss_c38 pb W3) ⟨rfl, trivial⟩ (fun _ => rfl) (fun wx hm => ?_) (fun g2 W9 hX9 hm9 => ?_)
      · refine (image_pl (restartPl (flushPl M2) (keepB nk kf)) pb wx (hP8.kept hm.kept (fun x h => hnT x (hO.mine x h)))).mono fun e w' ⟨g, he, hg, hB, hk⟩ => ?_
        have hmo := MemOk.back2 hm8 hm
        have hsz : wx.heap.size = W8.heap.size := hm.size
        rw [hi8] at hB
        exact ⟨g, by rw [he]; exact congrArg (fun q => Ending.returned (.slice (some ⟨g, 0, none⟩) q q)) hO.n, ⟨by omega, (hP8.kept hm.kept (fun x h => hnT x (hO.mine x h))).kept hk (fun _ _ h => h)⟩, (MemOk.add hmo hk [⟨g, 9, true, strsV now⟩] ⟨hB, trivial⟩ (by simp; omega) (by simp)).2⟩
      refine holds_go _ _ (lss_s39 pb now W3 W9 g2) ⟨rfl, trivial⟩ ?_
      refine holds_callP (.bool true) (lss_c40 W3 g2) ⟨rfl, trivial⟩ rfl (fun wx hm => texts6_same g2 W3.heap.size 6 6 6 (by omega) (fun j => getB now j) wx (fun j hj => strs_cell (hm.at_ 1 rfl) (by rw [hR4.len]; exact hj)) (fun j hj => strs_cell (hm.at_ 0 rfl) (by rw [hR4.len]; exact hj))) fun z40 hz40 => ?_
      replace hz40 : W9.heap.size ≤ z40 := hz40
      refine holds_go _ _ (lss_s41 now W3 g2 z40) ⟨rfl, trivial⟩ ?_
      refine holds_ret [] (by kernel_rfl) (lss_r42 now W3 g2) ?_
      intro wx hm
      exact ⟨rfl, (MemOk.back2 hm9 hm).kept⟩
    obtain ⟨ha, b, o, rfl, hb, hc⟩ := HA2 j h3
    obtain ⟨B, hB⟩ : ∃ B, pickZ (nums j).v 6 = B := ⟨_, rfl⟩
    have hBb : 0 ≤ B ∧ B < 6 := by
      have h := pickZ_bd (nums j).v 6 (by omega)
      rw [hB] at h
      exact h
    refine holds_wins [⟨b, o + j * 1, (nums j).cells⟩] (fun _ x hx => ?_) ?_
    · simp only [List.mem_singleton] at hx
      subst hx
      refine ⟨?_, win_kept hb hc rfl hm6.kept id⟩
      rintro ⟨c, hcb, hr, he⟩
      simp at hcb
      subst hcb
      simp at he
      omega
    refine holds_go _ _ (lss_s43 K nk kcp b o nums pb now W3 W6 n2 cp2 j J4) ⟨decide_eq_true (by omega), decide_eq_true (by omega), decide_eq_true (by omega), decide_eq_true (by omega), ⟨by omega, by omega⟩, trivial⟩ ?_
    refine holds_callP (.int .i64 B) (lss_c44 K nk kcp b o nums pb W3 n2 cp2 j) trivial rfl (fun wx hm => pick7 _ _ _ hB wx (by omega) (by omega) ha.v) fun z44 hz44 => ?_
    replace hz44 : W6.heap.size ≤ z44 := hz44
    refine holds_go _ _ (lss_s45 K nk kcp b o nums B pb now W3 n2 cp2 j J4 z44) ⟨⟨by omega, by omega⟩, trivial⟩ ?_
    refine holds_callP (.string (sec7 (nums j).v)) (lss_c46 K nk kcp b o nums B pb W3 n2 cp2 j) trivial rfl (fun wx hm => sector_any _ ha.v wx) fun z46 hz46 => ?_
    replace hz46 : z44 ≤ z46 := hz46
    refine holds_go _ _ (lss_s47 K nk kcp b o nums B pb now W3 n2 cp2 j J4 z46) ⟨⟨by omega, by omega⟩, trivial⟩ ?_
    refine holds_opS (x := Instr.storeAt 9 (.pointer (some ⟨W3.heap.size, 0 + (Int.toNat B) * 1, none⟩)) (.string (sec7 (nums j).v))) [⟨W3.heap.size, 9, true, (strsV (List.set now (Int.toNat B) (sec7 (nums j).v)))⟩] (by kernel_rfl) (by kernel_rfl) rfl (fun wx hm => ?_) (fun z48 hz48 => ?_)
    · exact store_str (P := Try.prog) (t := 9) hm (i := 0) (k := Int.toNat B) rfl (by rw [hR4.len]; omega) (by kernel_rfl)
    replace hz48 : z46 ≤ z48 := hz48
    refine holds_go _ _ (lss_s49 K nk kcp b o nums B pb now W3 n2 cp2 j J4 z48) ⟨⟨by omega, by omega⟩, trivial⟩ ?_
    refine holds_opR (dst := (some 124)) (x := Instr.loadAt 9 (.pointer (some ⟨W3.heap.size, 0 + (Int.toNat B) * 1, none⟩))) (.string (sec7 (nums j).v)) (by kernel_rfl) (by kernel_rfl) rfl (fun wx hm => ?_) ?_
    · have h := load_str (P := Try.prog) (t := 9) (k := Int.toNat B) hm (i := 0) rfl (by rw [List.length_set, hR4.len]; omega) (by kernel_rfl)
      rw [getB_set (by rw [hR4.len]; omega), if_pos rfl] at h
      exact h
    refine holds_go _ _ (lss_s51 K nk kcp b o nums B pb now W3 n2 cp2 j J4 z48) trivial ?_
    clear hnB
    have hnB : ∀ b ∈ ([⟨W3.heap.size, 9, true, (strsV (List.set now (Int.toNat B) (sec7 (nums j).v)))⟩] : List Bk), ¬ (b.g = pb ∨ b.g = lb ∨ b.g = mb) := by
      intro b hb hx2
      simp at hb
      subst hb <;> simp at hx2 <;> omega
    refine holds_callW (w := w) (S' := (fun _ => False)) (Y := Nat) (fun _ => .int .i64 0) (fun _ => [⟨W3.heap.size, 9, true, (strsV (List.set now (Int.toNat B) (sec7 (nums j).v)))⟩]) (fun _ W_ => PlatAt 53 56 W_ pb (writePl M2 B (intsOf (sec7 (nums j).v)))) (fun _ => [(125, .int .i64 0), (1, .slice (some ⟨b, o, none⟩) n2 cp2), (2, .slice K nk kcp), (6, .bool false), (8, (lss_p pb 0)), (12, .slice (some ⟨W3.heap.size, 0, none⟩) 6 6), (14, .int .i64 (j : Int)), (119, (lss_p pb 0)), (120, .int .i64 B), (124, .string (sec7 (nums j).v))]) (lss_c52 K nk kcp b o nums B pb W3 n2 cp2 j) trivial (fun _ => rfl) (fun wx hm => ?_) (fun _ W7 hP7 hm7 => ?_)
    · refine (write_pl M2 pb B (sec7 (nums j).v) (by have := hR4.acts; omega) (by rw [hO.n]; exact hBb) (size_sec7 _) wx (hP6.kept hm.kept (fun x h => hnT x (hO.mine x h)))).mono fun e w' ⟨h1, h2, h3⟩ => ?_
      rw [hO.goes] at h1
      exact ⟨0, h1, h2, (MemOk.back2 hm6 hm).off (fun _ h => h) h3 (fun x h => .inr (by have := hO.mine x h; omega)) (fun b hb h => hnB b hb (hO.mine _ h))⟩
    refine holds_go _ _ (lss_s53 K nk kcp b o nums B pb now W3 W7 n2 cp2 j J4) ⟨rfl, in64 (by omega), trivial⟩ ?_
    have hR5 := lk_write hR4 hP6.ok hBb (nums j).v
    have hO5 := hR5.on
    have hnT2 : ∀ xx, (xx = pb ∨ xx = lb ∨ xx = mb) → ¬ Turned [⟨W3.heap.size, 9, true, (strsV (List.set now (Int.toNat B) (sec7 (nums j).v)))⟩] xx := by
      rintro xx hx2 ⟨b, hb, hr, he⟩
      simp at hb
      subst hb
      simp at he
      omega
    intro a_ w9 hf hm
    exact hJ4 (m4 - 1) _ a_ w9 (by omega) ⟨j + 1, _, (List.set now (Int.toNat B) (sec7 (nums j).v)), _, by omega, by omega, hR5, hP7.kept hm.kept (fun x h => hnT2 x (hO5.mine x h)), by rw [← cast_succ j]⟩ hf (MemOk.back2 hm7 hm)
  by_cases h2 : i < 60
  rotate_left
  · skip
    refine holds_go _ _ (lss_s54 A n cp K nk kcp i pb W2 J A2 n2 cp2) ⟨decide_eq_true (by omega), decide_eq_true (by omega), decide_eq_true (by omega), decide_eq_false (by omega), trivial⟩ ?_
    refine holds_callW (w := w) (S' := (fun _ => False)) (Y := Nat) (fun _ => .tuple #[]) (fun _ => []) (fun _ W_ => PlatAt 53 56 W_ pb (losePl M)) (fun _ => [(70, .tuple #[]), (1, .slice A2 n2 cp2), (2, .slice K nk kcp), (6, .bool false), (8, (lss_p pb 0)), (69, (lss_p pb 0))]) (lss_c55 K nk kcp pb A2 n2 cp2) trivial (fun _ => rfl) (fun wx hm => ?_) (fun _ W3 hP3 hm3 => ?_)
    · refine (lose_pl M pb wx (hP.kept hm.kept (fun x h => hnT x (hO.mine x h)))).mono fun e w' ⟨h1, h2, h3⟩ => ?_
      exact ⟨0, h1, h2, (MemOk.back2 hm2 hm).off (fun _ h => h) h3 (fun x h => .inr (by have := hO.mine x h; omega)) (fun b hb h => hnB b hb (hO.mine _ h))⟩
    have hO3 := hR.lose (by omega)
    clear hO
    have hO := hO3.1
    have hltW3 := hP3.lt.1
    clear hnT hnB
    have hnT : ∀ xx, (xx = pb ∨ xx = lb ∨ xx = mb) → ¬ Turned [] xx := by
      rintro xx _ ⟨b, hb, hr, he⟩
      simp at hb
    have hnB : ∀ b ∈ ([] : List Bk), ¬ (b.g = pb ∨ b.g = lb ∨ b.g = mb) := by simp
    refine holds_go _ _ (lss_s56 K nk kcp pb W3 A2 n2 cp2) trivial ?_
    refine holds_loop (LosesJ2 K nk kcp pb W3 A2 n2 cp2) 6 (by kernel_rfl) ⟨0, _, rfl, Nat.le_refl _, rfl⟩ ?_
    rintro m3 _ ⟨k, z, hmk3, hz3, rfl⟩ J2 hJ2
    by_cases h6 : k < 6
    · skip
      refine holds_go _ _ (lss_s57 K nk kcp k pb z W3 J2 A2 n2 cp2) ⟨decide_eq_true (by omega), trivial⟩ ?_
      refine holds_opR (dst := (some 79)) (x := convert 30 9 (.slice (some ⟨z, 0, none⟩) 64 64)) (.string zero64) (by kernel_rfl) (by kernel_rfl) rfl (fun wx hm => ?_) ?_
      · exact run_bytesAt (P := Try.prog) wx 30 9 5 _ _ _ _ _ zeroSec [] [] (by kernel_rfl) (by kernel_rfl) (by kernel_rfl) (hm.at_ 1 rfl) rfl rfl secOk_zero.2
      refine holds_go _ _ (lss_s59 K nk kcp k pb z W3 J2 A2 n2 cp2) ⟨⟨by omega, by omega⟩, trivial⟩ ?_
      refine holds_opS (x := Instr.storeAt 9 (.pointer (some ⟨W3.heap.size, 0 + k * 1, none⟩)) (.string zero64)) [⟨W3.heap.size, 9, true, (strsV (init7 6 (k + 1)))⟩, ⟨z, 5, true, (lss_v1)⟩] (by kernel_rfl) (by kernel_rfl) rfl (fun wx hm => ?_) (fun z60 hz60 => ?_)
      · have h := store_str (P := Try.prog) (t := 9) (s := zero64) hm (i := 0) (k := k) rfl (by rw [init7_len (by omega)]; exact h6) (by kernel_rfl)
        rw [init7_set h6] at h
        exact h
      replace hz60 : z + 1 ≤ z60 := hz60
      refine holds_go _ _ (lss_s61 K nk kcp k pb z W3 J2 A2 n2 cp2 z60) ⟨in64 (by omega), trivial⟩ ?_
      refine holds_prune [1, 2, 6, 8, 12, 13] [true, false] ?_
      exact hJ2 (m3 - 1) _ (by omega) ⟨k + 1, z60, by omega, by omega, by rw [cast_succ]; rfl⟩
    have hk6 : k = 6 := by omega
    clear hJ2
    refine holds_go _ _ (lss_s62 K nk kcp k pb z W3 J2 A2 n2 cp2) ⟨decide_eq_false (by omega), trivial⟩ ?_
    refine holds_callP (.bool false) (lss_c63 K nk kcp pb W3 A2 n2 cp2) trivial rfl (fun wx hm => off_pl (losePl M) pb wx (hP3.kept hm.kept (fun x h => hnT x (hO.mine x h)))) fun z63 hz63 => ?_
    replace hz63 : z ≤ z63 := hz63
    refine holds_go _ _ (lss_s64 K nk kcp k pb W3 A2 n2 cp2 z63) ⟨rfl, trivial⟩ ?_
    refine holds_callW (w := w) (S' := (fun _ => False)) (Y := Option Addr × Nat) (fun yc => .slice yc.1 0 yc.2) (fun yc => [⟨W3.heap.size, 9, true, (strsV (init7 6 k))⟩]) (fun yc W_ => PlatAt 53 56 W_ pb (losePl M)) (fun yc => [(85, .slice yc.1 0 yc.2), (1, .slice A2 n2 cp2), (2, .slice K nk kcp), (6, .bool false), (8, (lss_p pb 0)), (12, .slice (some ⟨W3.heap.size, 0, none⟩) 6 6), (83, .bool false), (84, (lss_p pb 0))]) (lss_c65 K nk kcp pb W3 A2 n2 cp2) ⟨rfl, trivial⟩ (fun _ => rfl) (fun wx hm => ?_) (fun yc W4 hP4 hm4 => ?_)
    · refine (cached_pl (losePl M) pb wx (hP3.kept hm.kept (fun x h => hnT x (hO.mine x h)))).mono fun e w' ⟨A, cq, he, _, hk⟩ => ?_
      exact ⟨(A, cq), he, (hP3.kept hm.kept (fun x h => hnT x (hO.mine x h))).kept hk (fun _ _ h => h), ((MemOk.back2 hm3 hm).same hk).2⟩
    have hltW4 := hP4.lt.1
    have hgbW4_0 := (hm4.at_ 0 rfl).lt
    replace hgbW4_0 : W3.heap.size < W4.heap.size := hgbW4_0
    clear hnT hnB
    have hnT : ∀ xx, (xx = pb ∨ xx = lb ∨ xx = mb) → ¬ Turned [⟨W3.heap.size, 9, true, (strsV (init7 6 k))⟩] xx := by
      rintro xx hx2 ⟨b, hb, hr, he⟩
      simp at hb
      subst hb <;> simp at he hr <;> omega
    have hnB : ∀ b ∈ ([⟨W3.heap.size, 9, true, (strsV (init7 6 k))⟩] : List Bk), ¬ (b.g = pb ∨ b.g = lb ∨ b.g = mb) := by
      intro b hb hx2
      simp at hb
      subst hb <;> simp at hx2 <;> omega
    refine holds_go _ _ (lss_s66 K nk kcp k pb W3 W4 yc A2 n2 cp2) ⟨rfl, rfl, rfl, rfl, trivial⟩ ?_
    have hi5 : (losePl M).last.map strV = strsV (init7 6 k) := by rw [hk6]; exact lose_img hR.n
    refine holds_callW (w := w) (S' := (fun _ => False)) (Y := Nat) (fun g1 => .slice (some ⟨g1, 0, none⟩) 6 6) (fun g1 => [⟨W3.heap.size, 9, true, (strsV (init7 6 k))⟩, ⟨g1, 9, true, (strsV (init7 6 k))⟩]) (fun g1 W_ => W4.heap.size ≤ g1 ∧ PlatAt 53 56 W_ pb (losePl M)) (fun g1 => [(91, .slice (some ⟨g1, 0, none⟩) 6 6), (1, .slice A2 n2 cp2), (2, .slice K nk kcp), (6, .bool false), (8, (lss_p pb 0)), (12, .slice (some ⟨W3.heap.size, 0, none⟩) 6 6), (89, .bool ((0 : Int) != 0)), (90, (lss_p pb 0))]) (lss_c67 K nk kcp pb W3 A2 n2 cp2) ⟨rfl, trivial⟩ (fun _ => rfl) (fun wx hm => ?_) (fun g1 W5 hX5 hm5 => ?_)
    · refine (image_pl (losePl M) pb wx (hP4.kept hm.kept (fun x h => hnT x (hO.mine x h)))).mono fun e w' ⟨g, he, hg, hB, hk⟩ => ?_
      have hmo := MemOk.back2 hm4 hm
      have hsz : wx.heap.size = W4.heap.size := hm.size
      rw [hi5] at hB
      exact ⟨g, by rw [he]; exact congrArg (fun q => Ending.returned (.slice (some ⟨g, 0, none⟩) q q)) hO.n, ⟨by omega, (hP4.kept hm.kept (fun x h => hnT x (hO.mine x h))).kept hk (fun _ _ h => h)⟩, (MemOk.add hmo hk [⟨g, 9, true, strsV (init7 6 k)⟩] ⟨hB, trivial⟩ (by simp; omega) (by simp)).2⟩
    obtain ⟨hg1, hP5⟩ := hX5
    have hltW5 := hP5.lt.1
    have hgbW5_0 := (hm5.at_ 0 rfl).lt
    replace hgbW5_0 : W3.heap.size < W5.heap.size := hgbW5_0
    have hgbW5_1 := (hm5.at_ 1 rfl).lt
    replace hgbW5_1 : g1 < W5.heap.size := hgbW5_1
    clear hnT hnB
    have hnT : ∀ xx, (xx = pb ∨ xx = lb ∨ xx = mb) → ¬ Turned [⟨W3.heap.size, 9, true, (strsV (init7 6 k))⟩, ⟨g1, 9, true, (strsV (init7 6 k))⟩] xx := by
      rintro xx hx2 ⟨b, hb, hr, he⟩
      simp at hb
      rcases hb with rfl | rfl <;> simp at he hr <;> omega
    have hnB : ∀ b ∈ ([⟨W3.heap.size, 9, true, (strsV (init7 6 k))⟩, ⟨g1, 9, true, (strsV (init7 6 k))⟩] : List Bk), ¬ (b.g = pb ∨ b.g = lb ∨ b.g = mb) := by
      intro b hb hx2
      simp at hb
      rcases hb with rfl | rfl <;> simp at hx2 <;> omega
    refine holds_go _ _ (lss_s68 K nk kcp k pb W3 W5 g1 A2 n2 cp2) ⟨rfl, trivial⟩ ?_
    refine holds_callP (.bool true) (lss_c69 K nk kcp pb W3 g1 A2 n2 cp2) ⟨rfl, trivial⟩ rfl (fun wx hm => texts6_same g1 W3.heap.size 6 6 6 (by omega) (fun j => getB (init7 6 k) j) wx (fun j hj => strs_cell (hm.at_ 1 rfl) (by rw [init7_len (by omega)]; exact hj)) (fun j hj => strs_cell (hm.at_ 0 rfl) (by rw [init7_len (by omega)]; exact hj))) fun z69 hz69 => ?_
    replace hz69 : W5.heap.size ≤ z69 := hz69
    refine holds_go _ _ (lss_s70 K nk kcp k pb W3 g1 A2 n2 cp2 z69) ⟨rfl, rfl, rfl, trivial⟩ ?_
    refine holds_prune [1, 2, 6, 8, 12, 14] [true, false] ?_
    refine holds_loopW (w := w) (S' := fun _ => False) (LosesK2 K nk kcp lb mb pb W3 A2 n2 cp2) 30 (by kernel_rfl) (fun W6 hm => ⟨⟨0, (losePl M), init7 6 k, _, rfl, Nat.zero_le _, by rw [hk6]; exact hO3.2, (hP5.kept hm.kept (fun x h => hnT x (hO.mine x h))), rfl⟩, MemOk.back2 hm5 hm⟩) ?_
    rintro m4 _ W6 ⟨j, M2, now, z4, hmj, hjn, hR4, hP6, rfl⟩ hm6 J4 hJ4
    clear hO
    have hO := hR4.on
    clear hnT hnB
    have hlt6 := hP6.lt.1
    have hgb6 := (hm6.at_ 0 rfl).lt
    replace hgb6 : W3.heap.size < W6.heap.size := hgb6
    have hnT : ∀ xx, (xx = pb ∨ xx = lb ∨ xx = mb) → ¬ Turned [⟨W3.heap.size, 9, true, (strsV now)⟩] xx := by
      rintro xx hx2 ⟨b, hb, hr, he⟩
      simp at hb
      subst hb <;> simp at he hr <;> omega
    have hnB : ∀ b ∈ ([⟨W3.heap.size, 9, true, (strsV now)⟩] : List Bk), ¬ (b.g = pb ∨ b.g = lb ∨ b.g = mb) := by
      intro b hb hx2
      simp at hb
      subst hb <;> simp at hx2 <;> omega
    by_cases h3 : j < n2
    rotate_left
    · skip
      refine holds_go _ _ (lss_s71 K nk kcp pb now W3 W6 A2 n2 cp2 j J4) ⟨decide_eq_false (by omega), decide_eq_false (by omega), decide_eq_false (by omega), rfl, trivial⟩ ?_
      refine holds_callW (w := w) (S' := (fun _ => False)) (Y := Nat) (fun _ => .int .i64 0) (fun _ => [⟨W3.heap.size, 9, true, (strsV now)⟩]) (fun _ W_ => PlatAt 53 56 W_ pb (flushPl M2)) (fun _ => [(128, .int .i64 0), (2, .slice K nk kcp), (6, .bool false), (8, (lss_p pb 0)), (12, .slice (some ⟨W3.heap.size, 0, none⟩) 6 6), (127, (lss_p pb 0))]) (lss_c72 K nk kcp pb W3) trivial (fun _ => rfl) (fun wx hm => ?_) (fun _ W7 hP7 hm7 => ?_)
      · refine (flush_pl M2 pb (by have := hR4.acts; omega) wx (hP6.kept hm.kept (fun x h => hnT x (hO.mine x h)))).mono fun e w' ⟨h1, h2, h3⟩ => ?_
        rw [hO.goes] at h1
        exact ⟨0, h1, h2, (MemOk.back2 hm6 hm).off (fun _ h => h) h3 (fun x h => .inr (by have := hO.mine x h; omega)) (fun b hb h => hnB b hb (hO.mine _ h))⟩
      have hfl := hR4.flush hP6.ok
      have hO7 := hO.flush
      clear hO
      have hO := hO7
      have hltW7 := hP7.lt.1
      have hgbW7_0 := (hm7.at_ 0 rfl).lt
      replace hgbW7_0 : W3.heap.size < W7.heap.size := hgbW7_0
      clear hnT hnB
      have hnT : ∀ xx, (xx = pb ∨ xx = lb ∨ xx = mb) → ¬ Turned [⟨W3.heap.size, 9, true, (strsV now)⟩] xx := by
        rintro xx hx2 ⟨b, hb, hr, he⟩
        simp at hb
        subst hb <;> simp at he hr <;> omega
      have hnB : ∀ b ∈ ([⟨W3.heap.size, 9, true, (strsV now)⟩] : List Bk), ¬ (b.g = pb ∨ b.g = lb ∨ b.g = mb) := by
        intro b hb hx2
        simp at hb
        subst hb <;> simp at hx2 <;> omega
      refine holds_go _ _ (lss_s73 K nk kcp pb now W3 W7) trivial ?_
      refine holds_callW (w := w) (S' := (fun _ => False)) (Y := Nat) (fun _ => .tuple #[]) (fun _ => [⟨W3.heap.size, 9, true, (strsV now)⟩]) (fun _ W_ => PlatAt 53 56 W_ pb (restartPl (flushPl M2) (keepB nk kf))) (fun _ => [(131, .tuple #[]), (6, .bool false), (8, (lss_p pb 0)), (12, .slice (some ⟨W3.heap.size, 0, none⟩) 6 6), (16, .int .i64 0), (129, (lss_p pb 0)), (130, .slice K nk kcp)]) (lss_c74 K nk kcp pb W3) trivial (fun _ => rfl) (fun wx hm => ?_) (fun _ W8 hP8 hm8 => ?_)
      · refine (restart_pl (flushPl M2) pb K nk kcp kf wx (hP7.kept hm.kept (fun x h => hnT x (hO.mine x h))) (fun k hk => by obtain ⟨_, b, o, hA, hb, hc⟩ := HK k hk; have hq := MemOk.back2 hm7 hm; exact ⟨b, o, hA, Nat.lt_of_lt_of_le hb hq.kept.size, fun hx => (by have := hO.mine _ hx; omega), (hq.kept.cell (p := ⟨b, o + k * 1 + 0, none⟩) hb id).trans (hc 0 (by omega))⟩)).mono fun e w' ⟨h1, h2, h3⟩ => ?_
        exact ⟨0, h1, h2, (MemOk.back2 hm7 hm).off (fun _ h => h) h3 (fun x h => .inr (by have := hO.mine x h; omega)) (fun b hb h => hnB b hb (hO.mine _ h))⟩
      have hi8 : (restartPl (flushPl M2) (keepB nk kf)).last.map strV = strsV now := by rw [restart_last (M := flushPl M2) hfl.1]; exact hfl.2
      have hO8 := restart_on hO (keepB nk kf)
      clear hO
      have hO := hO8
      have hltW8 := hP8.lt.1
      have hgbW8_0 := (hm8.at_ 0 rfl).lt
      replace hgbW8_0 : W3.heap.size < W8.heap.size := hgbW8_0
      clear hnT hnB
      have hnT : ∀ xx, (xx = pb ∨ xx = lb ∨ xx = mb) → ¬ Turned [⟨W3.heap.size, 9, true, (strsV now)⟩] xx := by
        rintro xx hx2 ⟨b, hb, hr, he⟩
        simp at hb
        subst hb <;> simp at he hr <;> omega
      have hnB : ∀ b ∈ ([⟨W3.heap.size, 9, true, (strsV now)⟩] : List Bk), ¬ (b.g = pb ∨ b.g = lb ∨ b.g = mb) := by
        intro b hb hx2
        simp at hb
        subst hb <;> simp at hx2 <;> omega
      refine holds_go _ _ (lss_s75 K nk kcp pb now W3 W8) ⟨rfl, trivial⟩ ?_
      refine holds_callW (w := w) (S' := (fun _ => False)) (Y := Nat) (fun g2 => .slice (some ⟨g2, 0, none⟩) 6 6) (fun g2 => [⟨W3.heap.size, 9, true, (strsV now)⟩, ⟨g2, 9, true, (strsV now)⟩]) (fun g2 W_ => W8.heap.size ≤ g2 ∧ PlatAt 53 56 W_ pb (restartPl (flushPl M2) (keepB nk kf))) (fun g2 => [(136, .slice (some ⟨g2, 0, none⟩) 6 6), (6, .bool false), (12, .slice (some ⟨W3.heap.size, 0, none⟩) 6 6), (134, .bool true), (135, (lss_p pb 0))]) (lss_c76 pb W3) ⟨rfl, trivial⟩ (fun _ => rfl) (fun wx hm => ?_) (fun g2 W9 hX9 hm9 => ?_)
      · refine (image_pl (restartPl (flushPl M2) (keepB nk kf)) pb wx (hP8.kept hm.kept (fun x h => hnT x (hO.mine x h)))).mono fun e w' ⟨g, he, hg, hB, hk⟩ => ?_
        have hmo := MemOk.back2 hm8 hm
        have hsz : wx.heap.size = W8.heap.size := hm.size
        rw [hi8] at hB
        exact ⟨g, by rw [he]; exact congrArg (fun q => Ending.returned (.slice (some ⟨g, 0, none⟩) q q)) hO.n, ⟨by omega, (hP8.kept hm.kept (fun x h => hnT x (hO.mine x h))).kept hk (fun _ _ h => h)⟩, (MemOk.add hmo hk [⟨g, 9, true, strsV now⟩] ⟨hB, trivial⟩ (by simp; omega) (by simp)).2⟩
      refine holds_go _ _ (lss_s77 pb now W3 W9 g2) ⟨rfl, trivial⟩ ?_
      refine holds_callP (.bool true) (lss_c78 W3 g2) ⟨rfl, trivial⟩ rfl (fun wx hm => texts6_same g2 W3.heap.size 6 6 6 (by omega) (fun j => getB now j) wx (fun j hj => strs_cell (hm.at_ 1 rfl) (by rw [hR4.len]; exact hj)) (fun j hj => strs_cell (hm.at_ 0 rfl) (by rw [hR4.len]; exact hj))) fun z78 hz78 => ?_
      replace hz78 : W9.heap.size ≤ z78 := hz78
      refine holds_go _ _ (lss_s79 now W3 g2 z78) ⟨rfl, trivial⟩ ?_
      refine holds_ret [] (by kernel_rfl) (lss_r80 now W3 g2) ?_
      intro wx hm
      exact ⟨rfl, (MemOk.back2 hm9 hm).kept⟩
    by_cases h4 : j < 30
    rotate_left
    · skip
      refine holds_go _ _ (lss_s81 K nk kcp pb now W3 W6 A2 n2 cp2 j J4) ⟨decide_eq_true (by omega), decide_eq_true (by omega), decide_eq_true (by omega), decide_eq_false (by omega), trivial⟩ ?_
      refine holds_callW (w := w) (S' := (fun _ => False)) (Y := Nat) (fun _ => .int .i64 0) (fun _ => [⟨W3.heap.size, 9, true, (strsV now)⟩]) (fun _ W_ => PlatAt 53 56 W_ pb (flushPl M2)) (fun _ => [(128, .int .i64 0), (2, .slice K nk kcp), (6, .bool false), (8, (lss_p pb 0)), (12, .slice (some ⟨W3.heap.size, 0, none⟩) 6 6), (127, (lss_p pb 0))]) (lss_c82 K nk kcp pb W3) trivial (fun _ => rfl) (fun wx hm => ?_) (fun _ W7 hP7 hm7 => ?_)
      · refine (flush_pl M2 pb (by have := hR4.acts; omega) wx (hP6.kept hm.kept (fun x h => hnT x (hO.mine x h)))).mono fun e w' ⟨h1, h2, h3⟩ => ?_
        rw [hO.goes] at h1
        exact ⟨0, h1, h2, (MemOk.back2 hm6 hm).off (fun _ h => h) h3 (fun x h => .inr (by have := hO.mine x h; omega)) (fun b hb h => hnB b hb (hO.mine _ h))⟩
      have hfl := hR4.flush hP6.ok
      have hO7 := hO.flush
      clear hO
      have hO := hO7
      have hltW7 := hP7.lt.1
      have hgbW7_0 := (hm7.at_ 0 rfl).lt
      replace hgbW7_0 : W3.heap.size < W7.heap.size := hgbW7_0
      clear hnT hnB
      have hnT : ∀ xx, (xx = pb ∨ xx = lb ∨ xx = mb) → ¬ Turned [⟨W3.heap.size, 9, true, (strsV now)⟩] xx := by
        rintro xx hx2 ⟨b, hb, hr, he⟩
        simp at hb
        subst hb <;> simp at he hr <;> omega
      have hnB : ∀ b ∈ ([⟨W3.heap.size, 9, true, (strsV now)⟩] : List Bk), ¬ (b.g = pb ∨ b.g = lb ∨ b.g = mb) := by
        intro b hb hx2
        simp at hb
        subst hb <;> simp at hx2 <;> omega
      refine holds_go _ _ (lss_s83 K nk kcp pb now W3 W7) trivial ?_
      refine holds_callW (w := w) (S' := (fun _ => False)) (Y := Nat) (fun _ => .tuple #[]) (fun _ => [⟨W3.heap.size, 9, true, (strsV now)⟩]) (fun _ W_ => PlatAt 53 56 W_ pb (restartPl (flushPl M2) (keepB nk kf))) (fun _ => [(131, .tuple #[]), (6, .bool false), (8, (lss_p pb 0)), (12, .slice (some ⟨W3.heap.size, 0, none⟩) 6 6), (16, .int .i64 0), (129, (lss_p pb 0)), (130, .slice K nk kcp)]) (lss_c84 K nk kcp pb W3) trivial (fun _ => rfl) (fun wx hm => ?_) (fun _ W8 hP8 hm8 => ?_)
      · refine (restart_pl (flushPl M2) pb K nk kcp kf wx (hP7.kept hm.kept (fun x h => hnT x (hO.mine x h))) (fun k hk => by obtain ⟨_, b, o, hA, hb, hc⟩ := HK k hk; have hq := MemOk.back2 hm7 hm; exact ⟨b, o, hA, Nat.lt_of_lt_of_le hb hq.kept.size, fun hx => (by have := hO.mine _ hx; omega), (hq.kept.cell (p := ⟨b, o + k * 1 + 0, none⟩) hb id).trans (hc 0 (by omega))⟩)).mono fun e w' ⟨h1, h2, h3⟩ => ?_
        exact ⟨0, h1, h2, (MemOk.back2 hm7 hm).off (fun _ h => h) h3 (fun x h => .inr (by have := hO.mine x h; omega)) (fun b hb h => hnB b hb (hO.mine _ h))⟩
      have hi8 : (restartPl (flushPl M2) (keepB nk kf)).last.map strV = strsV now := by rw [restart_last (M := flushPl M2) hfl.1]; exact hfl.2
      have hO8 := restart_on hO (keepB nk kf)
      clear hO
      have hO := hO8
      have hltW8 := hP8.lt.1
      have hgbW8_0 := (hm8.at_ 0 rfl).lt
      replace hgbW8_0 : W3.heap.size < W8.heap.size := hgbW8_0
      clear hnT hnB
      have hnT : ∀ xx, (xx = pb ∨ xx = lb ∨ xx = mb) → ¬ Turned [⟨W3.heap.size, 9, true, (strsV now)⟩] xx := by
        rintro xx hx2 ⟨b, hb, hr, he⟩
        simp at hb
        subst hb <;> simp at he hr <;> omega
      have hnB : ∀ b ∈ ([⟨W3.heap.size, 9, true, (strsV now)⟩] : List Bk), ¬ (b.g = pb ∨ b.g = lb ∨ b.g = mb) := by
        intro b hb hx2
        simp at hb
        subst hb <;> simp at hx2 <;> omega
      refine holds_go _ _ (lss_s85 K nk kcp pb now W3 W8) ⟨rfl, trivial⟩ ?_
      refine holds_callW (w := w) (S' := (fun _ => False)) (Y := Nat) (fun g2 => .slice (some ⟨g2, 0, none⟩) 6 6) (fun g2 => [⟨W3.heap.size, 9, true, (strsV now)⟩, ⟨g2, 9, true, (strsV now)⟩]) (fun g2 W_ => W8.heap.size ≤ g2 ∧ PlatAt 53 56 W_ pb (restartPl (flushPl M2) (keepB nk kf))) (fun g2 => [(136, .slice (some ⟨g2, 0, none⟩) 6 6), (6, .bool false), (12, .slice (some ⟨W3.heap.size, 0, none⟩) 6 6), (134, .bool true), (135, (lss_p pb 0))]) (lss_c86 pb W3) ⟨rfl, trivial⟩ (fun _ => rfl) (fun wx hm => ?_) (fun g2 W9 hX9 hm9 => ?_)
      · refine (image_pl (restartPl (flushPl M2) (keepB nk kf)) pb wx (hP8.kept hm.kept (fun x h => hnT x (hO.mine x h)))).mono fun e w' ⟨g, he, hg, hB, hk⟩ => ?_
        have hmo := MemOk.back2 hm8 hm
        have hsz : wx.heap.size = W8.heap.size := hm.size
        rw [hi8] at hB
        exact ⟨g, by rw [he]; exact congrArg (fun q => Ending.returned (.slice (some ⟨g, 0, none⟩) q q)) hO.n, ⟨by omega, (hP8.kept hm.kept (fun x h => hnT x (hO.mine x h))).kept hk (fun _ _ h => h)⟩, (MemOk.add hmo hk [⟨g, 9, true, strsV now⟩] ⟨hB, trivial⟩ (by simp; omega) (by simp)).2⟩
      refine holds_go _ _ (lss_s87 pb now W3 W9 g2) ⟨rfl, trivial⟩ ?_
      refine holds_callP (.bool true) (lss_c88 W3 g2) ⟨rfl, trivial⟩ rfl (fun wx hm => texts6_same g2 W3.heap.size 6 6 6 (by omega) (fun j => getB now j) wx (fun j hj => strs_cell (hm.at_ 1 rfl) (by rw [hR4.len]; exact hj)) (fun j hj => strs_cell (hm.at_ 0 rfl) (by rw [hR4.len]; exact hj))) fun z88 hz88 => ?_
      replace hz88 : W9.heap.size ≤ z88 := hz88
      refine holds_go _ _ (lss_s89 now W3 g2 z88) ⟨rfl, trivial⟩ ?_
      refine holds_ret [] (by kernel_rfl) (lss_r90 now W3 g2) ?_
      intro wx hm
      exact ⟨rfl, (MemOk.back2 hm9 hm).kept⟩
    obtain ⟨ha, b, o, rfl, hb, hc⟩ := HA2 j h3
    obtain ⟨B, hB⟩ : ∃ B, pickZ (nums j).v 6 = B := ⟨_, rfl⟩
    have hBb : 0 ≤ B ∧ B < 6 := by
      have h := pickZ_bd (nums j).v 6 (by omega)
      rw [hB] at h
      exact h
    refine holds_wins [⟨b, o + j * 1, (nums j).cells⟩] (fun _ x hx => ?_) ?_
    · simp only [List.mem_singleton] at hx
      subst hx
      refine ⟨?_, win_kept hb hc rfl hm6.kept id⟩
      rintro ⟨c, hcb, hr, he⟩
      simp at hcb
      subst hcb
      simp at he
      omega
    refine holds_go _ _ (lss_s91 K nk kcp b o nums pb now W3 W6 n2 cp2 j J4) ⟨decide_eq_true (by omega), decide_eq_true (by omega), decide_eq_true (by omega), decide_eq_true (by omega), ⟨by omega, by omega⟩, trivial⟩ ?_
    refine holds_callP (.int .i64 B) (lss_c92 K nk kcp b o nums pb W3 n2 cp2 j) trivial rfl (fun wx hm => pick7 _ _ _ hB wx (by omega) (by omega) ha.v) fun z92 hz92 => ?_
    replace hz92 : W6.heap.size ≤ z92 := hz92
    refine holds_go _ _ (lss_s93 K nk kcp b o nums B pb now W3 n2 cp2 j J4 z92) ⟨⟨by omega, by omega⟩, trivial⟩ ?_
    refine holds_callP (.string (sec7 (nums j).v)) (lss_c94 K nk kcp b o nums B pb W3 n2 cp2 j) trivial rfl (fun wx hm => sector_any _ ha.v wx) fun z94 hz94 => ?_
    replace hz94 : z92 ≤ z94 := hz94
    refine holds_go _ _ (lss_s95 K nk kcp b o nums B pb now W3 n2 cp2 j J4 z94) ⟨⟨by omega, by omega⟩, trivial⟩ ?_
    refine holds_opS (x := Instr.storeAt 9 (.pointer (some ⟨W3.heap.size, 0 + (Int.toNat B) * 1, none⟩)) (.string (sec7 (nums j).v))) [⟨W3.heap.size, 9, true, (strsV (List.set now (Int.toNat B) (sec7 (nums j).v)))⟩] (by kernel_rfl) (by kernel_rfl) rfl (fun wx hm => ?_) (fun z96 hz96 => ?_)
    · exact store_str (P := Try.prog) (t := 9) hm (i := 0) (k := Int.toNat B) rfl (by rw [hR4.len]; omega) (by kernel_rfl)
    replace hz96 : z94 ≤ z96 := hz96
    refine holds_go _ _ (lss_s97 K nk kcp b o nums B pb now W3 n2 cp2 j J4 z96) ⟨⟨by omega, by omega⟩, trivial⟩ ?_
    refine holds_opR (dst := (some 124)) (x := Instr.loadAt 9 (.pointer (some ⟨W3.heap.size, 0 + (Int.toNat B) * 1, none⟩))) (.string (sec7 (nums j).v)) (by kernel_rfl) (by kernel_rfl) rfl (fun wx hm => ?_) ?_
    · have h := load_str (P := Try.prog) (t := 9) (k := Int.toNat B) hm (i := 0) rfl (by rw [List.length_set, hR4.len]; omega) (by kernel_rfl)
      rw [getB_set (by rw [hR4.len]; omega), if_pos rfl] at h
      exact h
    refine holds_go _ _ (lss_s99 K nk kcp b o nums B pb now W3 n2 cp2 j J4 z96) trivial ?_
    clear hnB
    have hnB : ∀ b ∈ ([⟨W3.heap.size, 9, true, (strsV (List.set now (Int.toNat B) (sec7 (nums j).v)))⟩] : List Bk), ¬ (b.g = pb ∨ b.g = lb ∨ b.g = mb) := by
      intro b hb hx2
      simp at hb
      subst hb <;> simp at hx2 <;> omega
    refine holds_callW (w := w) (S' := (fun _ => False)) (Y := Nat) (fun _ => .int .i64 0) (fun _ => [⟨W3.heap.size, 9, true, (strsV (List.set now (Int.toNat B) (sec7 (nums j).v)))⟩]) (fun _ W_ => PlatAt 53 56 W_ pb (writePl M2 B (intsOf (sec7 (nums j).v)))) (fun _ => [(125, .int .i64 0), (1, .slice (some ⟨b, o, none⟩) n2 cp2), (2, .slice K nk kcp), (6, .bool false), (8, (lss_p pb 0)), (12, .slice (some ⟨W3.heap.size, 0, none⟩) 6 6), (14, .int .i64 (j : Int)), (119, (lss_p pb 0)), (120, .int .i64 B), (124, .string (sec7 (nums j).v))]) (lss_c100 K nk kcp b o nums B pb W3 n2 cp2 j) trivial (fun _ => rfl) (fun wx hm => ?_) (fun _ W7 hP7 hm7 => ?_)
    · refine (write_pl M2 pb B (sec7 (nums j).v) (by have := hR4.acts; omega) (by rw [hO.n]; exact hBb) (size_sec7 _) wx (hP6.kept hm.kept (fun x h => hnT x (hO.mine x h)))).mono fun e w' ⟨h1, h2, h3⟩ => ?_
      rw [hO.goes] at h1
      exact ⟨0, h1, h2, (MemOk.back2 hm6 hm).off (fun _ h => h) h3 (fun x h => .inr (by have := hO.mine x h; omega)) (fun b hb h => hnB b hb (hO.mine _ h))⟩
    refine holds_go _ _ (lss_s101 K nk kcp b o nums B pb now W3 W7 n2 cp2 j J4) ⟨rfl, in64 (by omega), trivial⟩ ?_
    have hR5 := lk_write hR4 hP6.ok hBb (nums j).v
    have hO5 := hR5.on
    have hnT2 : ∀ xx, (xx = pb ∨ xx = lb ∨ xx = mb) → ¬ Turned [⟨W3.heap.size, 9, true, (strsV (List.set now (Int.toNat B) (sec7 (nums j).v)))⟩] xx := by
      rintro xx hx2 ⟨b, hb, hr, he⟩
      simp at hb
      subst hb
      simp at he
      omega
    intro a_ w9 hf hm
    exact hJ4 (m4 - 1) _ a_ w9 (by omega) ⟨j + 1, _, (List.set now (Int.toNat B) (sec7 (nums j).v)), _, by omega, by omega, hR5, hP7.kept hm.kept (fun x h => hnT2 x (hO5.mine x h)), by rw [← cast_succ j]⟩ hf (MemOk.back2 hm7 hm)
  obtain ⟨ha, b, o, rfl, hb, hc⟩ := HA i h1
  obtain ⟨B, hB⟩ : ∃ B, pickZ (acts i).n 6 = B := ⟨_, rfl⟩
  have hBb : 0 ≤ B ∧ B < 6 := by
    have h := pickZ_bd (acts i).n 6 (by omega)
    rw [hB] at h
    exact h
  obtain ⟨C, hC⟩ : ∃ C, pickZ (acts i).what 5 = C := ⟨_, rfl⟩
  refine holds_wins [⟨b, o + i * 6, (acts i).cells⟩] (fun _ x hx => ?_) ?_
  · simp only [List.mem_singleton] at hx
    subst hx
    exact ⟨by rintro ⟨c, hcb, hr, he⟩; simp at hcb, win_kept hb hc rfl hm2.kept id⟩
  refine holds_go _ _ (lss_s102 n cp K nk kcp b o acts i pb W2 J A2 n2 cp2) ⟨decide_eq_true (by omega), decide_eq_true (by omega), decide_eq_true (by omega), decide_eq_true (by omega), ⟨by omega, by omega⟩, trivial⟩ ?_
  refine holds_callP (.int .i64 C) (lss_c103 n cp K nk kcp b o acts i pb W2 A2 n2 cp2) trivial rfl (fun wx hm => pick7 _ _ _ hC wx (by omega) (by omega) ha.what) fun z103 hz103 => ?_
  replace hz103 : W2.heap.size + 1 ≤ z103 := hz103
  rcases Bool.eq_false_or_eq_true (C == 0) with d0 | d0
  · skip
    refine holds_go _ _ (lss_s104 n cp K nk kcp b o acts i C pb W2 J A2 n2 cp2 z103) ⟨d0, d0, trivial⟩ ?_
    clear hnB
    have hnB : ∀ b ∈ ([⟨W2.heap.size, 40, true, (lss_v2 acts i)⟩] : List Bk), ¬ (b.g = pb ∨ b.g = lb ∨ b.g = mb) := by
      intro b hb hx2
      simp at hb
      subst hb <;> simp at hx2 <;> omega
    refine holds_draw (f := 1) (ls := #[true, true, true, true, true, true, true, false]) 7 _ _ (by kernel_rfl) (by kernel_rfl) (by kernel_rfl) (by kernel_rfl) (lss_q105 n cp K nk kcp b o acts i B pb W2 A2 n2 cp2 z103) ⟨(fun wx hm => pick7 _ _ _ hB wx (by omega) (by omega) ha.n), (fun wx hm => sector_any _ ha.letter wx), trivial⟩ fun z105 hz105 => ?_
    replace hz105 : z103 ≤ z105 := hz105
    refine holds_callAnyW (ls' := #[true, true, true, true, true, true, true, true]) (w := w) (S' := (fun _ => False)) (Y := Nat) (fun _ => .int .i64 (goesE M)) (fun _ => [⟨W2.heap.size, 40, true, (lss_v2 acts i)⟩]) (fun _ W_ => PlatAt 53 56 W_ pb (writePl M B (intsOf (sec7 (acts i).letter)))) (fun _ => [(64, .int .i64 (goesE M)), (0, .slice (some ⟨b, o, none⟩) n cp), (1, .slice A2 n2 cp2), (2, .slice K nk kcp), (6, .bool false), (8, (lss_p pb 0)), (10, .int .i64 (i : Int)), (57, (lss_p pb 0)), (60, .int .i64 B), (63, .string (sec7 (acts i).letter))]) (by kernel_rfl) (by kernel_rfl) (lss_c106 n cp K nk kcp b o acts i B pb A2 n2 cp2) trivial (fun _ => rfl) (fun wx hm => ?_) (fun _ W4 hP6 hm6 => ?_)
    · refine (write_pl M pb B (sec7 (acts i).letter) (by have := hR.acts; omega) (by rw [hR.n]; exact hBb) (size_sec7 _) wx (hP.kept hm.kept (fun x h => hnT x (hO.mine x h)))).mono fun e w' ⟨h1, h2, h3⟩ => ?_
      exact ⟨0, h1, h2, (MemOk.back2 hm2 hm).off (fun _ h => h) h3 (fun x h => .inr (by have := hO.mine x h; omega)) (fun b hb h => hnB b hb (hO.mine _ h))⟩
    refine holds_done (by kernel_rfl) ?_
    refine holds_go _ _ (lss_s107 n cp K nk kcp b o acts i B pb M W2 W4 J A2 n2 cp2) ⟨in64 (by omega), trivial⟩ ?_
    clear hO
    have hO := ls_write hR B (intsOf (sec7 (acts i).letter))
    have hnT2 : ∀ xx, (xx = pb ∨ xx = lb ∨ xx = mb) → ¬ Turned [⟨W2.heap.size, 40, true, (lss_v2 acts i)⟩] xx := by
      rintro xx hx2 ⟨b, hb, hr, he⟩
      simp at hb
      subst hb
      simp at he
      omega
    refine holds_prune [0, 1, 2, 6, 8, 10] [false] ?_
    intro a_ w9 hf hm
    exact hJ (m2 - 1) _ a_ w9 (by omega) ⟨i + 1, (writePl M B (intsOf (sec7 (acts i).letter))), _, by omega, by omega, hO, hP6.kept hm.kept (fun x h => hnT2 x (hO.mine x h)), by rw [cast_succ]; rfl⟩ hf (MemOk.back2 (hm6.prune0) hm)
  rcases Bool.eq_false_or_eq_true (C == 1) with d1 | d1
  · skip
    refine holds_go _ _ (lss_s108 n cp K nk kcp b o acts i C pb W2 J A2 n2 cp2 z103) ⟨d0, d1, d1, trivial⟩ ?_
    clear hnB
    have hnB : ∀ b ∈ ([⟨W2.heap.size, 40, true, (lss_v2 acts i)⟩] : List Bk), ¬ (b.g = pb ∨ b.g = lb ∨ b.g = mb) := by
      intro b hb hx2
      simp at hb
      subst hb <;> simp at hx2 <;> omega
    refine holds_draw (f := 1) (ls := #[true, true, true, true, true, true, true, false]) 7 _ _ (by kernel_rfl) (by kernel_rfl) (by kernel_rfl) (by kernel_rfl) (lss_q109 n cp K nk kcp b o acts i B pb W2 A2 n2 cp2 z103) ⟨(fun wx hm => pick7 _ _ _ hB wx (by omega) (by omega) ha.n), (fun wx hm => sector_any _ ha.letter wx), trivial⟩ fun z109 hz109 => ?_
    replace hz109 : z103 ≤ z109 := hz109
    refine holds_callAnyW (ls' := #[true, true, true, true, true, true, true, true]) (w := w) (S' := (fun _ => False)) (Y := Nat) (fun _ => .int .i64 (goesE M)) (fun _ => [⟨W2.heap.size, 40, true, (lss_v2 acts i)⟩]) (fun _ W_ => PlatAt 53 56 W_ pb (writePl M B (intsOf (sec7 (acts i).letter)))) (fun _ => [(64, .int .i64 (goesE M)), (0, .slice (some ⟨b, o, none⟩) n cp), (1, .slice A2 n2 cp2), (2, .slice K nk kcp), (6, .bool false), (8, (lss_p pb 0)), (10, .int .i64 (i : Int)), (57, (lss_p pb 0)), (60, .int .i64 B), (63, .string (sec7 (acts i).letter))]) (by kernel_rfl) (by kernel_rfl) (lss_c110 n cp K nk kcp b o acts i B pb A2 n2 cp2) trivial (fun _ => rfl) (fun wx hm => ?_) (fun _ W4 hP6 hm6 => ?_)
    · refine (write_pl M pb B (sec7 (acts i).letter) (by have := hR.acts; omega) (by rw [hR.n]; exact hBb) (size_sec7 _) wx (hP.kept hm.kept (fun x h => hnT x (hO.mine x h)))).mono fun e w' ⟨h1, h2, h3⟩ => ?_
      exact ⟨0, h1, h2, (MemOk.back2 hm2 hm).off (fun _ h => h) h3 (fun x h => .inr (by have := hO.mine x h; omega)) (fun b hb h => hnB b hb (hO.mine _ h))⟩
    refine holds_done (by kernel_rfl) ?_
    refine holds_go _ _ (lss_s111 n cp K nk kcp b o acts i B pb M W2 W4 J A2 n2 cp2) ⟨in64 (by omega), trivial⟩ ?_
    clear hO
    have hO := ls_write hR B (intsOf (sec7 (acts i).letter))
    have hnT2 : ∀ xx, (xx = pb ∨ xx = lb ∨ xx = mb) → ¬ Turned [⟨W2.heap.size, 40, true, (lss_v2 acts i)⟩] xx := by
      rintro xx hx2 ⟨b, hb, hr, he⟩
      simp at hb
      subst hb
      simp at he
      omega
    refine holds_prune [0, 1, 2, 6, 8, 10] [false] ?_
    intro a_ w9 hf hm
    exact hJ (m2 - 1) _ a_ w9 (by omega) ⟨i + 1, (writePl M B (intsOf (sec7 (acts i).letter))), _, by omega, by omega, hO, hP6.kept hm.kept (fun x h => hnT2 x (hO.mine x h)), by rw [cast_succ]; rfl⟩ hf (MemOk.back2 (hm6.prune0) hm)
  rcases Bool.eq_false_or_eq_true (C == 2) with d2 | d2
  · skip
    refine holds_go _ _ (lss_s112 n cp K nk kcp b o acts i C pb W2 J A2 n2 cp2 z103) ⟨d0, d1, d2, trivial⟩ ?_
    clear hnB
    have hnB : ∀ b ∈ ([⟨W2.heap.size, 40, true, (lss_v2 acts i)⟩] : List Bk), ¬ (b.g = pb ∨ b.g = lb ∨ b.g = mb) := by
      intro b hb hx2
      simp at hb
      subst hb <;> simp at hx2 <;> omega
    refine holds_draw (f := 1) (ls := #[true, true, true, true, true, true, true, false]) 7 _ _ (by kernel_rfl) (by kernel_rfl) (by kernel_rfl) (by kernel_rfl) (lss_q113 n cp K nk kcp b o acts i B pb W2 A2 n2 cp2 z103) ⟨(fun wx hm => pick7 _ _ _ hB wx (by omega) (by omega) ha.n), (fun wx hm => sector_any _ ha.letter wx), trivial⟩ fun z113 hz113 => ?_
    replace hz113 : z103 ≤ z113 := hz113
    refine holds_callAnyW (ls' := #[true, true, true, true, true, true, true, true]) (w := w) (S' := (fun _ => False)) (Y := Nat) (fun _ => .int .i64 (goesE M)) (fun _ => [⟨W2.heap.size, 40, true, (lss_v2 acts i)⟩]) (fun _ W_ => PlatAt 53 56 W_ pb (writePl M B (intsOf (sec7 (acts i).letter)))) (fun _ => [(64, .int .i64 (goesE M)), (0, .slice (some ⟨b, o, none⟩) n cp), (1, .slice A2 n2 cp2), (2, .slice K nk kcp), (6, .bool false), (8, (lss_p pb 0)), (10, .int .i64 (i : Int)), (57, (lss_p pb 0)), (60, .int .i64 B), (63, .string (sec7 (acts i).letter))]) (by kernel_rfl) (by kernel_rfl) (lss_c114 n cp K nk kcp b o acts i B pb A2 n2 cp2) trivial (fun _ => rfl) (fun wx hm => ?_) (fun _ W4 hP6 hm6 => ?_)
    · refine (write_pl M pb B (sec7 (acts i).letter) (by have := hR.acts; omega) (by rw [hR.n]; exact hBb) (size_sec7 _) wx (hP.kept hm.kept (fun x h => hnT x (hO.mine x h)))).mono fun e w' ⟨h1, h2, h3⟩ => ?_
      exact ⟨0, h1, h2, (MemOk.back2 hm2 hm).off (fun _ h => h) h3 (fun x h => .inr (by have := hO.mine x h; omega)) (fun b hb h => hnB b hb (hO.mine _ h))⟩
    refine holds_done (by kernel_rfl) ?_
    refine holds_go _ _ (lss_s115 n cp K nk kcp b o acts i B pb M W2 W4 J A2 n2 cp2) ⟨in64 (by omega), trivial⟩ ?_
    clear hO
    have hO := ls_write hR B (intsOf (sec7 (acts i).letter))
    have hnT2 : ∀ xx, (xx = pb ∨ xx = lb ∨ xx = mb) → ¬ Turned [⟨W2.heap.size, 40, true, (lss_v2 acts i)⟩] xx := by
      rintro xx hx2 ⟨b, hb, hr, he⟩
      simp at hb
      subst hb
      simp at he
      omega
    refine holds_prune [0, 1, 2, 6, 8, 10] [false] ?_
    intro a_ w9 hf hm
    exact hJ (m2 - 1) _ a_ w9 (by omega) ⟨i + 1, (writePl M B (intsOf (sec7 (acts i).letter))), _, by omega, by omega, hO, hP6.kept hm.kept (fun x h => hnT2 x (hO.mine x h)), by rw [cast_succ]; rfl⟩ hf (MemOk.back2 (hm6.prune0) hm)
  rcases Bool.eq_false_or_eq_true (C == 3) with d3 | d3
  · skip
    refine holds_go _ _ (lss_s116 n cp K nk kcp b o acts i C pb W2 J A2 n2 cp2 z103) ⟨d0, d1, d2, d3, trivial⟩ ?_
    clear hnB
    have hnB : ∀ b ∈ ([⟨W2.heap.size, 40, true, (lss_v2 acts i)⟩] : List Bk), ¬ (b.g = pb ∨ b.g = lb ∨ b.g = mb) := by
      intro b hb hx2
      simp at hb
      subst hb <;> simp at hx2 <;> omega
    refine holds_callW (w := w) (S' := (fun _ => False)) (Y := Nat) (fun _ => .int .i64 (goesE M)) (fun _ => [⟨W2.heap.size, 40, true, (lss_v2 acts i)⟩]) (fun _ W_ => PlatAt 53 56 W_ pb (flushPl M)) (fun _ => [(68, .int .i64 (goesE M)), (0, .slice (some ⟨b, o, none⟩) n cp), (1, .slice A2 n2 cp2), (2, .slice K nk kcp), (6, .bool false), (8, (lss_p pb 0)), (10, .int .i64 (i : Int)), (67, (lss_p pb 0))]) (lss_c117 n cp K nk kcp b o i pb A2 n2 cp2) trivial (fun _ => rfl) (fun wx hm => ?_) (fun _ W4 hP6 hm6 => ?_)
    · refine (flush_pl M pb (by have := hR.acts; omega) wx (hP.kept hm.kept (fun x h => hnT x (hO.mine x h)))).mono fun e w' ⟨h1, h2, h3⟩ => ?_
      exact ⟨0, h1, h2, (MemOk.back2 hm2 hm).off (fun _ h => h) h3 (fun x h => .inr (by have := hO.mine x h; omega)) (fun b hb h => hnB b hb (hO.mine _ h))⟩
    refine holds_go _ _ (lss_s118 n cp K nk kcp b o acts i pb M W2 W4 J A2 n2 cp2) ⟨in64 (by omega), trivial⟩ ?_
    clear hO
    have hO := ls_flush hR
    have hnT2 : ∀ xx, (xx = pb ∨ xx = lb ∨ xx = mb) → ¬ Turned [⟨W2.heap.size, 40, true, (lss_v2 acts i)⟩] xx := by
      rintro xx hx2 ⟨b, hb, hr, he⟩
      simp at hb
      subst hb
      simp at he
      omega
    refine holds_prune [0, 1, 2, 6, 8, 10] [false] ?_
    intro a_ w9 hf hm
    exact hJ (m2 - 1) _ a_ w9 (by omega) ⟨i + 1, (flushPl M), _, by omega, by omega, hO, hP6.kept hm.kept (fun x h => hnT2 x (hO.mine x h)), by rw [cast_succ]; rfl⟩ hf (MemOk.back2 (hm6.prune0) hm)
  refine holds_go _ _ (lss_s119 n cp K nk kcp b o acts i C pb W2 J A2 n2 cp2 z103) ⟨d0, d1, d2, d3, trivial⟩ ?_
  clear hnB
  have hnB : ∀ b ∈ ([⟨W2.heap.size, 40, true, (lss_v2 acts i)⟩] : List Bk), ¬ (b.g = pb ∨ b.g = lb ∨ b.g = mb) := by
    intro b hb hx2
    simp at hb
    subst hb <;> simp at hx2 <;> omega
  refine holds_callW (w := w) (S' := (fun _ => False)) (Y := Nat) (fun _ => .int .i64 (armE (acts i).at_)) (fun _ => [⟨W2.heap.size, 40, true, (lss_v2 acts i)⟩]) (fun _ W_ => PlatAt 53 56 W_ pb (armPl M (acts i).at_)) (fun _ => [(52, .int .i64 (armE (acts i).at_)), (0, .slice (some ⟨b, o, none⟩) n cp), (1, .slice A2 n2 cp2), (2, .slice K nk kcp), (6, .bool false), (8, (lss_p pb 0)), (10, .int .i64 (i : Int)), (49, (lss_p pb 0)), (51, .int .i64 ((acts i).at_))]) (lss_c120 n cp K nk kcp b o acts i pb A2 n2 cp2) trivial (fun _ => rfl) (fun wx hm => ?_) (fun _ W4 hP6 hm6 => ?_)
  · refine (arm_pl M pb (acts i).at_ wx (hP.kept hm.kept (fun x h => hnT x (hO.mine x h)))).mono fun e w' ⟨h1, h2, h3⟩ => ?_
    exact ⟨0, h1, h2, (MemOk.back2 hm2 hm).off (fun _ h => h) h3 (fun x h => .inr (by have := hO.mine x h; omega)) (fun b hb h => hnB b hb (hO.mine _ h))⟩
  refine holds_go _ _ (lss_s121 n cp K nk kcp b o acts i pb W2 W4 J A2 n2 cp2) ⟨in64 (by omega), trivial⟩ ?_
  clear hO
  have hO := ls_arm hR (acts i).at_
  have hnT2 : ∀ xx, (xx = pb ∨ xx = lb ∨ xx = mb) → ¬ Turned [⟨W2.heap.size, 40, true, (lss_v2 acts i)⟩] xx := by
    rintro xx hx2 ⟨b, hb, hr, he⟩
    simp at hb
    subst hb
    simp at he
    omega
  refine holds_prune [0, 1, 2, 6, 8, 10] [false] ?_
  intro a_ w9 hf hm
  exact hJ (m2 - 1) _ a_ w9 (by omega) ⟨i + 1, (armPl M (acts i).at_), _, by omega, by omega, hO, hP6.kept hm.kept (fun x h => hnT2 x (hO.mine x h)), by rw [cast_succ]; rfl⟩ hf (MemOk.back2 (hm6.prune0) hm)

end Go.Proofs.Ytillpjllbekedaa
