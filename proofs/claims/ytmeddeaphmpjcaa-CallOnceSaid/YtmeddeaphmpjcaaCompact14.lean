/- slices.Compact of ints. -/
import Derived.Test.YtmeddeaphmpjcaaCallR
import Derived.Test.YtmeddeaphmpjcaaEngU
import Derived.Test.YtmeddeaphmpjcaaOwnR
import Derived.Test.YtmeddeaphmpjcaaProg
namespace Go.Proofs.Ytmeddeaphmpjcaa
open Go.RowKit

set_option maxRecDepth 100000 in
set_option maxHeartbeats 4000000 in
theorem compact_small (A : Option Addr) (n cp : Nat) (h2 : n < 2) (w : World) :
    Calls Try.prog 26 #[.slice A n cp] w (RetK (.slice A n cp) w) := by
  refine calls_of_holds (S := (fun _ => False)) (l := [.slice A n cp]) (n := 61) Try.func26 (body_of (by kernel_rfl)) rfl (by simp) (MemOk.none w _) ?_
  refine hgE 20 [oh0, oh0, oh0, oh0, oh1, oh0, oh0] [0, 2] [dT (((n : Int) : Int) < 2)] [] [.code [1, 0, 1, 0, 1], .code [1, 1]] ⟨[(0, .slice A n cp), (2, .slice A n cp)], [], [], w.heap.size⟩ ?_
  refine hrt [] [.slice A n cp] [] ?_
  intro wx hm
  exact ⟨rfl, hm.kept⟩

def cmpa_n1 : List Nat := [1, 1, 0, 1, 0, 0, 1, 0, 0, 0]
def cmpa_n2 : List Nat := [1, 1, 0, 1, 0, 0, 1, 0, 0, 1, 0, 1, 0, 1, 0, 0, 1, 0, 0, 0]
def cmpa_n3 : List Nat := [1, 1, 0, 1, 0, 0, 1, 0, 0, 1, 0, 1, 0, 1, 0, 0, 1, 0, 0, 1]
def cmpa_n4 : List Nat := [1, 1, 0, 1, 0, 0, 1, 0, 0, 1, 0, 1, 0, 1, 0, 0, 1, 1]
def cmpa_n5 : List Nat := [1, 1, 0, 1, 0, 0, 1, 0, 0, 1, 0, 1, 1]
def cmpa_n6 : List Nat := [1, 1, 0, 1, 0, 0, 1, 1]
theorem cmpa_q5 (g : Nat) (n : Nat) (cp : Nat) (k : Nat) (u : Int) (v : Int) (W1 : World) : Out.prune [0, 2, 3, 25] (qListG Try.prog 61 W1 (Turned []) (opsOf (getCode (bodyOf Try.f26) cmpa_n1)) (opsOf (getCode (bodyOf Try.f26) cmpa_n1)).toList ⟨[(0, .slice (some ⟨g, 0, none⟩) n cp), (2, .slice none 0 0), (3, .int .i64 (k : Int))], [], [⟨g, 0 + k * 1, [.int .i64 v]⟩, ⟨g, 0 + (Int.toNat ((k : Int) - 1)) * 1, [.int .i64 u]⟩], W1.heap.size⟩ [(false, .op oh0), (false, .op oh0), (false, .op oh2), (false, .op ⟨false, 0, [⟨true, 0, 0, 1⟩]⟩), (false, .op oh0), (false, .op oh0), (false, .op oh2), (false, .op oh2), (false, .op ⟨false, 0, [⟨true, 1, 0, 1⟩]⟩), (false, .op oh0)]) = some ⟨[(0 : Int) ≤ (k : Int) ∧ (k : Int) < ((n : Nat) : Int), inR .i64 (((k : Int) - 1)), (0 : Int) ≤ ((k : Int) - 1) ∧ ((k : Int) - 1) < ((n : Nat) : Int)], dupR [(g, 0 + k * 1, 1), (g, 0 + (Int.toNat ((k : Int) - 1)) * 1, 1)], ⟨[(0, .slice (some ⟨g, 0, none⟩) n cp), (2, .slice none 0 0), (3, .int .i64 (k : Int)), (25, .bool (v == u))], [], [⟨g, 0 + k * 1, [.int .i64 v]⟩, ⟨g, 0 + (Int.toNat ((k : Int) - 1)) * 1, [.int .i64 u]⟩], W1.heap.size⟩⟩ := by kernel_rfl
theorem cmpa_q20 (g : Nat) (n : Nat) (cp : Nat) (k : Nat) (k0 : Nat) (k2 : Nat) (u : Int) (v : Int) (W2 : World) : Out.prune [0, 2, 3, 4, 5, 44] (qListG Try.prog 61 W2 (Turned []) (opsOf (getCode (bodyOf Try.f26) cmpa_n2)) (opsOf (getCode (bodyOf Try.f26) cmpa_n2)).toList ⟨[(0, .slice (some ⟨g, 0, none⟩) n cp), (2, .slice none 0 0), (3, .int .i64 (k : Int)), (4, .slice (some ⟨g, k0 * 1, none⟩) (n - k0) (cp - k0)), (5, .int .i64 (k2 : Int))], [], [⟨g, k0 * 1 + k2 * 1, [.int .i64 v]⟩, ⟨g, k0 * 1 + (Int.toNat ((k2 : Int) - 1)) * 1, [.int .i64 u]⟩], W2.heap.size⟩ [(false, .op oh0), (false, .op oh0), (false, .op oh2), (false, .op ⟨false, 0, [⟨true, 0, 0, 1⟩]⟩), (false, .op oh0), (false, .op oh0), (false, .op oh2), (false, .op oh2), (false, .op ⟨false, 0, [⟨true, 1, 0, 1⟩]⟩), (false, .op oh0)]) = some ⟨[(0 : Int) ≤ (k2 : Int) ∧ (k2 : Int) < (((n - k0) : Nat) : Int), inR .i64 (((k2 : Int) - 1)), (0 : Int) ≤ ((k2 : Int) - 1) ∧ ((k2 : Int) - 1) < (((n - k0) : Nat) : Int)], dupR [(g, k0 * 1 + k2 * 1, 1), (g, k0 * 1 + (Int.toNat ((k2 : Int) - 1)) * 1, 1)], ⟨[(0, .slice (some ⟨g, 0, none⟩) n cp), (2, .slice none 0 0), (3, .int .i64 (k : Int)), (4, .slice (some ⟨g, k0 * 1, none⟩) (n - k0) (cp - k0)), (5, .int .i64 (k2 : Int)), (44, .bool (v != u))], [], [⟨g, k0 * 1 + k2 * 1, [.int .i64 v]⟩, ⟨g, k0 * 1 + (Int.toNat ((k2 : Int) - 1)) * 1, [.int .i64 u]⟩], W2.heap.size⟩⟩ := by kernel_rfl
set_option maxRecDepth 100000 in
set_option maxHeartbeats 4000000 in
theorem compact_any (g n cp : Nat) (ys : List Int) (r : List Value) (hl : ys.length = n) (h2n : 2 ≤ n) (hn : n ≤ 64) (hnc : n ≤ cp) (w : World) (hB : Blk w g 3 (i64s ys ++ r)) :
    Calls Try.prog 26 #[.slice (some ⟨g, 0, none⟩) n cp] w (fun e w' => ∃ zs r', e = .returned (.slice (some ⟨g, 0, none⟩) (List.length zs) cp) ∧ Blk w' g 3 (i64s zs ++ r') ∧ (i64s zs ++ r').length = (i64s ys ++ r).length ∧ (∀ x, x ∈ zs ↔ x ∈ ys) ∧ zs.length ≤ n ∧ Kept (fun x => x = g) w w') := by
  refine calls_of_holds (S := (fun _ => False)) (l := [.slice (some ⟨g, 0, none⟩) n cp]) (n := 61) Try.func26 (body_of (by kernel_rfl)) rfl (by simp) (MemOk.none w _) ?_
  refine hgE 22 [oh0, oh0, oh0, oh0, oh0, oh0] [0, 2, 3] [dF (((n : Int) : Int) < 2)] [] [.code [1, 1, 0, 1, 0], .blk 0, .code [1, 1, 1]] ⟨[(0, .slice (some ⟨g, 0, none⟩) n cp), (2, .slice none 0 0), (3, .int .i64 1)], [], [], w.heap.size⟩ ?_
  refine holds_loopW (w := w) (S' := (fun x => x = g)) (fun m st W1 => ∃ k z : Nat, m + k = n ∧ 1 ≤ k ∧ k ≤ n ∧ Blk W1 g 3 (i64s ys ++ r) ∧ st = ⟨[(0, .slice (some ⟨g, 0, none⟩) n cp), (2, .slice none 0 0), (3, .int .i64 (k : Int))], [], [], z⟩) (n - 1) (by kernel_rfl) (fun W1 hm => ⟨⟨1, _, by omega, by omega, by omega, hB.kept hm.kept (fun h => h), rfl⟩, MemOk.wide hm (fun x h => h.elim)⟩) ?_
  rintro m _ W1 ⟨k, z, hmk, h1k, hkn, hB1, rfl⟩ hm1 J hJ
  have hg1 := hB1.lt
  by_cases h1 : k < n
  rotate_left
  · skip
    refine hgE 18 [oh0, oh0, oh0, oh0, oh0, oh0, oh0] [2] [dF (((k : Int) : Int) < (n : Int))] [] [.code [1, 1, 1, 1]] ⟨[(2, .slice (some ⟨g, 0, none⟩) n cp)], [], [], W1.heap.size⟩ ?_
    refine hrt [] [.slice (some ⟨g, 0, none⟩) n cp] [] ?_
    intro wx hm
    have hmZ := MemOk.bck hm1 hm
    exact ⟨ys, r, by rw [hl]; rfl, hB1.kept hm.kept (fun ⟨_, hb, _⟩ => by cases hb), rfl, fun x => Iff.rfl, by omega, hmZ.kept⟩
  obtain ⟨v, hv⟩ : ∃ v, ys[k]? = some v := ⟨_, List.getElem?_eq_getElem (by omega)⟩
  obtain ⟨u, hu⟩ : ∃ u, ys[k - 1]? = some u := ⟨_, List.getElem?_eq_getElem (by omega)⟩
  refine holds_wins [⟨g, 0 + k * 1, [.int .i64 v]⟩, ⟨g, 0 + (Int.toNat ((k : Int) - 1)) * 1, [.int .i64 u]⟩] (fun _ y hy => ?_) ?_
  · simp only [List.mem_cons, List.not_mem_nil, or_false] at hy
    have hcell : ∀ (i : Nat) (x : Int), (ys : List Int)[i]? = some x → W1.cell? ⟨g, i, none⟩ = some (.int .i64 x) := fun i x h => (hB1.cell i).trans (i64s_get h)
    rcases hy with rfl | rfl
    · refine ⟨fun ⟨_, hb, _⟩ => (by cases hb), hB1.lt, fun j x hj => ?_⟩
      obtain ⟨rfl, rfl⟩ : j = 0 ∧ x = .int .i64 v := by
        cases j with
        | zero => exact ⟨rfl, by simpa using hj.symm⟩
        | succ j => simp at hj
      rw [show 0 + k * 1 + 0 = k by omega]
      exact hcell _ _ hv
    · refine ⟨fun ⟨_, hb, _⟩ => (by cases hb), hB1.lt, fun j x hj => ?_⟩
      obtain ⟨rfl, rfl⟩ : j = 0 ∧ x = .int .i64 u := by
        cases j with
        | zero => exact ⟨rfl, by simpa using hj.symm⟩
        | succ j => simp at hj
      rw [show 0 + (Int.toNat ((k : Int) - 1)) * 1 + 0 = (k - 1) by omega]
      exact hcell _ _ hu
  refine hgE 16 [oh0, oh0, oh0, oh0, oh1] [0, 2, 3] [dT (((k : Int) : Int) < (n : Int))] [] [.code cmpa_n1, .code [1, 1, 0, 1, 0, 0, 1, 0, 0, 1], .blk 1, .code cmpa_n6, .inv J, .blk 0, .code [1, 1, 1]] ⟨[(0, .slice (some ⟨g, 0, none⟩) n cp), (2, .slice none 0 0), (3, .int .i64 (k : Int))], [], [⟨g, 0 + k * 1, [.int .i64 v]⟩, ⟨g, 0 + (Int.toNat ((k : Int) - 1)) * 1, [.int .i64 u]⟩], W1.heap.size⟩ ?_
  refine holds_quietG _ _ (by kernel_rfl) (by kernel_rfl) (by kernel_rfl) (cmpa_q5 g n cp k u v W1) ⟨⟨by omega, by omega⟩, in64 (by omega), ⟨by omega, by omega⟩, trivial⟩ fun z5 hz5 => ?_
  replace hz5 : W1.heap.size ≤ z5 := hz5
  refine hgE 3 [] [0, 2, 3, 25] [] [] [.code [1, 1, 0, 1, 0, 0, 1, 0, 0, 1], .blk 1, .code cmpa_n6, .inv J, .blk 0, .code [1, 1, 1]] ⟨[(0, .slice (some ⟨g, 0, none⟩) n cp), (2, .slice none 0 0), (3, .int .i64 (k : Int)), (25, .bool (v == u))], [], [⟨g, 0 + k * 1, [.int .i64 v]⟩, ⟨g, 0 + (Int.toNat ((k : Int) - 1)) * 1, [.int .i64 u]⟩], z5⟩ ?_
  rcases Bool.eq_false_or_eq_true (v == u) with d1 | d1
  rotate_left
  · skip
    refine hgE 11 [oh0, oh0, oh2, oh0] [0, 2, 3] [eD d1, n64 (((k : Int) + 1))] [] [.inv J, .blk 0, .code [1, 1, 1]] ⟨[(0, .slice (some ⟨g, 0, none⟩) n cp), (2, .slice none 0 0), (3, .int .i64 ((k : Int) + 1))], [], [⟨g, 0 + k * 1, [.int .i64 v]⟩, ⟨g, 0 + (Int.toNat ((k : Int) - 1)) * 1, [.int .i64 u]⟩], z5⟩ ?_
    refine holds_wins [] (fun _ _ h => by cases h) ?_
    intro a_ w4 hf hm
    have hmZ := MemOk.bck hm1 hm
    exact hJ (m - 1) _ a_ w4 (by omega) ⟨k + 1, _, by omega, by omega, by omega, hB1.kept hm.kept (fun ⟨_, hb, _⟩ => by cases hb), by rw [← cast_succ k]⟩ hf hmZ
  refine hgE 8 [oh1, oh0, oh0] [0, 2, 3, 26, 27] [eD d1] [] [.ops [1, 1, 0, 1, 0, 0, 1, 0, 0, 1, 0, 0] [2, 3], .code [1, 1, 0, 1, 0, 0, 1, 0, 0, 1, 0, 1], .blk 1, .code cmpa_n6, .inv J, .blk 0, .code [1, 1, 1]] ⟨[(0, .slice (some ⟨g, 0, none⟩) n cp), (2, .slice none 0 0), (3, .int .i64 (k : Int)), (26, .slice (some ⟨g, 0, none⟩) n cp), (27, .int .i64 (k : Int))], [], [⟨g, 0 + k * 1, [.int .i64 v]⟩, ⟨g, 0 + (Int.toNat ((k : Int) - 1)) * 1, [.int .i64 u]⟩], z5⟩ ?_
  refine holds_opR (dst := (some 28)) (x := Instr.sliceAt 22 (.slice (some ⟨g, 0, none⟩) n cp) (some (.int .i64 (k : Int))) none none) (.slice (some ⟨g, k * 1, none⟩) (n - k) (cp - k)) (by kernel_rfl) (by kernel_rfl) rfl (fun wx hm => ?_) ?_
  · exact run_slFrom (P := Try.prog) wx 22 3 1 g n cp k (by kernel_rfl) (by kernel_rfl) (by omega) (by omega)
  refine hgE 11 [oh0, oh0] [0, 2, 3, 4, 5] [] [] [.code [1, 1, 0, 1, 0, 0, 1, 0, 0, 1, 0, 1, 0, 1, 0], .blk 2, .code cmpa_n5, .blk 1, .code cmpa_n6, .inv J, .blk 0, .code [1, 1, 1]] ⟨[(0, .slice (some ⟨g, 0, none⟩) n cp), (2, .slice none 0 0), (3, .int .i64 (k : Int)), (4, .slice (some ⟨g, k * 1, none⟩) (n - k) (cp - k)), (5, .int .i64 1)], [], [⟨g, 0 + k * 1, [.int .i64 v]⟩, ⟨g, 0 + (Int.toNat ((k : Int) - 1)) * 1, [.int .i64 u]⟩], z5⟩ ?_
  have hvu : v = u := of_decide_eq_true (by simpa using d1)
  subst hvu
  refine holds_wins [] (fun _ _ h => by cases h) ?_
  obtain ⟨k0, hk0⟩ : ∃ k0, k0 = k := ⟨_, rfl⟩
  subst hk0
  refine holds_loopW (w := w) (S' := (fun x => x = g)) (fun m st W2 => ∃ (k k2 : Nat) (cur : List Int) (z : Nat), m + k0 + k2 = n ∧ 1 ≤ k2 ∧ k0 ≤ k ∧ k < k0 + k2 ∧ k0 + k2 ≤ n ∧ cur.length = n ∧ cur.drop (k0 + k2 - 1) = ys.drop (k0 + k2 - 1) ∧ (∀ x, x ∈ cur.take k ↔ x ∈ ys.take (k0 + k2)) ∧ Blk W2 g 3 (i64s cur ++ r) ∧ st = ⟨[(0, .slice (some ⟨g, 0, none⟩) n cp), (2, .slice none 0 0), (3, .int .i64 (k : Int)), (4, .slice (some ⟨g, k0 * 1, none⟩) (n - k0) (cp - k0)), (5, .int .i64 (k2 : Int))], [], [], z⟩) (n - k0 - 1) (by kernel_rfl) (fun W2 hm => ⟨⟨k0, 1, ys, _, by omega, by omega, by omega, by omega, by omega, hl, rfl, fun x => ?_, hB1.kept hm.kept (fun ⟨_, hb, _⟩ => by cases hb), rfl⟩, (MemOk.bck hm1 hm)⟩) ?_
  · rw [List.take_add_one, hv]
    have e : v ∈ ys.take k0 := List.mem_of_getElem? (i := k0 - 1) (by rw [List.getElem?_take_of_lt (by omega)]; exact hu)
    simp
    intro h
    rw [h]
    exact e
  clear hv hu d1 hJ hm1 hB1 hg1 hmk h1k
  rintro m2 _ W2 ⟨k, k2, cur, z, hm2k, h1k2, hk0k, hkk, hkn2, hlc, hdr, hmem, hB2, rfl⟩ hm2 J2 hJ2
  have hg2 := hB2.lt
  by_cases h2 : k0 + k2 < n
  rotate_left
  · skip
    refine hgE 17 [oh0, oh0, oh0, oh0, oh0, oh0, oh0] [0, 2, 3, 54, 55] [dF (((k2 : Int) : Int) < (((n - k0) : Nat) : Int))] [] [.ops [1, 1, 0, 1, 0, 0, 1, 0, 0, 1, 0, 1, 1, 0] [2, 3], .code [1, 1, 0, 1, 0, 0, 1, 0, 0, 1, 0, 1, 1, 1], .blk 1, .code cmpa_n6, .inv J, .blk 0, .code [1, 1, 1]] ⟨[(0, .slice (some ⟨g, 0, none⟩) n cp), (2, .slice none 0 0), (3, .int .i64 (k : Int)), (54, .slice (some ⟨g, 0, none⟩) n cp), (55, .int .i64 (k : Int))], [], [], W2.heap.size⟩ ?_
    refine holds_opR (dst := (some 56)) (x := Instr.sliceAt 22 (.slice (some ⟨g, 0, none⟩) n cp) (some (.int .i64 (k : Int))) none none) (.slice (some ⟨g, k * 1, none⟩) (n - k) (cp - k)) (by kernel_rfl) (by kernel_rfl) rfl (fun wx hm => ?_) ?_
    · exact run_slFrom (P := Try.prog) wx 22 3 1 g n cp k (by kernel_rfl) (by kernel_rfl) (by omega) (by omega)
    refine hgE 3 [] [0, 2, 3, 56] [] [] [.ops [1, 1, 0, 1, 0, 0, 1, 0, 0, 1, 0, 1, 1, 0] [3], .code [1, 1, 0, 1, 0, 0, 1, 0, 0, 1, 0, 1, 1, 1], .blk 1, .code cmpa_n6, .inv J, .blk 0, .code [1, 1, 1]] ⟨[(0, .slice (some ⟨g, 0, none⟩) n cp), (2, .slice none 0 0), (3, .int .i64 (k : Int)), (56, .slice (some ⟨g, k * 1, none⟩) (n - k) (cp - k))], [], [], W2.heap.size⟩ ?_
    refine holds_opW (w := w) (S' := (fun x => x = g)) (dst := none) (x := Builtin.clear_ #[22] 0 #[.slice (some ⟨g, k * 1, none⟩) (n - k) (cp - k)]) (fun _ => .tuple #[]) (fun _ W_ => ∃ ds, Blk W_ g 3 (i64s (cur.take k) ++ ds) ∧ (i64s (cur.take k) ++ ds).length = (i64s ys ++ r).length) (fun _ => [(0, .slice (some ⟨g, 0, none⟩) n cp), (2, .slice none 0 0), (3, .int .i64 (k : Int)), (56, .slice (some ⟨g, k * 1, none⟩) (n - k) (cp - k))]) (by kernel_rfl) (by kernel_rfl) (fun _ => rfl) (fun wx hm => ?_) (fun _ W3 hX3 hm3 => ?_)
    · obtain ⟨ds, w', e1, e2, e3, e4⟩ := run_clearR (P := Try.prog) wx 22 3 0 1 (.int .i64 0) g k (n - k) (cp - k) 3 (i64s cur ++ r) 8 (by kernel_rfl) (by kernel_rfl) rfl (by decide) rfl (hB2.kept hm.kept (fun ⟨_, hb, _⟩ => by cases hb)) (by omega) (by rw [List.length_append, i64s_len]; omega)
      have e5 : (i64s cur ++ r).take (k * 1) = i64s (cur.take k) := by rw [Nat.mul_one, List.take_append_of_le_length (by rw [i64s_len]; omega)]; simp [i64s]
      rw [e5] at e2 e3
      exact ⟨0, w', e1, ⟨ds, e2, by rw [e3]; simp [i64s_len, hlc, hl]⟩, MemOk.offA (MemOk.bck hm2 hm) (fun _ h => h) e4 (fun _ h => .inl h) (fun b hb => by cases hb)⟩
    obtain ⟨ds, hB3, hl3⟩ := hX3
    refine hgE 8 [oh0, oh0] [0, 2, 3, 57, 58] [] [] [.ops [1, 1, 0, 1, 0, 0, 1, 0, 0, 1, 0, 1, 1, 1, 0] [2, 3], .code [1, 1, 0, 1, 0, 0, 1, 0, 0, 1, 0, 1, 1, 1, 1], .blk 1, .code cmpa_n6, .inv J, .blk 0, .code [1, 1, 1]] ⟨[(0, .slice (some ⟨g, 0, none⟩) n cp), (2, .slice none 0 0), (3, .int .i64 (k : Int)), (57, .slice (some ⟨g, 0, none⟩) n cp), (58, .int .i64 (k : Int))], [], [], W3.heap.size⟩ ?_
    refine holds_opR (dst := (some 59)) (x := Instr.sliceAt 22 (.slice (some ⟨g, 0, none⟩) n cp) none (some (.int .i64 (k : Int))) none) (.slice (some ⟨g, 0, none⟩) k cp) (by kernel_rfl) (by kernel_rfl) rfl (fun wx hm => ?_) ?_
    · exact run_slTo (P := Try.prog) wx 22 3 1 g n cp k (by kernel_rfl) (by kernel_rfl) (by omega)
    refine hgE 5 [oh0] [0, 2, 3] [] [] [.code [1, 1, 0, 1, 0, 0, 1, 0, 0, 1, 0, 1, 1, 1, 1], .blk 1, .code cmpa_n6, .inv J, .blk 0, .code [1, 1, 1]] ⟨[(0, .slice (some ⟨g, 0, none⟩) n cp), (2, .slice (some ⟨g, 0, none⟩) k cp), (3, .int .i64 (k : Int))], [], [], W3.heap.size⟩ ?_
    refine hrt [] [.slice (some ⟨g, 0, none⟩) k cp] [] ?_
    intro wx hm
    have hkt : (cur.take k).length = k := by rw [List.length_take]; omega
    have hyt : ys.take (k0 + k2) = ys := List.take_of_length_le (by omega)
    exact ⟨cur.take k, ds, by rw [hkt]; rfl, hB3.kept hm.kept (fun ⟨_, hb, _⟩ => by cases hb), hl3, fun x => by rw [hmem, hyt], by omega, (MemOk.bck hm3 hm).kept⟩
  obtain ⟨v, hv⟩ : ∃ v, ys[k0 + k2]? = some v := ⟨_, List.getElem?_eq_getElem (by omega)⟩
  obtain ⟨u, hu⟩ : ∃ u, ys[k0 + k2 - 1]? = some u := ⟨_, List.getElem?_eq_getElem (by omega)⟩
  have hsame : ∀ i, k0 + k2 - 1 ≤ i → cur[i]? = ys[i]? := fun i hi => by
    have e := congrArg (fun l : List Int => l[i - (k0 + k2 - 1)]?) hdr
    simp only [List.getElem?_drop] at e
    rwa [show k0 + k2 - 1 + (i - (k0 + k2 - 1)) = i by omega] at e
  refine holds_wins [⟨g, k0 * 1 + k2 * 1, [.int .i64 v]⟩, ⟨g, k0 * 1 + (Int.toNat ((k2 : Int) - 1)) * 1, [.int .i64 u]⟩] (fun _ y hy => ?_) ?_
  · simp only [List.mem_cons, List.not_mem_nil, or_false] at hy
    have hcell : ∀ (i : Nat) (x : Int), (cur : List Int)[i]? = some x → W2.cell? ⟨g, i, none⟩ = some (.int .i64 x) := fun i x h => (hB2.cell i).trans (i64s_get h)
    rcases hy with rfl | rfl
    · refine ⟨fun ⟨_, hb, _⟩ => (by cases hb), hB2.lt, fun j x hj => ?_⟩
      obtain ⟨rfl, rfl⟩ : j = 0 ∧ x = .int .i64 v := by
        cases j with
        | zero => exact ⟨rfl, by simpa using hj.symm⟩
        | succ j => simp at hj
      rw [show k0 * 1 + k2 * 1 + 0 = (k0 + k2) by omega]
      exact hcell _ _ ((hsame _ (by omega)).trans hv)
    · refine ⟨fun ⟨_, hb, _⟩ => (by cases hb), hB2.lt, fun j x hj => ?_⟩
      obtain ⟨rfl, rfl⟩ : j = 0 ∧ x = .int .i64 u := by
        cases j with
        | zero => exact ⟨rfl, by simpa using hj.symm⟩
        | succ j => simp at hj
      rw [show k0 * 1 + (Int.toNat ((k2 : Int) - 1)) * 1 + 0 = (k0 + k2 - 1) by omega]
      exact hcell _ _ ((hsame _ (by omega)).trans hu)
  refine hgE 16 [oh0, oh0, oh0, oh0, oh1] [0, 2, 3, 4, 5] [dT (((k2 : Int) : Int) < (((n - k0) : Nat) : Int))] [] [.code cmpa_n2, .code cmpa_n3, .blk 3, .code cmpa_n4, .inv J2, .blk 2, .code cmpa_n5, .blk 1, .code cmpa_n6, .inv J, .blk 0, .code [1, 1, 1]] ⟨[(0, .slice (some ⟨g, 0, none⟩) n cp), (2, .slice none 0 0), (3, .int .i64 (k : Int)), (4, .slice (some ⟨g, k0 * 1, none⟩) (n - k0) (cp - k0)), (5, .int .i64 (k2 : Int))], [], [⟨g, k0 * 1 + k2 * 1, [.int .i64 v]⟩, ⟨g, k0 * 1 + (Int.toNat ((k2 : Int) - 1)) * 1, [.int .i64 u]⟩], W2.heap.size⟩ ?_
  refine holds_quietG _ _ (by kernel_rfl) (by kernel_rfl) (by kernel_rfl) (cmpa_q20 g n cp k k0 k2 u v W2) ⟨⟨by omega, by omega⟩, in64 (by omega), ⟨by omega, by omega⟩, trivial⟩ fun z20 hz20 => ?_
  replace hz20 : W2.heap.size ≤ z20 := hz20
  refine hgE 3 [] [0, 2, 3, 4, 5, 44] [] [] [.code cmpa_n3, .blk 3, .code cmpa_n4, .inv J2, .blk 2, .code cmpa_n5, .blk 1, .code cmpa_n6, .inv J, .blk 0, .code [1, 1, 1]] ⟨[(0, .slice (some ⟨g, 0, none⟩) n cp), (2, .slice none 0 0), (3, .int .i64 (k : Int)), (4, .slice (some ⟨g, k0 * 1, none⟩) (n - k0) (cp - k0)), (5, .int .i64 (k2 : Int)), (44, .bool (v != u))], [], [⟨g, k0 * 1 + k2 * 1, [.int .i64 v]⟩, ⟨g, k0 * 1 + (Int.toNat ((k2 : Int) - 1)) * 1, [.int .i64 u]⟩], z20⟩ ?_
  rcases Bool.eq_false_or_eq_true (v != u) with d1 | d1
  rotate_left
  · skip
    refine hgE 11 [oh0, oh0, oh2, oh0] [0, 2, 3, 4, 5] [eD d1, n64 (((k2 : Int) + 1))] [] [.inv J2, .blk 2, .code cmpa_n5, .blk 1, .code cmpa_n6, .inv J, .blk 0, .code [1, 1, 1]] ⟨[(0, .slice (some ⟨g, 0, none⟩) n cp), (2, .slice none 0 0), (3, .int .i64 (k : Int)), (4, .slice (some ⟨g, k0 * 1, none⟩) (n - k0) (cp - k0)), (5, .int .i64 ((k2 : Int) + 1))], [], [⟨g, k0 * 1 + k2 * 1, [.int .i64 v]⟩, ⟨g, k0 * 1 + (Int.toNat ((k2 : Int) - 1)) * 1, [.int .i64 u]⟩], z20⟩ ?_
    have hvu : v = u := by simpa using d1
    subst hvu
    refine holds_wins [] (fun _ _ h => by cases h) ?_
    intro a_ w4 hf hm
    have hmZ := MemOk.bck hm2 hm
    refine hJ2 (m2 - 1) _ a_ w4 (by omega) ⟨k, k2 + 1, cur, _, by omega, by omega, by omega, by omega, by omega, hlc, ?_, fun x => ?_, hB2.kept hm.kept (fun ⟨_, hb, _⟩ => by cases hb), by rw [← cast_succ k2]⟩ hf hmZ
    · apply List.ext_getElem?
      intro i
      rw [List.getElem?_drop, List.getElem?_drop]
      exact hsame _ (by omega)
    · rw [hmem, ← Nat.add_assoc, List.take_add_one, hv]
      have e : v ∈ ys.take (k0 + k2) := List.mem_of_getElem? (i := k0 + k2 - 1) (by rw [List.getElem?_take_of_lt (by omega)]; exact hu)
      simp
      intro h
      rw [h]
      exact e
  refine hgE 13 [oh1, oh0, oh0, oh0, oh0, oh2, ⟨false, 0, [⟨true, 0, 0, 1⟩]⟩, oh2] [0, 2, 3, 4, 5, 50, 51] [eD d1, oE ((0 : Int) ≤ (k2 : Int) ∧ (k2 : Int) < (((n - k0) : Nat) : Int)), oE ((0 : Int) ≤ (k : Int) ∧ (k : Int) < ((n : Nat) : Int))] [(g, k0 * 1 + k2 * 1, 1)] [.ops [1, 1, 0, 1, 0, 0, 1, 0, 0, 1, 0, 1, 0, 1, 0, 0, 1, 0, 0, 1, 0, 0] [7], .code [1, 1, 0, 1, 0, 0, 1, 0, 0, 1, 0, 1, 0, 1, 0, 0, 1, 0, 0, 1, 0, 1], .blk 3, .code cmpa_n4, .inv J2, .blk 2, .code cmpa_n5, .blk 1, .code cmpa_n6, .inv J, .blk 0, .code [1, 1, 1]] ⟨[(0, .slice (some ⟨g, 0, none⟩) n cp), (2, .slice none 0 0), (3, .int .i64 (k : Int)), (4, .slice (some ⟨g, k0 * 1, none⟩) (n - k0) (cp - k0)), (5, .int .i64 (k2 : Int)), (50, .int .i64 v), (51, .pointer (some ⟨g, 0 + k * 1, none⟩))], [], [⟨g, k0 * 1 + k2 * 1, [.int .i64 v]⟩, ⟨g, k0 * 1 + (Int.toNat ((k2 : Int) - 1)) * 1, [.int .i64 u]⟩], z20⟩ ?_
  refine holds_opSU (w := w) (S' := (fun x => x = g)) (x := Instr.storeAt 3 (.pointer (some ⟨g, 0 + k * 1, none⟩)) (.int .i64 v)) (fun W_ => Blk W_ g 3 (i64s (cur.set k v) ++ r)) (by kernel_rfl) (by kernel_rfl) (fun wx hm => ?_) (fun W3 hB3 hm3 => ?_)
  · have h1 := run_storeG (P := Try.prog) wx 3 g (0 + k * 1) 3 (i64s cur ++ r) (.int .i64 v) (by kernel_rfl) (hB2.kept hm.kept (fun ⟨_, hb, _⟩ => by cases hb)) (by rw [List.length_append, i64s_len]; show _ + 1 ≤ _; omega) (by simp [Value.cells, Value.oneCell'])
    have e : (i64s cur ++ r).take (0 + k * 1) ++ (Value.int .i64 v).cells.toList ++ (i64s cur ++ r).drop (0 + k * 1 + (Value.int .i64 v).cells.size) = i64s (cur.set k v) ++ r := by
      rw [show 0 + k * 1 = k by omega]
      show (i64s cur ++ r).take k ++ [Value.int .i64 v] ++ (i64s cur ++ r).drop (k + 1) = _
      rw [show i64s (cur.set k v) = (i64s cur).set k (.int .i64 v) by simp [i64s], ← List.set_append_left _ _ (by rw [i64s_len]; omega), List.set_eq_take_append_cons_drop, if_pos (by rw [List.length_append, i64s_len]; omega)]
      simp
    rw [e] at h1
    exact ⟨_, h1, setRow_blk (hB2.kept hm.kept (fun ⟨_, hb, _⟩ => by cases hb)) _, MemOk.offA (MemOk.bck hm2 hm) (fun _ h => h) (setRow_kept wx g _) (fun _ h => .inl h) (fun b hb => by cases hb)⟩
  refine hgE 15 [oh0, oh2, oh0, oh0, oh2, oh0] [0, 2, 3, 4, 5] [n64 (((k : Int) + 1)), n64 (((k2 : Int) + 1))] [] [.inv J2, .blk 2, .code cmpa_n5, .blk 1, .code cmpa_n6, .inv J, .blk 0, .code [1, 1, 1]] ⟨[(0, .slice (some ⟨g, 0, none⟩) n cp), (2, .slice none 0 0), (3, .int .i64 ((k : Int) + 1)), (4, .slice (some ⟨g, k0 * 1, none⟩) (n - k0) (cp - k0)), (5, .int .i64 ((k2 : Int) + 1))], [], [], W3.heap.size⟩ ?_
  intro a_ w4 hf hm
  have hmZ := MemOk.bck hm3 hm
  refine hJ2 (m2 - 1) _ a_ w4 (by omega) ⟨k + 1, k2 + 1, cur.set k v, _, by omega, by omega, by omega, by omega, by omega, by simp [hlc], ?_, fun x => ?_, hB3.kept hm.kept (fun ⟨_, hb, _⟩ => by cases hb), by rw [← cast_succ k2, ← cast_succ k]⟩ hf hmZ
  · apply List.ext_getElem?
    intro i
    rw [List.getElem?_drop, List.getElem?_drop, List.getElem?_set_ne (by omega)]
    exact hsame _ (by omega)
  · rw [← Nat.add_assoc, List.take_add_one (l := ys), hv, List.take_add_one, List.getElem?_set_self (by omega), List.take_set_of_le (Nat.le_refl _)]
    simp [hmem]

theorem compact_own (w : World) (base : Nat) (A : Option Addr) (n cp : Nat) (ys : List Int) (hn : n ≤ 64) (h : OwnR w base 3 1 A n cp (i64s ys)) :
    Calls Try.prog 26 #[.slice A n cp] w (fun e w' => ∃ zs, e = .returned (.slice A (List.length zs) cp) ∧ OwnR w' base 3 1 A (List.length zs) cp (i64s zs) ∧ (∀ x, x ∈ zs ↔ x ∈ ys) ∧ (ys.length < 2 → zs = ys) ∧ Kept (ownS A) w w') := by
  have hl : ys.length = n := by have := h.len; rw [i64s_len] at this; omega
  by_cases h2 : n < 2
  · refine (compact_small A n cp h2 w).mono fun e w' he => ?_
    obtain ⟨he, hk⟩ := he
    subst hl
    exact ⟨ys, he, h.kept hk (fun _ _ h => h), fun _ => Iff.rfl, fun _ => rfl, hk.mono (fun _ _ h => h.elim)⟩
  · rcases h.blk with ⟨rfl, rfl, rfl, hc⟩ | ⟨g, r, rfl, h1, hB, h3, h4, h5⟩
    · omega
    · refine (compact_any g n cp ys r hl (by omega) hn h3 w hB).mono fun e w' he => ?_
      obtain ⟨zs, r', he, hB', hl', hmem, hzn, hk⟩ := he
      exact ⟨zs, he, ownR_of h1 hB' (by omega) h4 (by rw [i64s_len]; omega) (by rw [hl', h5]), hmem, fun h => by omega, hk.mono (fun x _ h => ⟨_, rfl, h⟩)⟩
end Go.Proofs.Ytmeddeaphmpjcaa
