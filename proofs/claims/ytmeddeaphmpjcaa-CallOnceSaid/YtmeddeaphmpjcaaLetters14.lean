/- Letters and Ints on lists that are the same. -/
import Derived.Test.YtmeddeaphmpjcaaAgainM
import Derived.Test.YtmeddeaphmpjcaaEngU
import Derived.Test.YtmeddeaphmpjcaaOwnR
import Derived.Test.YtmeddeaphmpjcaaProg
namespace Go.Proofs.Ytmeddeaphmpjcaa
open Go.RowKit

theorem lettersC_len (frm : Int) (l : List OneM) : (lettersC frm l).length = l.length * 26 := by
  induction l with
  | nil => rfl
  | cons o l ih =>
    show (letC frm o ++ lettersC frm l).length = _
    rw [List.length_append, ih, List.length_cons]
    show 26 + _ = _
    omega
theorem lettersC_get {frm : Int} {l : List OneM} {i j : Nat} {o : OneM} (h : l[i]? = some o) (hj : j < 26) : (lettersC frm l)[i * 26 + j]? = (letC frm o)[j]? := by
  induction l generalizing i with
  | nil => simp at h
  | cons x l ih =>
    show (letC frm x ++ lettersC frm l)[i * 26 + j]? = _
    cases i with
    | zero =>
      simp only [List.getElem?_cons_zero, Option.some.injEq] at h
      subst h
      rw [List.getElem?_append_left (by show _ < 26; omega)]
      simp
    | succ i =>
      rw [List.getElem?_append_right (by show 26 ≤ _; omega)]
      have e : (i + 1) * 26 + j - (letC frm x).length = i * 26 + j := by show _ - 26 = _; omega
      rw [e]
      exact ih (by simpa using h)
theorem letters_get {frm : Int} {l : List OneM} {i j : Nat} {o : OneM} {v : Value} (h : l[i]? = some o) (hj : (letC frm o)[j]? = some v) : (lettersC frm l)[i * 26 + j]? = some v :=
  (lettersC_get h (by have h5 := (List.getElem?_eq_some_iff.1 hj).1; exact h5)).trans hj
theorem ints_get {l : List Int} {i j : Nat} {u : Int} {v : Value} (h : l[i]? = some u) (hj : ([.int .i64 u] : List Value)[j]? = some v) : (i64s l)[i * 1 + j]? = some v := by
  have h5 : j < 1 := (List.getElem?_eq_some_iff.1 hj).1
  obtain rfl : j = 0 := by omega
  simp only [List.getElem?_cons_zero, Option.some.injEq] at hj
  subst hj
  simp [i64s, h]
theorem row_own {w : World} {base : Nat} {e : TypeId} {z : Nat} {A : Option Addr} {n cp : Nat} {cs xs : List Value} {i : Nat} (h : OwnR w base e z A n cp cs) (hx : ∀ (j : Nat) (v : Value), xs[j]? = some v → cs[i * z + j]? = some v) (h0 : xs ≠ [] := by exact List.cons_ne_nil _ _) :
    ∃ g, A = some ⟨g, 0, none⟩ ∧ g < w.heap.size ∧ ∀ (j : Nat) (v : Value), xs[j]? = some v → w.cell? ⟨g, 0 + i * z + j, none⟩ = some v := by
  obtain ⟨x, xs', rfl⟩ := List.exists_cons_of_ne_nil h0
  obtain ⟨g, hg, _, hlt, _⟩ := h.cell (hx 0 x rfl)
  refine ⟨g, hg, hlt, fun j v hj => ?_⟩
  obtain ⟨g', hg', _, _, hc⟩ := h.cell (hx j v hj)
  rw [hg] at hg'
  cases hg'
  rw [show 0 + i * z + j = i * z + j by omega]
  exact hc
def lsm_v1 (frm : Int) (o : OneM) : List Value := [.int .i64 frm, .int .i64 o.to, .int .i64 o.id, .bool false, .int .i64 o.q.kind, .int .i64 o.q.stripe, .int .i64 o.q.epoch, .int .i64 o.q.seq, .int .i64 o.q.mask, .int .i64 o.q.node, .int .i64 o.q.oe, .int .i64 o.q.os, .string o.q.block, .int .i64 0, .int .i64 0, .int .i64 0, .bool false, .int .i64 0, .int .i64 0, .int .i64 0, .string ⟨#[]⟩, .bool false, .int .i64 0, .int .i64 0, .int .i64 0, .string ⟨#[]⟩]
def lsm_n1 : List Nat := [1, 1, 0, 1, 0, 0, 1, 0, 0, 0]
theorem lsm_q5 (frm : Int) (o : OneM) (n : Nat) (cp : Nat) (cp2 : Nat) (g1 : Nat) (g2 : Nat) (i : Nat) (W1 : World) : Out.prune [0, 1, 4, 5, 25] (qListG Try.prog 26 W1 (Turned []) (opsOf (getCode (bodyOf Try.f12) lsm_n1)) (opsOf (getCode (bodyOf Try.f12) lsm_n1)).toList ⟨[(0, .slice (some ⟨g1, 0, none⟩) n cp), (1, .slice (some ⟨g2, 0, none⟩) n cp2), (4, .bool false), (5, .int .i64 (i : Int))], [], [⟨g1, 0 + i * 26, (lsm_v1 frm o)⟩, ⟨g2, 0 + i * 26, (lsm_v1 frm o)⟩], W1.heap.size⟩ [(false, .op oh0), (false, .op oh0), (false, .op oh2), (false, .op ⟨false, 0, [⟨true, 0, 0, 26⟩]⟩), (false, .op oh0), (false, .op oh0), (false, .op oh2), (false, .op ⟨false, 0, [⟨true, 1, 0, 26⟩]⟩), (false, .op oh2)]) = some ⟨[(0 : Int) ≤ (i : Int) ∧ (i : Int) < ((n : Nat) : Int), (0 : Int) ≤ (i : Int) ∧ (i : Int) < ((n : Nat) : Int), True], dupR [(g1, 0 + i * 26, 26), (g2, 0 + i * 26, 26)], ⟨[(0, .slice (some ⟨g1, 0, none⟩) n cp), (1, .slice (some ⟨g2, 0, none⟩) n cp2), (4, .bool false), (5, .int .i64 (i : Int)), (25, .bool (!((((frm : Int) == frm) && (((o.to : Int) == o.to) && (((o.id : Int) == o.id) && ((((o.q.kind : Int) == o.q.kind) && (((o.q.stripe : Int) == o.q.stripe) && (((o.q.epoch : Int) == o.q.epoch) && (((o.q.seq : Int) == o.q.seq) && (((o.q.mask : Int) == o.q.mask) && (((o.q.node : Int) == o.q.node) && ((((o.q.oe : Int) == o.q.oe) && (((o.q.os : Int) == o.q.os) && true)) && (((o.q.block : ByteArray) == o.q.block) && true)))))))) && true)))))))], [], [⟨g1, 0 + i * 26, (lsm_v1 frm o)⟩, ⟨g2, 0 + i * 26, (lsm_v1 frm o)⟩], W1.heap.size⟩⟩ := by kernel_rfl
set_option maxRecDepth 100000 in
set_option maxHeartbeats 4000000 in
theorem letters_same (frm : Int) (l : List OneM) (A A2 : Option Addr) (n cp cp2 b1 b2 : Nat) (hl : l.length = n) (hn : n ≤ 1000) (w : World) (h1 : OwnR w b1 37 26 A n cp (lettersC frm l)) (h2 : OwnR w b2 37 26 A2 n cp2 (lettersC frm l)) :
    Calls Try.prog 12 #[.slice A n cp, .slice A2 n cp2] w (RetK (.bool true) w) := by
  refine calls_of_holds (S := (fun _ => False)) (l := [.slice A n cp, .slice A2 n cp2]) (n := 26) Try.func12 (body_of (by kernel_rfl)) rfl (by simp) (MemOk.none w _) ?_
  refine hgE 24 [oh0, oh0, oh0, oh0, oh0, oh0, oh0, oh0] [0, 1, 4, 5] [oE (((n : Int) != (n : Int)) = false) (by simp)] [] [.code [1, 1, 0, 1, 0], .blk 0, .code [1, 1, 1]] ⟨[(0, .slice A n cp), (1, .slice A2 n cp2), (4, .bool false), (5, .int .i64 0)], [], [], w.heap.size⟩ ?_
  refine holds_loopW (w := w) (S' := fun _ => False) (fun m st W1 => ∃ i z : Nat, m + i = n ∧ OwnR W1 b1 37 26 A n cp (lettersC frm l) ∧ OwnR W1 b2 37 26 A2 n cp2 (lettersC frm l) ∧ st = ⟨[(0, .slice A n cp), (1, .slice A2 n cp2), (4, .bool false), (5, .int .i64 (i : Int))], [], [], z⟩) n (by kernel_rfl) (fun W1 hm => ⟨⟨0, _, rfl, h1.kept hm.kept (fun _ _ h => h), h2.kept hm.kept (fun _ _ h => h), rfl⟩, hm⟩) ?_
  rintro m _ W1 ⟨i, z, hmi, hO1, hO2, rfl⟩ hm1 J hJ
  by_cases hi : i < n
  rotate_left
  · skip
    refine hgE 17 [oh0, oh0, oh0, oh0, oh0, oh0] [4] [dF (((i : Int) : Int) < (n : Int))] [] [.code [1, 1, 1, 1]] ⟨[(4, .bool true)], [], [], W1.heap.size⟩ ?_
    refine hrt [] [.bool true] [] ?_
    intro wx hm
    exact ⟨rfl, (MemOk.bck hm1 hm).kept⟩
  obtain ⟨o, hv⟩ : ∃ x, l[i]? = some x := ⟨_, List.getElem?_eq_getElem (by omega)⟩
  obtain ⟨g1, hA1, hg1, hc1⟩ := row_own hO1 (xs := (lsm_v1 frm o)) (fun j v hj => letters_get hv hj)
  obtain ⟨g2, hA2, hg2, hc2⟩ := row_own hO2 (xs := (lsm_v1 frm o)) (fun j v hj => letters_get hv hj)
  subst hA1
  subst hA2
  refine holds_wins [⟨g1, 0 + i * 26, (lsm_v1 frm o)⟩, ⟨g2, 0 + i * 26, (lsm_v1 frm o)⟩] (fun _ y hy => ?_) ?_
  · simp only [List.mem_cons, List.not_mem_nil, or_false] at hy
    rcases hy with rfl | rfl
    · exact ⟨fun ⟨_, hb, _⟩ => (by cases hb), hg1, hc1⟩
    · exact ⟨fun ⟨_, hb, _⟩ => (by cases hb), hg2, hc2⟩
  refine hgE 16 [oh0, oh0, oh0, oh0, oh1] [0, 1, 4, 5] [dT (((i : Int) : Int) < (n : Int))] [] [.code lsm_n1, .code [1, 1, 0, 1, 0, 0, 1, 0, 0, 1], .blk 1, .code [1, 1, 0, 1, 0, 0, 1, 1], .inv J, .blk 0, .code [1, 1, 1]] ⟨[(0, .slice (some ⟨g1, 0, none⟩) n cp), (1, .slice (some ⟨g2, 0, none⟩) n cp2), (4, .bool false), (5, .int .i64 (i : Int))], [], [⟨g1, 0 + i * 26, (lsm_v1 frm o)⟩, ⟨g2, 0 + i * 26, (lsm_v1 frm o)⟩], W1.heap.size⟩ ?_
  refine holds_quietG _ _ (by kernel_rfl) (by kernel_rfl) (by kernel_rfl) (lsm_q5 frm o n cp cp2 g1 g2 i W1) ⟨⟨by omega, by omega⟩, ⟨by omega, by omega⟩, trivial, trivial⟩ fun z5 hz5 => ?_
  replace hz5 : W1.heap.size ≤ z5 := hz5
  refine hgE 3 [] [0, 1, 4, 5, 25] [] [] [.code [1, 1, 0, 1, 0, 0, 1, 0, 0, 1], .blk 1, .code [1, 1, 0, 1, 0, 0, 1, 1], .inv J, .blk 0, .code [1, 1, 1]] ⟨[(0, .slice (some ⟨g1, 0, none⟩) n cp), (1, .slice (some ⟨g2, 0, none⟩) n cp2), (4, .bool false), (5, .int .i64 (i : Int)), (25, .bool (!((((frm : Int) == frm) && (((o.to : Int) == o.to) && (((o.id : Int) == o.id) && ((((o.q.kind : Int) == o.q.kind) && (((o.q.stripe : Int) == o.q.stripe) && (((o.q.epoch : Int) == o.q.epoch) && (((o.q.seq : Int) == o.q.seq) && (((o.q.mask : Int) == o.q.mask) && (((o.q.node : Int) == o.q.node) && ((((o.q.oe : Int) == o.q.oe) && (((o.q.os : Int) == o.q.os) && true)) && (((o.q.block : ByteArray) == o.q.block) && true)))))))) && true)))))))], [], [⟨g1, 0 + i * 26, (lsm_v1 frm o)⟩, ⟨g2, 0 + i * 26, (lsm_v1 frm o)⟩], z5⟩ ?_
  refine hgE 11 [oh0, oh0, oh2, oh0] [0, 1, 4, 5] [oE ((!((((frm : Int) == frm) && (((o.to : Int) == o.to) && (((o.id : Int) == o.id) && ((((o.q.kind : Int) == o.q.kind) && (((o.q.stripe : Int) == o.q.stripe) && (((o.q.epoch : Int) == o.q.epoch) && (((o.q.seq : Int) == o.q.seq) && (((o.q.mask : Int) == o.q.mask) && (((o.q.node : Int) == o.q.node) && ((((o.q.oe : Int) == o.q.oe) && (((o.q.os : Int) == o.q.os) && true)) && (((o.q.block : ByteArray) == o.q.block) && true)))))))) && true)))))) = false) (by simp [bytes_beq]), n64 (((i : Int) + 1))] [] [.inv J, .blk 0, .code [1, 1, 1]] ⟨[(0, .slice (some ⟨g1, 0, none⟩) n cp), (1, .slice (some ⟨g2, 0, none⟩) n cp2), (4, .bool false), (5, .int .i64 ((i : Int) + 1))], [], [⟨g1, 0 + i * 26, (lsm_v1 frm o)⟩, ⟨g2, 0 + i * 26, (lsm_v1 frm o)⟩], z5⟩ ?_
  refine holds_wins [] (fun _ _ h => by cases h) ?_
  intro a_ w4 hf hm
  exact hJ (m - 1) _ a_ w4 (by omega) ⟨i + 1, _, by omega, hO1.kept hm.kept (fun _ _ ⟨_, hb, _⟩ => by cases hb), hO2.kept hm.kept (fun _ _ ⟨_, hb, _⟩ => by cases hb), by rw [← cast_succ i]⟩ hf (MemOk.bck hm1 hm)

def ism_n1 : List Nat := [1, 1, 0, 1, 0, 0, 1, 0, 0, 0]
theorem ism_q5 (u : Int) (n : Nat) (cp : Nat) (cp2 : Nat) (g1 : Nat) (g2 : Nat) (i : Nat) (W1 : World) : Out.prune [0, 1, 4, 5, 25] (qListG Try.prog 26 W1 (Turned []) (opsOf (getCode (bodyOf Try.f17) ism_n1)) (opsOf (getCode (bodyOf Try.f17) ism_n1)).toList ⟨[(0, .slice (some ⟨g1, 0, none⟩) n cp), (1, .slice (some ⟨g2, 0, none⟩) n cp2), (4, .bool false), (5, .int .i64 (i : Int))], [], [⟨g1, 0 + i * 1, [.int .i64 u]⟩, ⟨g2, 0 + i * 1, [.int .i64 u]⟩], W1.heap.size⟩ [(false, .op oh0), (false, .op oh0), (false, .op oh2), (false, .op ⟨false, 0, [⟨true, 0, 0, 1⟩]⟩), (false, .op oh0), (false, .op oh0), (false, .op oh2), (false, .op ⟨false, 0, [⟨true, 1, 0, 1⟩]⟩), (false, .op oh0)]) = some ⟨[(0 : Int) ≤ (i : Int) ∧ (i : Int) < ((n : Nat) : Int), (0 : Int) ≤ (i : Int) ∧ (i : Int) < ((n : Nat) : Int)], dupR [(g1, 0 + i * 1, 1), (g2, 0 + i * 1, 1)], ⟨[(0, .slice (some ⟨g1, 0, none⟩) n cp), (1, .slice (some ⟨g2, 0, none⟩) n cp2), (4, .bool false), (5, .int .i64 (i : Int)), (25, .bool (u != u))], [], [⟨g1, 0 + i * 1, [.int .i64 u]⟩, ⟨g2, 0 + i * 1, [.int .i64 u]⟩], W1.heap.size⟩⟩ := by kernel_rfl
set_option maxRecDepth 100000 in
set_option maxHeartbeats 4000000 in
theorem ints_same (ys : List Int) (A A2 : Option Addr) (n cp cp2 b1 b2 : Nat) (hl : ys.length = n) (hn : n ≤ 1000) (w : World) (h1 : OwnR w b1 3 1 A n cp (i64s ys)) (h2 : OwnR w b2 3 1 A2 n cp2 (i64s ys)) :
    Calls Try.prog 17 #[.slice A n cp, .slice A2 n cp2] w (RetK (.bool true) w) := by
  refine calls_of_holds (S := (fun _ => False)) (l := [.slice A n cp, .slice A2 n cp2]) (n := 26) Try.func17 (body_of (by kernel_rfl)) rfl (by simp) (MemOk.none w _) ?_
  refine hgE 24 [oh0, oh0, oh0, oh0, oh0, oh0, oh0, oh0] [0, 1, 4, 5] [oE (((n : Int) != (n : Int)) = false) (by simp)] [] [.code [1, 1, 0, 1, 0], .blk 0, .code [1, 1, 1]] ⟨[(0, .slice A n cp), (1, .slice A2 n cp2), (4, .bool false), (5, .int .i64 0)], [], [], w.heap.size⟩ ?_
  refine holds_loopW (w := w) (S' := fun _ => False) (fun m st W1 => ∃ i z : Nat, m + i = n ∧ OwnR W1 b1 3 1 A n cp (i64s ys) ∧ OwnR W1 b2 3 1 A2 n cp2 (i64s ys) ∧ st = ⟨[(0, .slice A n cp), (1, .slice A2 n cp2), (4, .bool false), (5, .int .i64 (i : Int))], [], [], z⟩) n (by kernel_rfl) (fun W1 hm => ⟨⟨0, _, rfl, h1.kept hm.kept (fun _ _ h => h), h2.kept hm.kept (fun _ _ h => h), rfl⟩, hm⟩) ?_
  rintro m _ W1 ⟨i, z, hmi, hO1, hO2, rfl⟩ hm1 J hJ
  by_cases hi : i < n
  rotate_left
  · skip
    refine hgE 17 [oh0, oh0, oh0, oh0, oh0, oh0] [4] [dF (((i : Int) : Int) < (n : Int))] [] [.code [1, 1, 1, 1]] ⟨[(4, .bool true)], [], [], W1.heap.size⟩ ?_
    refine hrt [] [.bool true] [] ?_
    intro wx hm
    exact ⟨rfl, (MemOk.bck hm1 hm).kept⟩
  obtain ⟨u, hv⟩ : ∃ x, ys[i]? = some x := ⟨_, List.getElem?_eq_getElem (by omega)⟩
  obtain ⟨g1, hA1, hg1, hc1⟩ := row_own hO1 (xs := [.int .i64 u]) (fun j v hj => ints_get hv hj)
  obtain ⟨g2, hA2, hg2, hc2⟩ := row_own hO2 (xs := [.int .i64 u]) (fun j v hj => ints_get hv hj)
  subst hA1
  subst hA2
  refine holds_wins [⟨g1, 0 + i * 1, [.int .i64 u]⟩, ⟨g2, 0 + i * 1, [.int .i64 u]⟩] (fun _ y hy => ?_) ?_
  · simp only [List.mem_cons, List.not_mem_nil, or_false] at hy
    rcases hy with rfl | rfl
    · exact ⟨fun ⟨_, hb, _⟩ => (by cases hb), hg1, hc1⟩
    · exact ⟨fun ⟨_, hb, _⟩ => (by cases hb), hg2, hc2⟩
  refine hgE 16 [oh0, oh0, oh0, oh0, oh1] [0, 1, 4, 5] [dT (((i : Int) : Int) < (n : Int))] [] [.code ism_n1, .code [1, 1, 0, 1, 0, 0, 1, 0, 0, 1], .blk 1, .code [1, 1, 0, 1, 0, 0, 1, 1], .inv J, .blk 0, .code [1, 1, 1]] ⟨[(0, .slice (some ⟨g1, 0, none⟩) n cp), (1, .slice (some ⟨g2, 0, none⟩) n cp2), (4, .bool false), (5, .int .i64 (i : Int))], [], [⟨g1, 0 + i * 1, [.int .i64 u]⟩, ⟨g2, 0 + i * 1, [.int .i64 u]⟩], W1.heap.size⟩ ?_
  refine holds_quietG _ _ (by kernel_rfl) (by kernel_rfl) (by kernel_rfl) (ism_q5 u n cp cp2 g1 g2 i W1) ⟨⟨by omega, by omega⟩, ⟨by omega, by omega⟩, trivial⟩ fun z5 hz5 => ?_
  replace hz5 : W1.heap.size ≤ z5 := hz5
  refine hgE 3 [] [0, 1, 4, 5, 25] [] [] [.code [1, 1, 0, 1, 0, 0, 1, 0, 0, 1], .blk 1, .code [1, 1, 0, 1, 0, 0, 1, 1], .inv J, .blk 0, .code [1, 1, 1]] ⟨[(0, .slice (some ⟨g1, 0, none⟩) n cp), (1, .slice (some ⟨g2, 0, none⟩) n cp2), (4, .bool false), (5, .int .i64 (i : Int)), (25, .bool (u != u))], [], [⟨g1, 0 + i * 1, [.int .i64 u]⟩, ⟨g2, 0 + i * 1, [.int .i64 u]⟩], z5⟩ ?_
  refine hgE 11 [oh0, oh0, oh2, oh0] [0, 1, 4, 5] [oE ((u != u) = false) (by simp), n64 (((i : Int) + 1))] [] [.inv J, .blk 0, .code [1, 1, 1]] ⟨[(0, .slice (some ⟨g1, 0, none⟩) n cp), (1, .slice (some ⟨g2, 0, none⟩) n cp2), (4, .bool false), (5, .int .i64 ((i : Int) + 1))], [], [⟨g1, 0 + i * 1, [.int .i64 u]⟩, ⟨g2, 0 + i * 1, [.int .i64 u]⟩], z5⟩ ?_
  refine holds_wins [] (fun _ _ h => by cases h) ?_
  intro a_ w4 hf hm
  exact hJ (m - 1) _ a_ w4 (by omega) ⟨i + 1, _, by omega, hO1.kept hm.kept (fun _ _ ⟨_, hb, _⟩ => by cases hb), hO2.kept hm.kept (fun _ _ ⟨_, hb, _⟩ => by cases hb), by rw [← cast_succ i]⟩ hf (MemOk.bck hm1 hm)

end Go.Proofs.Ytmeddeaphmpjcaa
