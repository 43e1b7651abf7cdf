/- Layer 13: a map of texts to numbers, in the memory; the frames that it tells, in order. Plain lemmas; no program. -/
import Derived.Test.YthndmmondlpghaaEngH
import Derived.Test.YthndmmondlpghaaPlatG
import Derived.MapKept
import Derived.Carry
import Derived.Sort.KeysCollected
namespace Go.Proofs.Ythndmmondlpghaa
open Go.RowKit Go.MapKept

/-- an entry: a text, how often, when it came -/
structure NE where
  k : ByteArray
  c : Int
  born : Nat
def NE.ent (c : NE) : MapEntry := { key := .string c.k, val := .int .i64 c.c, born := c.born }
def NapAt (w : World) (m : Nat) (cs : List NE) (clock : Nat) : Prop := w.heap[m]? = some (.map (cs.map NE.ent).toArray clock)
theorem NapAt.lt {w : World} {m : Nat} {cs : List NE} {clock : Nat} (h : NapAt w m cs clock) : m < w.heap.size := (Array.getElem?_eq_some_iff.1 h).1
theorem NapAt.kept {w w' : World} {m : Nat} {cs : List NE} {clock : Nat} {T : Nat → Prop} (h : NapAt w m cs clock) (hk : Kept T w w') (hT : ¬ T m) : NapAt w' m cs clock := (hk.block m h.lt hT).trans h
def lookN : List NE → ByteArray → Nat → Option (Nat × Int)
  | [], _, _ => none
  | c :: cs, n, i => if n = c.k then some (i, c.c) else lookN cs n (i + 1)
def cntN : List NE → ByteArray → Int
  | [], _ => 0
  | c :: cs, s => if s = c.k then c.c else cntN cs s
def putN : List NE → ByteArray → Int → Nat → List NE
  | [], s, v, ck => [⟨s, v, ck⟩]
  | c :: cs, s, v, ck => if s = c.k then { c with c := v } :: cs else c :: putN cs s v ck
def putK (cs : List NE) (s : ByteArray) (ck : Nat) : Nat := match lookN cs s 0 with
  | some _ => ck
  | none => ck + 1
def delN : List NE → ByteArray → List NE
  | [], _ => []
  | c :: cs, s => if s = c.k then cs else c :: delN cs s
theorem lookN_cnt : ∀ (cs : List NE) (s : ByteArray) (i : Nat), ((lookN cs s i).map (·.2)).getD 0 = cntN cs s
  | [], _, _ => rfl
  | c :: cs, s, i => by
    simp only [lookN, cntN]
    split
    · rfl
    · exact lookN_cnt cs s (i + 1)
theorem lookN_none : ∀ {cs : List NE} {s : ByteArray} {i : Nat}, lookN cs s i = none → s ∉ cs.map (·.k)
  | [], _, _, _ => by simp
  | c :: cs, s, i, h => by
    simp only [lookN] at h
    split at h
    · cases h
    · rename_i hn
      rw [List.map_cons, List.mem_cons, not_or]
      exact ⟨hn, lookN_none h⟩
theorem lookN_some : ∀ {cs : List NE} {s : ByteArray} {i j : Nat} {x : Int}, lookN cs s i = some (j, x) → i ≤ j ∧ s ∈ cs.map (·.k) ∧ ∃ c, cs[j - i]? = some c ∧ c.k = s
  | [], _, _, _, _, h => by cases h
  | c :: cs, s, i, j, x, h => by
    simp only [lookN] at h
    split at h
    · rename_i he
      simp only [Option.some.injEq, Prod.mk.injEq] at h
      obtain ⟨rfl, rfl⟩ := h
      exact ⟨Nat.le_refl _, by simp [he], c, by simp, he.symm⟩
    · obtain ⟨h1, h2, d, h3, h4⟩ := lookN_some h
      refine ⟨by omega, by rw [List.map_cons]; exact List.mem_cons_of_mem _ h2, d, ?_, h4⟩
      rw [show j - i = (j - (i + 1)) + 1 by omega]
      exact h3
theorem put_none : ∀ {cs : List NE} {s : ByteArray} {i : Nat} (v : Int) (ck : Nat), lookN cs s i = none → putN cs s v ck = cs ++ [⟨s, v, ck⟩]
  | [], _, _, _, _, _ => rfl
  | c :: cs, s, i, v, ck, h => by
    simp only [lookN] at h
    split at h
    · cases h
    · rename_i hn
      simp only [putN, if_neg hn, List.cons_append]
      rw [put_none v ck h]
theorem put_some : ∀ {cs : List NE} {s : ByteArray} {i j : Nat} {x : Int} (v : Int) (ck : Nat), lookN cs s i = some (j, x) → putN cs s v ck = cs.modify (j - i) (fun c => { c with c := v })
  | [], _, _, _, _, _, _, h => by cases h
  | c :: cs, s, i, j, x, v, ck, h => by
    have h0 := (lookN_some h).1
    simp only [lookN] at h
    split at h
    · rename_i he
      simp only [Option.some.injEq, Prod.mk.injEq] at h
      obtain ⟨rfl, rfl⟩ := h
      simp [putN, if_pos he]
    · rename_i hn
      have h1 := (lookN_some h).1
      rw [show j - i = (j - (i + 1)) + 1 by omega]
      simp only [putN, if_neg hn, List.modify_succ_cons]
      rw [put_some v ck h]
theorem del_none : ∀ {cs : List NE} {s : ByteArray} {i : Nat}, lookN cs s i = none → delN cs s = cs
  | [], _, _, _ => rfl
  | c :: cs, s, i, h => by
    simp only [lookN] at h
    split at h
    · cases h
    · rename_i hn
      simp only [delN, if_neg hn]
      rw [del_none h]
theorem del_some : ∀ {cs : List NE} {s : ByteArray} {i j : Nat} {x : Int}, lookN cs s i = some (j, x) → delN cs s = cs.eraseIdx (j - i)
  | [], _, _, _, _, h => by cases h
  | c :: cs, s, i, j, x, h => by
    simp only [lookN] at h
    split at h
    · rename_i he
      simp only [Option.some.injEq, Prod.mk.injEq] at h
      obtain ⟨rfl, rfl⟩ := h
      simp [delN, if_pos he]
    · rename_i hn
      have h1 := (lookN_some h).1
      rw [show j - i = (j - (i + 1)) + 1 by omega]
      simp only [delN, if_neg hn, List.eraseIdx_cons_succ]
      rw [del_some h]
theorem beq_bytes (a b : ByteArray) : (a == b) = decide (a = b) := by
  by_cases h : a = b
  · subst h
    rw [bytes_beq, decide_eq_true rfl]
  · rw [decide_eq_false h]
    cases e : a == b
    · rfl
    · rw [beq_toListBytes] at e
      exact absurd (by
        have h1 := eq_of_beq e
        have h2 : a.data.toList = b.data.toList := by
          rw [ByteArray.toList_eq, ByteArray.toList_eq] at h1
          exact h1
        cases a; cases b
        simp only [ByteArray.mk.injEq]
        exact Array.toList_inj.1 h2) h
theorem MemOk.offN {w wx w' : World} {S S' T : Nat → Prop} {bk : List Bk} {sz : Nat} (hm : MemOk w S bk [] sz wx) (hS : ∀ x, S x → S' x) (hk : Kept T wx w') (hT : ∀ x, T x → S' x ∨ w.heap.size ≤ x) (hb : ∀ b ∈ bk, ¬ T b.g) : MemOk w S' bk [] w'.heap.size w' :=
  ⟨rfl, fun b h => (hm.blk b h).kept hk (hb b h), fun b h hr => (hm.own b h hr).imp_left (hS _), hm.nd, (hm.kept.mono (fun k _ h => hS k h)).trans hk (fun k hk' h => (hT k h).resolve_right (by omega)), fun x hx => by cases hx⟩
section
variable {P : Program}
theorem findNow_lookN (n : ByteArray) : ∀ (cs : List NE) (i : Nat), Instr.findNow .string (.string n) (cs.map NE.ent) i = some ((lookN cs n i).map fun p => (p.1, .int .i64 p.2))
  | [], _ => rfl
  | c :: cs, i => by
    simp only [List.map_cons, Instr.findNow, NE.ent, Instr.sameNow, lookN, beq_bytes]
    by_cases h : n = c.k
    · rw [decide_eq_true h, if_pos h]
      rfl
    · rw [decide_eq_false h, if_neg h]
      exact findNow_lookN n cs (i + 1)
theorem run_lookN (w : World) (t k e : TypeId) (m : Nat) (cs : List NE) (clock : Nat) (n : ByteArray) (ht : P.underlying t = some (.map k e)) (hk : P.underlying k = some .string) (hz : (P.info? e).map (·.zero) = some (some (.int .i64 0))) (hm : NapAt w m cs clock) :
    (Instr.lookup t (.map (some m)) (.string n) false).run P w = .ok (.int .i64 (cntN cs n)) w := by
  obtain ⟨inf, hi, hz1⟩ := Option.map_eq_some_iff.1 hz
  have h1 : (getObj m).run P w = .ok (.map (cs.map NE.ent).toArray clock) w := Go.MapKept.run_getObj_map hm
  have h2 : ∀ b, (Instr.checkKey b 10000 k (.string n)).run P w = .ok () w := fun b => by
    unfold Instr.checkKey
    simp [run_underlying hk]
  have h3 := run_findKey (P := P) (w := w) (kt := k) (k := .string n) hk (findNow_lookN n cs 0)
  rw [← lookN_cnt cs n 0]
  unfold Instr.lookup
  cases hl : lookN cs n 0 with
  | none =>
    rw [hl] at h3
    simp only [Option.map_none] at h3
    simp [run_underlying ht, h1, h2, h3, zeroValue, typeInfo, hi, hz1]
  | some p =>
    rw [hl] at h3
    simp only [Option.map_some] at h3
    simp [run_underlying ht, h1, h2, h3]
theorem run_putN (w : World) (t k e : TypeId) (m : Nat) (cs : List NE) (clock : Nat) (n : ByteArray) (v : Int) (ht : P.underlying t = some (.map k e)) (hk : P.underlying k = some .string) (hm : NapAt w m cs clock) :
    ∃ w', (Instr.mapUpdate t (.map (some m)) (.string n) (.int .i64 v)).run P w = .ok () w' ∧ NapAt w' m (putN cs n v clock) (putK cs n clock) ∧ Kept (fun x => x = m) w w' ∧ w'.heap.size = w.heap.size := by
  have h1 : (getObj m).run P w = .ok (.map (cs.map NE.ent).toArray clock) w := Go.MapKept.run_getObj_map hm
  have h2 : ∀ b, (Instr.checkKey b 10000 k (.string n)).run P w = .ok () w := fun b => by
    unfold Instr.checkKey
    simp [run_underlying hk]
  have h3 := run_findKey (P := P) (w := w) (kt := k) (k := .string n) hk (findNow_lookN n cs 0)
  have hset : ∀ (cs' : List NE) (c' : Nat), NapAt { w with heap := w.heap.setIfInBounds m (.map (cs'.map NE.ent).toArray c') } m cs' c' ∧ Kept (fun x => x = m) w { w with heap := w.heap.setIfInBounds m (.map (cs'.map NE.ent).toArray c') } := fun cs' c' =>
    ⟨(heap_set hm).1, rfl, rfl, rfl, by simp, fun q _ hq => (heap_set hm).2 q hq⟩
  unfold Instr.mapUpdate
  cases hl : lookN cs n 0 with
  | none =>
    rw [hl] at h3
    simp only [Option.map_none] at h3
    have e : putN cs n v clock = cs ++ [(⟨n, v, clock⟩ : NE)] := put_none v clock hl
    have e0 : putK cs n clock = clock + 1 := by simp [putK, hl]
    have h4 := Go.MapKept.run_setObj_map (P := P) (.map ((cs ++ [(⟨n, v, clock⟩ : NE)]).map NE.ent).toArray (clock + 1)) hm
    have e2 : ((cs.map NE.ent).toArray.push { key := .string n, val := .int .i64 v, born := clock }) = ((cs ++ [(⟨n, v, clock⟩ : NE)]).map NE.ent).toArray := by
      apply Array.toList_inj.1
      simp [NE.ent]
    obtain ⟨h5, h6⟩ := hset (cs ++ [(⟨n, v, clock⟩ : NE)]) (clock + 1)
    rw [e, e0]
    refine ⟨_, ?_, h5, h6, by simp⟩
    simp only [Sem.run_bind, run_underlying ht, Result.andThen_ok, h1, h2, h3, e2, h4]
  | some p =>
    obtain ⟨i, x0⟩ := p
    rw [hl] at h3
    simp only [Option.map_some] at h3
    obtain ⟨_, _, c, hc, hck⟩ := lookN_some hl
    simp only [Nat.sub_zero] at hc
    have e : putN cs n v clock = cs.modify i (fun c => { c with c := v }) := put_some v clock hl
    have e0 : putK cs n clock = clock := by simp [putK, hl]
    have h4 := Go.MapKept.run_setObj_map (P := P) (.map ((cs.modify i (fun c => { c with c := v })).map NE.ent).toArray clock) hm
    have hgk : (((cs.map NE.ent).toArray[i]?).map (·.key)).getD (.string n) = .string n := by
      simp [hc, NE.ent, hck]
    have hst : (Instr.keyThatStays (.string n) (.string n)).run P w = .ok (.string n) w := by
      have : Instr.sameBits 10000 (.string n) (.string n) = true := by simp [Instr.sameBits, beq_bytes]
      simp [Instr.keyThatStays, this]
    have e2 : ((cs.map NE.ent).toArray.modify i fun e => { e with key := .string n, val := .int .i64 v }) = ((cs.modify i (fun c => { c with c := v })).map NE.ent).toArray := by
      apply Array.toList_inj.1
      apply List.ext_getElem?
      intro j
      simp only [Array.toList_modify, List.getElem?_modify, List.getElem?_map]
      by_cases hj : i = j
      · subst hj
        simp [hc, NE.ent, hck]
      · simp [hj]
    obtain ⟨h5, h6⟩ := hset (cs.modify i (fun c => { c with c := v })) clock
    rw [e, e0]
    refine ⟨_, ?_, h5, h6, by simp⟩
    simp only [Sem.run_bind, run_underlying ht, Result.andThen_ok, h1, h2, h3, hgk, hst, e2, h4]
theorem run_delN (w : World) (t k e ty : TypeId) (kt : TypeId) (m : Nat) (cs : List NE) (clock : Nat) (n : ByteArray) (ht : P.underlying t = some (.map k e)) (hk : P.underlying k = some .string) (hm : NapAt w m cs clock) :
    ∃ w', (Builtin.delete_ #[t, kt] ty #[.map (some m), .string n]).run P w = .ok (.tuple #[]) w' ∧ NapAt w' m (delN cs n) clock ∧ Kept (fun x => x = m) w w' ∧ w'.heap.size = w.heap.size := by
  have h1 : (getObj m).run P w = .ok (.map (cs.map NE.ent).toArray clock) w := Go.MapKept.run_getObj_map hm
  have h2 : ∀ b, (Instr.checkKey b 10000 k (.string n)).run P w = .ok () w := fun b => by
    unfold Instr.checkKey
    simp [run_underlying hk]
  have h3 := run_findKey (P := P) (w := w) (kt := k) (k := .string n) hk (findNow_lookN n cs 0)
  have hset : ∀ (cs' : List NE) (c' : Nat), NapAt { w with heap := w.heap.setIfInBounds m (.map (cs'.map NE.ent).toArray c') } m cs' c' ∧ Kept (fun x => x = m) w { w with heap := w.heap.setIfInBounds m (.map (cs'.map NE.ent).toArray c') } := fun cs' c' =>
    ⟨(heap_set hm).1, rfl, rfl, rfl, by simp, fun q _ hq => (heap_set hm).2 q hq⟩
  unfold Builtin.delete_
  cases hl : lookN cs n 0 with
  | none =>
    rw [hl] at h3
    simp only [Option.map_none] at h3
    rw [del_none hl]
    have h4 := Go.MapKept.run_setObj_map (P := P) (.map (cs.map NE.ent).toArray clock) hm
    obtain ⟨h5, h6⟩ := hset cs clock
    refine ⟨_, ?_, h5, h6, by simp⟩
    simp [run_underlying ht, h1, h2, h3, h4]
  | some p =>
    obtain ⟨i, x0⟩ := p
    rw [hl] at h3
    simp only [Option.map_some] at h3
    have e : delN cs n = cs.eraseIdx i := del_some hl
    rw [e]
    have h4 := Go.MapKept.run_setObj_map (P := P) (.map ((cs.eraseIdx i).map NE.ent).toArray clock) hm
    have e2 : (cs.map NE.ent).eraseIdx i = (cs.eraseIdx i).map NE.ent := (Go.ChangeMaps.map_eraseIdx NE.ent cs i).symm
    obtain ⟨h5, h6⟩ := hset (cs.eraseIdx i) clock
    refine ⟨_, ?_, h5, h6, by simp⟩
    simp [run_underlying ht, h1, h2, h3, e2, h4]
end
end Go.Proofs.Ythndmmondlpghaa
