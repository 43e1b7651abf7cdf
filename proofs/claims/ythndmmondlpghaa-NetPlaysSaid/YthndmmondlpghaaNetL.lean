/- Layer 13: the frames that a map of texts tells, in order: what a Send, a Take, a Look does to them. Plain lemmas; no program. -/
import Derived.Test.YthndmmondlpghaaNetM
import Derived.Maps.Own
namespace Go.Proofs.Ythndmmondlpghaa
open Go.RowKit Go.MapKept

def bs (x : List UInt8) : ByteArray := ⟨x.toArray⟩
def kb (s : ByteArray) : List UInt8 := s.data.toList
theorem bs_kb (s : ByteArray) : bs (kb s) = s := rfl
theorem kb_bs (x : List UInt8) : kb (bs x) = x := rfl
theorem kb_inj {a b : ByteArray} (h : kb a = kb b) : a = b := by rw [← bs_kb a, h, bs_kb]
def Srt (L : List (List UInt8)) : Prop := L.Pairwise (fun a b => leB a b = true)
theorem le_tr : ∀ a b c : List UInt8, leB a b = true → leB b c = true → leB a c = true := fun a b c h1 h2 => by simp only [leB, decide_eq_true_eq] at *; exact List.le_trans h1 h2
theorem le_to : ∀ a b : List UInt8, (leB a b || leB b a) = true := fun a b => by simp only [leB, Bool.or_eq_true, decide_eq_true_eq]; exact List.le_total a b
theorem le_rf (a : List UInt8) : leB a a = true := by have := le_to a a; rw [Bool.or_self] at this; exact this
theorem srt_sort (L : List (List UInt8)) : Srt (L.mergeSort leB) := List.pairwise_mergeSort le_tr le_to L
theorem srt_eq {a b : List (List UInt8)} (ha : Srt a) (hb : Srt b) (h : ∀ x, a.count x = b.count x) : a = b := by
  refine List.Perm.eq_of_pairwise (le := fun a b => leB a b = true) (fun a b _ _ h1 h2 => ?_) ha hb (List.perm_iff_count.2 h)
  simp only [leB, decide_eq_true_eq] at h1 h2
  exact List.le_antisymm h1 h2
def flatN (n : List UInt8 → Nat) (l : List (List UInt8)) : List (List UInt8) := l.flatMap (fun y => List.replicate (n y) y)
theorem count_flat (n : List UInt8 → Nat) : ∀ {l : List (List UInt8)}, l.Nodup → ∀ x, (flatN n l).count x = if x ∈ l then n x else 0
  | [], _, _ => rfl
  | y :: l, h, x => by
    rw [List.nodup_cons] at h
    have ih := count_flat n h.2 x
    unfold flatN at ih ⊢
    rw [List.flatMap_cons, List.count_append, List.count_replicate, ih]
    by_cases e : y = x
    · subst e
      rw [if_pos (beq_self_eq_true y), if_neg h.1, if_pos (List.mem_cons_self ..)]
      rfl
    · rw [if_neg (by simpa using e)]
      by_cases hx : x ∈ l
      · rw [if_pos hx, if_pos (List.mem_cons_of_mem _ hx), Nat.zero_add]
      · rw [if_neg hx, if_neg (by rw [List.mem_cons, not_or]; exact ⟨fun h => e h.symm, hx⟩)]
theorem srt_flat (n : List UInt8 → Nat) : ∀ {l : List (List UInt8)}, Srt l → Srt (flatN n l)
  | [], _ => List.Pairwise.nil
  | y :: l, h => by
    unfold Srt at h
    rw [List.pairwise_cons] at h
    have ih := srt_flat n h.2
    unfold Srt flatN at *
    rw [List.flatMap_cons, List.pairwise_append]
    refine ⟨List.pairwise_replicate.2 (.inr (le_rf y)), ih, fun a ha b hb => ?_⟩
    obtain ⟨z, hz, hb⟩ := List.mem_flatMap.1 hb
    rw [List.eq_of_mem_replicate ha, List.eq_of_mem_replicate hb]
    exact h.1 z hz
def ksN (cs : List NE) : List (List UInt8) := (cs.map (fun c => kb c.k)).mergeSort leB
def frN (cs : List NE) : List (List UInt8) := flatN (fun x => (cntN cs (bs x)).toNat) (ksN cs)
theorem mem_ks {cs : List NE} {x : List UInt8} : x ∈ ksN cs ↔ bs x ∈ cs.map (·.k) := by
  unfold ksN
  rw [List.mem_mergeSort, List.mem_map, List.mem_map]
  constructor
  · rintro ⟨c, hc, rfl⟩
    exact ⟨c, hc, rfl⟩
  · rintro ⟨c, hc, h⟩
    exact ⟨c, hc, by rw [h]; rfl⟩
theorem ks_nodup {cs : List NE} (h : (cs.map (·.k)).Nodup) : (ksN cs).Nodup := by
  unfold ksN
  rw [(List.mergeSort_perm _ leB).nodup_iff]
  have e : cs.map (fun c => kb c.k) = (cs.map (·.k)).map kb := by rw [List.map_map]; rfl
  rw [e]
  exact List.Pairwise.map kb (fun a b hab h => hab (kb_inj h)) h
theorem cnt_none : ∀ {cs : List NE} {s : ByteArray}, s ∉ cs.map (·.k) → cntN cs s = 0
  | [], _, _ => rfl
  | c :: cs, s, h => by
    rw [List.map_cons, List.mem_cons, not_or] at h
    simp only [cntN, if_neg h.1]
    exact cnt_none h.2
theorem count_fr {cs : List NE} (h : (cs.map (·.k)).Nodup) (x : List UInt8) : (frN cs).count x = (cntN cs (bs x)).toNat := by
  unfold frN
  rw [count_flat _ (ks_nodup h)]
  split
  · rfl
  · rename_i hx
    rw [mem_ks] at hx
    rw [cnt_none hx]
    rfl
theorem srt_fr (cs : List NE) : Srt (frN cs) := srt_flat _ (srt_sort _)
def insL (s : List UInt8) (L : List (List UInt8)) : List (List UInt8) := (s :: L).mergeSort leB
theorem srt_ins (s : List UInt8) (L : List (List UInt8)) : Srt (insL s L) := srt_sort _
theorem count_ins (s : List UInt8) (L : List (List UInt8)) (x : List UInt8) : (insL s L).count x = (s :: L).count x := (List.mergeSort_perm _ leB).count_eq x
theorem ins_len (s : List UInt8) (L : List (List UInt8)) : (insL s L).length = L.length + 1 := (List.mergeSort_perm _ leB).length_eq
theorem cnt_put : ∀ (cs : List NE) (s : ByteArray) (v : Int) (ck : Nat) (t : ByteArray), cntN (putN cs s v ck) t = if t = s then v else cntN cs t
  | [], s, v, ck, t => rfl
  | c :: cs, s, v, ck, t => by
    simp only [putN]
    split
    · rename_i h
      simp only [cntN]
      by_cases e : t = s
      · rw [if_pos (e.trans h), if_pos e]
      · rw [if_neg (fun h2 => e (h2.trans h.symm)), if_neg e, if_neg (fun h2 => e (h2.trans h.symm))]
    · rename_i h
      simp only [cntN]
      rw [cnt_put cs s v ck t]
      by_cases e : t = s
      · rw [if_pos e, if_neg (fun h2 => h (e.symm.trans h2)), if_pos e]
      · rw [if_neg e, if_neg e]
theorem keys_put : ∀ (cs : List NE) (s : ByteArray) (v : Int) (ck : Nat), (putN cs s v ck).map (·.k) = cs.map (·.k) ∨ (s ∉ cs.map (·.k) ∧ (putN cs s v ck).map (·.k) = cs.map (·.k) ++ [s])
  | [], s, v, ck => .inr ⟨by simp, rfl⟩
  | c :: cs, s, v, ck => by
    simp only [putN]
    split
    · exact .inl rfl
    · rename_i h
      rcases keys_put cs s v ck with h1 | ⟨h1, h2⟩
      · exact .inl (by rw [List.map_cons, List.map_cons, h1])
      · refine .inr ⟨by rw [List.map_cons, List.mem_cons, not_or]; exact ⟨h, h1⟩, by rw [List.map_cons, List.map_cons, h2]; rfl⟩
theorem nk_put {cs : List NE} (h : (cs.map (·.k)).Nodup) (s : ByteArray) (v : Int) (ck : Nat) : ((putN cs s v ck).map (·.k)).Nodup := by
  rcases keys_put cs s v ck with h1 | ⟨h1, h2⟩
  · rw [h1]
    exact h
  · rw [h2, List.nodup_append]
    refine ⟨h, by simp, ?_⟩
    rintro a ha b hb rfl
    simp only [List.mem_singleton] at hb
    exact h1 (hb ▸ ha)
theorem mem_put : ∀ {cs : List NE} {s : ByteArray} {v : Int} {ck : Nat} {d : NE}, d ∈ putN cs s v ck → (d ∈ cs ∧ d.k ≠ s) ∨ (d.k = s ∧ d.c = v ∧ (d.born = ck ∨ ∃ e ∈ cs, e.born = d.born)) ∨ d ∈ cs
  | [], s, v, ck, d, h => by
    simp only [putN, List.mem_singleton] at h
    subst h
    exact .inr (.inl ⟨rfl, rfl, .inl rfl⟩)
  | c :: cs, s, v, ck, d, h => by
    simp only [putN] at h
    split at h
    · rename_i he
      rcases List.mem_cons.1 h with rfl | h
      · exact .inr (.inl ⟨he.symm, rfl, .inr ⟨c, List.mem_cons_self .., rfl⟩⟩)
      · exact .inr (.inr (List.mem_cons_of_mem _ h))
    · rcases List.mem_cons.1 h with rfl | h
      · exact .inr (.inr (List.mem_cons_self ..))
      · rcases mem_put h with ⟨h1, h2⟩ | ⟨h1, h2, h3⟩ | h1
        · exact .inl ⟨List.mem_cons_of_mem _ h1, h2⟩
        · exact .inr (.inl ⟨h1, h2, h3.imp_right fun ⟨e, he, h4⟩ => ⟨e, List.mem_cons_of_mem _ he, h4⟩⟩)
        · exact .inr (.inr (List.mem_cons_of_mem _ h1))
theorem born_put : ∀ (cs : List NE) (s : ByteArray) (v : Int) (ck i : Nat), (lookN cs s i).isSome ∧ (putN cs s v ck).map (·.born) = cs.map (·.born) ∨ lookN cs s i = none ∧ (putN cs s v ck).map (·.born) = cs.map (·.born) ++ [ck]
  | [], s, v, ck, i => .inr ⟨rfl, rfl⟩
  | c :: cs, s, v, ck, i => by
    simp only [putN, lookN]
    split
    · exact .inl ⟨rfl, rfl⟩
    · rcases born_put cs s v ck (i + 1) with ⟨h1, h2⟩ | ⟨h1, h2⟩
      · exact .inl ⟨h1, by rw [List.map_cons, List.map_cons, h2]⟩
      · exact .inr ⟨h1, by rw [List.map_cons, List.map_cons, h2]; rfl⟩
theorem cnt_del : ∀ {cs : List NE}, (cs.map (·.k)).Nodup → ∀ (s t : ByteArray), cntN (delN cs s) t = if t = s then 0 else cntN cs t
  | [], _, s, t => by simp [delN, cntN]
  | c :: cs, h, s, t => by
    rw [List.map_cons, List.nodup_cons] at h
    simp only [delN]
    split
    · rename_i he
      simp only [cntN]
      by_cases e : t = s
      · rw [if_pos e, e, he]
        exact cnt_none h.1
      · rw [if_neg e, if_neg (fun h2 => e (h2.trans he.symm))]
    · rename_i he
      simp only [cntN]
      rw [cnt_del h.2 s t]
      by_cases e : t = s
      · rw [if_pos e, if_neg (fun h2 => he (e.symm.trans h2)), if_pos e]
      · rw [if_neg e, if_neg e]
theorem del_sub : ∀ (cs : List NE) (s : ByteArray), (delN cs s).Sublist cs
  | [], _ => List.Sublist.slnil
  | c :: cs, s => by
    simp only [delN]
    split
    · exact List.sublist_cons_self ..
    · exact (del_sub cs s).cons_cons c
theorem count_erase : ∀ {l : List (List UInt8)} {i : Nat} {x : List UInt8}, l[i]? = some x → ∀ y, (x :: l.eraseIdx i).count y = l.count y
  | [], _, _, h, _ => by simp at h
  | z :: l, 0, x, h, y => by
    simp only [List.getElem?_cons_zero, Option.some.injEq] at h
    subst h
    rfl
  | z :: l, i + 1, x, h, y => by
    have ih := count_erase (l := l) (i := i) (x := x) (by simpa using h) y
    rw [List.eraseIdx_cons_succ, List.count_cons, List.count_cons, List.count_cons]
    rw [List.count_cons] at ih
    omega
theorem cnt_mem : ∀ {cs : List NE}, (cs.map (·.k)).Nodup → ∀ {c : NE}, c ∈ cs → cntN cs c.k = c.c
  | [], _, _, h => by cases h
  | d :: cs, hn, c, h => by
    rw [List.map_cons, List.nodup_cons] at hn
    simp only [cntN]
    rcases List.mem_cons.1 h with rfl | h
    · rw [if_pos rfl]
    · rw [if_neg (fun e : c.k = d.k => hn.1 (by rw [← e]; exact List.mem_map.2 ⟨c, h, rfl⟩))]
      exact cnt_mem hn.2 h
structure NetOk (cs : List NE) (ck : Nat) : Prop where
  nk : (cs.map (·.k)).Nodup
  nb : (cs.map (·.born)).Nodup
  bl : ∀ c ∈ cs, c.born < ck
  pos : ∀ c ∈ cs, 0 < c.c
  sz : ∀ c ∈ cs, c.k.size ≤ 1000
  len : (frN cs).length ≤ 64
theorem NetOk.cnt {cs : List NE} {ck : Nat} (h : NetOk cs ck) (s : ByteArray) : 0 ≤ cntN cs s ∧ cntN cs s ≤ 64 := by
  by_cases hs : s ∈ cs.map (·.k)
  · obtain ⟨c, hc, rfl⟩ := List.mem_map.1 hs
    rw [cnt_mem h.nk hc]
    have h1 := h.pos c hc
    have h2 := count_fr h.nk (kb c.k)
    rw [bs_kb, cnt_mem h.nk hc] at h2
    have h3 := List.count_le_length (a := kb c.k) (l := frN cs)
    have := h.len
    omega
  · rw [cnt_none hs]
    omega
theorem flatN_len (n : List UInt8 → Nat) : ∀ {l : List (List UInt8)}, (∀ x ∈ l, 1 ≤ n x) → l.length ≤ (flatN n l).length
  | [], _ => Nat.le_refl _
  | y :: l, h => by
    have ih := flatN_len n (fun x hx => h x (List.mem_cons_of_mem _ hx))
    have h1 := h y (List.mem_cons_self ..)
    unfold flatN at ih ⊢
    rw [List.flatMap_cons, List.length_append, List.length_replicate, List.length_cons]
    omega
theorem NetOk.le64 {cs : List NE} {ck : Nat} (h : NetOk cs ck) : cs.length ≤ 64 ∧ (ksN cs).length = cs.length := by
  have h0 : (ksN cs).length = cs.length := by
    unfold ksN
    rw [(List.mergeSort_perm _ leB).length_eq, List.length_map]
  refine ⟨?_, h0⟩
  have h1 := flatN_len (fun x => (cntN cs (bs x)).toNat) (l := ksN cs) (fun x hx => by
    obtain ⟨c, hc, h2⟩ := List.mem_map.1 (mem_ks.1 hx)
    have h3 := h.pos c hc
    show 1 ≤ (cntN cs (bs x)).toNat
    rw [← h2, cnt_mem h.nk hc]
    omega)
  have := h.len
  unfold frN at this
  omega
theorem netOk_new : NetOk [] 0 := ⟨List.nodup_nil, List.nodup_nil, fun c hc => (by cases hc), fun c hc => (by cases hc), fun c hc => (by cases hc), by simp [frN, flatN, ksN]⟩
theorem fr_new : frN [] = [] := by simp [frN, flatN, ksN]
/-- a Send -/
theorem fr_put {cs : List NE} {ck : Nat} (h : NetOk cs ck) (s : ByteArray) : frN (putN cs s (cntN cs s + 1) ck) = insL (kb s) (frN cs) := by
  refine srt_eq (srt_fr _) (srt_ins _ _) (fun x => ?_)
  rw [count_fr (nk_put h.nk _ _ _), cnt_put, count_ins, List.count_cons, count_fr h.nk]
  have h1 := (h.cnt s).1
  by_cases e : bs x = s
  · rw [if_pos e, if_pos (by rw [← e]; exact beq_self_eq_true _), e]
    omega
  · rw [if_neg e, if_neg (by rw [beq_iff_eq]; exact fun h2 => e (by rw [← h2]; rfl)), Nat.add_zero]
theorem ok_put {cs : List NE} {ck : Nat} (h : NetOk cs ck) {s : ByteArray} (hs : s.size ≤ 1000) (hl : (frN cs).length < 64) : NetOk (putN cs s (cntN cs s + 1) ck) (putK cs s ck) := by
  have h1 := (h.cnt s).1
  have hk : ck ≤ putK cs s ck := by
    unfold putK
    split <;> omega
  refine ⟨nk_put h.nk _ _ _, ?_, fun d hd => ?_, fun d hd => ?_, fun d hd => ?_, by rw [fr_put h, ins_len]; exact hl⟩
  · rcases born_put cs s (cntN cs s + 1) ck 0 with ⟨_, h2⟩ | ⟨_, h2⟩
    · rw [h2]
      exact h.nb
    · rw [h2, List.nodup_append]
      refine ⟨h.nb, by simp, ?_⟩
      rintro a ha b hb rfl
      simp only [List.mem_singleton] at hb
      obtain ⟨c, hc, h3⟩ := List.mem_map.1 ha
      have := h.bl c hc
      omega
  · rcases born_put cs s (cntN cs s + 1) ck 0 with ⟨h3, h2⟩ | ⟨h3, h2⟩
    · have : d.born ∈ cs.map (·.born) := h2 ▸ List.mem_map.2 ⟨d, hd, rfl⟩
      obtain ⟨c, hc, h4⟩ := List.mem_map.1 this
      have := h.bl c hc
      omega
    · have : d.born ∈ cs.map (·.born) ++ [ck] := h2 ▸ List.mem_map.2 ⟨d, hd, rfl⟩
      have e : putK cs s ck = ck + 1 := by simp [putK, h3]
      rw [e]
      rcases List.mem_append.1 this with h4 | h4
      · obtain ⟨c, hc, h5⟩ := List.mem_map.1 h4
        have := h.bl c hc
        omega
      · rw [List.mem_singleton] at h4
        omega
  · rcases mem_put hd with ⟨h2, _⟩ | ⟨_, h2, _⟩ | h2
    · exact h.pos d h2
    · omega
    · exact h.pos d h2
  · rcases mem_put hd with ⟨h2, _⟩ | ⟨h2, _⟩ | h2
    · exact h.sz d h2
    · rw [h2]
      exact hs
    · exact h.sz d h2
/-- a Take -/
theorem fr_take {cs cs' : List NE} {i : Nat} {x : List UInt8} (h : (cs.map (·.k)).Nodup) (h' : (cs'.map (·.k)).Nodup) (hx : (frN cs)[i]? = some x) (hc : ∀ t, cntN cs' t = if t = bs x then cntN cs (bs x) - 1 else cntN cs t) : frN cs' = (frN cs).eraseIdx i := by
  refine srt_eq (srt_fr _) ((srt_fr cs).sublist (List.eraseIdx_sublist _ _)) (fun y => ?_)
  have h1 := count_erase hx y
  rw [List.count_cons, count_fr h] at h1
  rw [count_fr h', hc]
  by_cases e2 : bs y = bs x
  · have e3 : x = y := by rw [← kb_bs x, ← e2, kb_bs]
    subst e3
    rw [if_pos rfl]
    rw [if_pos (beq_self_eq_true x)] at h1
    omega
  · rw [if_neg e2]
    rw [if_neg (by rw [beq_iff_eq]; rintro rfl; exact e2 rfl)] at h1
    omega
/-- how the frame of a rank is found -/
def lookR (L : List (List UInt8)) (i : Int) : Option (List UInt8) := if i < 0 then none else L[i.toNat]?
theorem flat_drop (n : List UInt8 → Nat) {l : List (List UInt8)} {j : Nat} {y : List UInt8} (h : l[j]? = some y) (i : Nat) : (flatN n (l.drop j))[i]? = if i < n y then some y else (flatN n (l.drop (j + 1)))[i - n y]? := by
  obtain ⟨hj, e⟩ := List.getElem?_eq_some_iff.1 h
  rw [List.drop_eq_getElem_cons hj, e]
  unfold flatN
  rw [List.flatMap_cons]
  by_cases hi : i < n y
  · rw [if_pos hi, List.getElem?_append_left (by rw [List.length_replicate]; exact hi), List.getElem?_replicate, if_pos hi]
  · rw [if_neg hi, List.getElem?_append_right (by rw [List.length_replicate]; omega), List.length_replicate]
/-- a net, in the memory: its frames -/
def NetAt (tN : TypeId) (w : World) (nb mb : Nat) (L : List (List UInt8)) : Prop :=
  ∃ cs ck, Blk w nb tN [.map (some mb), .int .i64 (L.length : Int)] ∧ NapAt w mb cs ck ∧ NetOk cs ck ∧ L = frN cs ∧ nb ≠ mb
theorem NetAt.kept {tN : TypeId} {w w' : World} {nb mb : Nat} {L : List (List UInt8)} {T : Nat → Prop} (h : NetAt tN w nb mb L) (hk : Kept T w w') (h1 : ¬ T nb) (h2 : ¬ T mb) : NetAt tN w' nb mb L := by
  obtain ⟨cs, ck, hB, hN, h3⟩ := h
  exact ⟨cs, ck, hB.kept hk h1, hN.kept hk h2, h3⟩
theorem NetAt.lt {tN : TypeId} {w : World} {nb mb : Nat} {L : List (List UInt8)} (h : NetAt tN w nb mb L) : nb < w.heap.size ∧ mb < w.heap.size := by
  obtain ⟨cs, ck, hB, hN, _⟩ := h
  exact ⟨hB.lt, hN.lt⟩
theorem NetAt.srt {tN : TypeId} {w : World} {nb mb : Nat} {L : List (List UInt8)} (h : NetAt tN w nb mb L) : Srt L ∧ L.length ≤ 64 := by
  obtain ⟨cs, ck, _, _, h1, rfl, _⟩ := h
  exact ⟨srt_fr cs, h1.len⟩
/- the kit's words for such a map -/
def anyR : Value → Option (DataW Unit × List MemPlace) := fun _ => some (.nil, [])
theorem net_owns {P : Program} {k : TypeId} (hk : P.underlying k = some .string) {w : World} {mb : Nat} {cs : List NE} {ck : Nat} (hm : NapAt w mb cs ck) (ok : NetOk cs ck) :
    ∃ D0 : DataW Unit, w.ownsMap P k anyR mb cs.length D0 ∧ Maps.size D0 = cs.length ∧ (strKeys D0).Perm (cs.map (fun c => kb c.k)) := by
  have h64 := ok.le64.1
  have hrd : ∀ c ∈ cs, WideElems.rd P k anyR c.ent = some (.string c.k.data.toList, .nil) := fun c hc => by
    have hs : c.k.size ≤ maxLen := Nat.le_trans (ok.sz c hc) (by decide)
    have hkey : keyOf P k c.ent.key = some (.string c.k.data.toList) := by
      simp only [keyOf, hk, mapKey, NE.ent]
      rw [if_pos hs]
    exact WideElems.rd_mk (yv := (.nil, [])) (born := c.born) hkey rfl
  have hF : WideElems.Fit P k anyR (cs.map NE.ent).toArray ck := by
    refine ⟨by simp only [List.size_toArray, List.length_map]; exact Nat.le_trans h64 (by decide), ⟨fun x hx => ?_, ?_, ?_⟩, fun x hx => ?_⟩
    · obtain ⟨c, hc, rfl⟩ := List.mem_map.1 hx
      exact ok.bl c hc
    · show ((cs.map NE.ent).map (·.born)).Nodup
      rw [List.map_map]
      exact ok.nb
    · show ((cs.map NE.ent).map (·.key)).Nodup
      have e : (cs.map NE.ent).map (·.key) = (cs.map (·.k)).map Value.string := by
        rw [List.map_map, List.map_map]
        rfl
      rw [e]
      exact List.Pairwise.map Value.string (fun a b hab h => hab (by injection h)) ok.nk
    · obtain ⟨c, hc, rfl⟩ := List.mem_map.1 hx
      exact ⟨_, hrd c hc⟩
  refine ⟨_, ⟨_, ck, hm, hF, by simp, rfl⟩, ?_, ?_⟩
  · simp [Maps.size, Go.length_sorted]
  · show (List.map _ _).Perm _
    refine ((WideShapes.sorted_perm _).map _).trans ?_
    have e : (List.map (WideElems.rg P k anyR) (cs.map NE.ent).toArray.toList).map (fun p => strOf p.1) = cs.map (fun c => kb c.k) := by
      rw [List.map_map, List.map_map]
      refine List.map_congr_left (fun c hc => ?_)
      show strOf (WideElems.rg P k anyR c.ent).1 = _
      rw [WideElems.rg_of (hrd c hc)]
      rfl
    rw [e]
end Go.Proofs.Ythndmmondlpghaa
