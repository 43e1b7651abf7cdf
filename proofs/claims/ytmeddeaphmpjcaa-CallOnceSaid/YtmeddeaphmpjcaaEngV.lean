/- The executor: a scope with a label that is jumped back to; texts as lists of numbers; copies and conversions at an offset. Plain lemmas; no program. -/
import Derived.Test.YtmeddeaphmpjcaaEngU
import Derived.ScopeJumps
namespace Go.Proofs.Ytmeddeaphmpjcaa
open Go.RowKit

section
variable {D : List Deferred} {P : Program} {body : Code} {n : Nat} {w0 : World} {S : Nat → Prop} {Q : Exit → Act → World → Prop}
theorem holds_label {p : List Nat} {k : List KI} {st : St} {l : Nat} (hc : getCode body p = .label l) (h : Holds D P body n w0 S Q k st) : Holds D P body n w0 S Q (.code p :: k) st := by
  intro a w hf hm
  simp only [sem, hc]
  exact wp_label (h a w hf hm)
theorem sem_goto {l : Nat} {a : Act} {w : World} (h : Q (.goto l) a w) : ∀ (k : List KI), sem P body Q k (.goto l) a w := by
  intro k
  induction k with
  | nil => exact h
  | cons x k ih => cases x <;> exact ih
theorem holds_goto {p : List Nat} {k : List KI} {st : St} {l : Nat} {J : Act → World → Prop} (hc : getCode body p = .goto l) (h : ∀ a w, FrOk D n st.sl a → MemOk w0 S st.bk st.wn st.sz w → J a w) :
    Holds D P body n w0 S (Exit.jump l J Q) (.code p :: k) st := by
  intro a w hf hm
  simp only [sem, hc]
  exact wp_goto (sem_goto (Q := Exit.jump l J Q) ⟨rfl, h a w hf hm⟩ k)
/-- a return within a scope -/
theorem holds_retJ {fn : Func} {R : Ending → World → Prop} {body' : Code} {p : List Nat} {k k' : List KI} {st : St} {vs : List Value} {rs : List (Nat × Nat × Nat)} {l : Nat} {J : Act → World → Prop} (hs : List (List MH))
    (hc : getCode body p = .ret) (h : resL P st.wn st.bk st.sl fn.results.toList hs = some (vs, dupR rs)) (hR : ∀ w, MemOk w0 S st.bk st.wn st.sz w → R (.returned (oneOf vs)) w) :
    Holds [] P body n w0 S (Exit.jump l J (sem P body' (bodyPost P fn R) k')) (.code p :: k) st := by
  intro a w hf hm
  simp only [sem, hc]
  refine wp_ret (sem_ret ?_ k)
  show sem P body' (bodyPost P fn R) k' .ret a w
  exact sem_ret ⟨hf.df, _, results_of hf hm h, hR w hm⟩ k'
/-- a return ahead of any range, in a function that has one -/
theorem holds_retM0 {m : Nat} {fn : Func} {R : Ending → World → Prop} {p : List Nat} {k : List KI} {st : St} {vs : List Value} {rs : List (Nat × Nat × Nat)} (hs : List (List MH))
    (hc : getCode body p = .ret) (h : resL P st.wn st.bk st.sl fn.results.toList hs = some (vs, dupR rs)) (hR : ∀ w, MemOk w0 S st.bk st.wn st.sz w → R (.returned (oneOf vs)) w) :
    Holds [] P body n w0 S (bodyPostM Fence.wide m P fn R) (.code p :: k) st := by
  intro a w hf hm
  simp only [sem, hc]
  refine wp_ret (sem_ret ?_ k)
  simp only [bodyPostM, hf.df]
  exact ⟨_, results_of hf hm h, hR w hm⟩
/- as 'bodyPostM', and no panic at all -/
def noPanic (Q : Exit → Act → World → Prop) : Exit → Act → World → Prop
  | .panic _, _, _ => False
  | e, a, w => Q e a w
theorem panicOk_no : PanicOk (noPanic Q) := fun _ _ _ _ _ h => h
theorem holds_retN0 {m : Nat} {fn : Func} {R : Ending → World → Prop} {p : List Nat} {k : List KI} {st : St} {vs : List Value} {rs : List (Nat × Nat × Nat)} (hs : List (List MH))
    (hc : getCode body p = .ret) (h : resL P st.wn st.bk st.sl fn.results.toList hs = some (vs, dupR rs)) (hR : ∀ w, MemOk w0 S st.bk st.wn st.sz w → R (.returned (oneOf vs)) w) :
    Holds [] P body n w0 S (noPanic (bodyPostM Fence.wide m P fn R)) (.code p :: k) st := by
  intro a w hf hm
  simp only [sem, hc]
  refine wp_ret (sem_ret (Q := noPanic _) ?_ k)
  show bodyPostM Fence.wide m P fn R .ret a w
  simp only [bodyPostM, hf.df]
  exact ⟨_, results_of hf hm h, hR w hm⟩
theorem holds_retN {m : Nat} {fn : Func} {R : Ending → World → Prop} {p : List Nat} {k : List KI} {sl : List (Nat × Value)} {bk : List Bk} {sz : Nat} {vs : List Value} {rs : List (Nat × Nat × Nat)} {D : Nat} (hs : List (List MH))
    (hlt : D < w0.heap.size) (hD : w0.heap[D]? = some (.deferred (some []))) (hS : ¬ S D)
    (hc : getCode body p = .ret) (h : resL P [] bk sl fn.results.toList hs = some (vs, dupR rs)) (hR : ∀ w, MemOk w0 (fun x => S x ∨ x = D) bk [] sz w → R (.returned (oneOf vs)) w) :
    Holds (markD D) P body n w0 S (noPanic (bodyPostM Fence.wide m P fn R)) (.code p :: k) ⟨sl, bk, [], sz⟩ := by
  intro a w hf hm
  simp only [sem, hc]
  refine wp_ret (sem_ret (Q := noPanic _) ?_ k)
  show bodyPostM Fence.wide m P fn R .ret a w
  exact leavesM hs h hR hf hm ((hm.kept.block D hlt hS).trans hD)
theorem calls_of_holdsN {m : Nat} {fid : FuncId} {fn : Func} {l : List Value} {w : World} {R : Ending → World → Prop} {S : Nat → Prop} {bk : List Bk} {wn : List Wn}
    (hf : P.funcs[fid]? = some fn) (hb : fn.body = some body) (hn : fn.ntmps = n) (hl : l.length ≤ n) (hm : MemOk w S bk wn w.heap.size w)
    (h : Holds [] P body n w S (noPanic (bodyPostM Fence.wide m P fn R)) [.code []] ⟨enumS 0 l, bk, wn, w.heap.size⟩) : Calls P fid l.toArray w R := by
  refine calls_of_holdsM (m := m) hf hb hn hl hm (fun a w hf' hm' => ?_)
  have h1 := h a w hf' hm'
  simp only [sem] at h1 ⊢
  refine wp_mono h1 fun e a w h2 => ?_
  cases e with
  | panic c => exact h2.elim
  | _ => exact h2
theorem holds_bk {D : List Deferred} {k : List KI} {sl : List (Nat × Value)} {bk : List Bk} {wn : List Wn} {sz : Nat} (bk' : List Bk) (h : bk = bk') (hh : Holds D P body n w0 S Q k ⟨sl, bk', wn, sz⟩) : Holds D P body n w0 S Q k ⟨sl, bk, wn, sz⟩ := h ▸ hh
theorem holds_fact {D : List Deferred} {k : List KI} {st : St} {p : Prop} (h : ∀ w, MemOk w0 S st.bk st.wn st.sz w → p) (hh : p → Holds D P body n w0 S Q k st) : Holds D P body n w0 S Q k st := fun a w hf hm => hh (h w hm) a w hf hm
theorem holds_scope {p : List Nat} {k : List KI} {st : St} {c rest : Code} {l : Nat} (hc : getCode body p = .scope c) (hl : findLabel c l = some rest) (I : Nat → St → Prop)
    (first : ∀ J : Act → World → Prop, (∀ m st', I m st' → ∀ a w, FrOk D n st'.sl a → MemOk w0 S st'.bk st'.wn st'.sz w → J a w) → Holds D P c n w0 S (Exit.jump l J (sem P body Q k)) [.code []] st)
    (pass : ∀ m st', I m st' → ∀ J : Act → World → Prop, (∀ m' st'', m' < m → I m' st'' → ∀ a w, FrOk D n st''.sl a → MemOk w0 S st''.bk st''.wn st''.sz w → J a w) → Holds D P rest n w0 S (Exit.jump l J (sem P body Q k)) [.code []] st') :
    Holds D P body n w0 S Q (.code p :: k) st := by
  intro a w hf hm
  simp only [sem, hc]
  have hg : ∀ c : Code, getCode c [] = c := fun c => by cases c <;> rfl
  let I' : Nat → Act → World → Prop := fun m a w => ∃ st', I m st' ∧ FrOk D n st'.sl a ∧ MemOk w0 S st'.bk st'.wn st'.sz w
  refine wp_scope_jumps l (fun a w => ∃ m, I' m a w) (fun a w => leastOf (fun m => I' m a w)) hl ?_ ?_
  · have h1 := first (fun a w => ∃ m, I' m a w) (fun m st' hI a w h2 h3 => ⟨m, st', hI, h2, h3⟩) a w hf hm
    simp only [sem, hg] at h1
    refine wp_mono h1 fun e a w h2 => ?_
    cases e <;> exact h2
  · intro a w hJ
    obtain ⟨h0, hmin⟩ := leastOf_spec hJ
    obtain ⟨st', hI, hf', hm'⟩ := h0
    have h1 := pass _ st' hI (fun a' w' => (∃ m, I' m a' w') ∧ leastOf (fun m => I' m a' w') < leastOf (fun m => I' m a w))
      (fun m' st'' hlt hI'' a' w' h2 h3 => ⟨⟨m', st'', hI'', h2, h3⟩, Nat.lt_of_le_of_lt ((leastOf_spec ⟨m', st'', hI'', h2, h3⟩).2 m' ⟨st'', hI'', h2, h3⟩) hlt⟩) a w hf' hm'
    simp only [sem, hg] at h1
    refine wp_mono h1 fun e a w h2 => ?_
    cases e <;> exact h2
end

theorem le_max64 {a : Int} (h : a ≤ 9223372036854775807) : a ≤ IntKind.max .i64 := by
  have : IntKind.max .i64 = 9223372036854775807 := by decide
  omega
theorem bits_ob64 {a b : Int} (h1 : 0 ≤ a ∧ a ≤ 9223372036854775807) (h2 : 0 ≤ b ∧ b ≤ 9223372036854775807) : (0 : Int) ≤ a ∧ (0 : Int) ≤ b ∧ a ≤ IntKind.max .i64 ∧ b ≤ IntKind.max .i64 := by
  have : IntKind.max .i64 = 9223372036854775807 := by decide
  omega
theorem bits_ob8 {a b : Int} (h1 : 0 ≤ a ∧ a ≤ 255) (h2 : 0 ≤ b ∧ b ≤ 255) : (0 : Int) ≤ a ∧ (0 : Int) ≤ b ∧ a ≤ IntKind.max .u8 ∧ b ≤ IntKind.max .u8 := by
  have : IntKind.max .u8 = 255 := by decide
  omega
/- texts as lists of numbers -/
def u8s (l : List Int) : List UInt8 := l.map fun n => UInt8.ofNat n.toNat
def bytesI (l : List Int) : ByteArray := ⟨(u8s l).toArray⟩
def Byts (l : List Int) : Prop := ∀ n ∈ l, 0 ≤ n ∧ n ≤ 255
def intsV (l : List Int) : List Value := l.map fun n => .int .u8 n
theorem toNat_u8 {n : Int} (h : 0 ≤ n ∧ n ≤ 255) : ((UInt8.ofNat n.toNat).toNat : Int) = n := by
  rw [UInt8.toNat_ofNat_of_lt' (by show n.toNat < 256; omega)]
  omega
theorem bytesV_u8s {l : List Int} (h : Byts l) : bytesV (u8s l) = intsV l := by
  simp only [bytesV, u8s, intsV, List.map_map]
  refine List.map_congr_left fun n hn => ?_
  simp only [Function.comp, toNat_u8 (h n hn)]
theorem Byts.append {l r : List Int} (h : Byts l) (h' : Byts r) : Byts (l ++ r) := fun n hn => (List.mem_append.1 hn).elim (h n) (h' n)
theorem bytesI_append (l r : List Int) : bytesI l ++ bytesI r = bytesI (l ++ r) := by
  apply ByteArray.ext
  simp [bytesI, u8s]
theorem size_bytesI (l : List Int) : (bytesI l).size = l.length := by
  show (u8s l).toArray.size = _
  simp [u8s]
/-- a text's bytes as numbers -/
def intsOf (s : ByteArray) : List Int := s.data.toList.map fun b => (b.toNat : Int)
theorem length_intsOf (s : ByteArray) : (intsOf s).length = s.size := by simp [intsOf]
theorem byts_intsOf (s : ByteArray) : Byts (intsOf s) := by
  intro n hn
  obtain ⟨b, _, rfl⟩ := List.mem_map.1 hn
  have := b.toNat_lt
  omega
theorem u8s_intsOf (s : ByteArray) : u8s (intsOf s) = s.data.toList := by
  simp only [u8s, intsOf, List.map_map]
  refine (List.map_congr_left fun b _ => ?_).trans (List.map_id _)
  simp
theorem bytesI_intsOf (s : ByteArray) : bytesI (intsOf s) = s := by
  simp [bytesI, u8s_intsOf]
theorem intsOf_bytesI {l : List Int} (h : Byts l) : intsOf (bytesI l) = l := by
  have e : (bytesI l).data.toList = u8s l := by simp [bytesI]
  simp only [intsOf, e, u8s, List.map_map]
  refine (List.map_congr_left fun n hn => ?_).trans (List.map_id _)
  exact toNat_u8 (h n hn)
theorem byteAt_eq (s : ByteArray) (i : Nat) : byteAt s i = (intsOf s)[i]?.getD 0 := by
  simp only [byteAt, intsOf, List.getElem?_map, Array.getElem?_toList]
  cases s.data[i]? <;> rfl
theorem byteAt_bytesI {l : List Int} (h : Byts l) (i : Nat) : byteAt (bytesI l) i = l[i]?.getD 0 := by rw [byteAt_eq, intsOf_bytesI h]
theorem byteAt_bd (s : ByteArray) (i : Nat) : 0 ≤ byteAt s i ∧ byteAt s i ≤ 255 := by
  unfold byteAt
  have := (s.data[i]?.getD 0).toNat_lt
  omega
theorem intsV_take (l : List Int) (n : Nat) : (intsV l).take n = intsV (l.take n) := by simp [intsV, List.map_take]
/-- a text of a known length, byte by byte -/
theorem intsOf_size {s : ByteArray} {n : Nat} (h : s.size = n) : intsOf s = (List.range n).map (byteAt s) := by
  subst h
  apply List.ext_getElem?
  intro i
  rw [List.getElem?_map]
  by_cases hi : i < s.size
  · rw [List.getElem?_range hi, Option.map_some, byteAt_eq]
    have hl : i < (intsOf s).length := by rw [length_intsOf]; exact hi
    rw [List.getElem?_eq_getElem hl, Option.getD_some]
  · rw [List.getElem?_eq_none (by rw [length_intsOf]; omega), List.getElem?_eq_none (by simp; omega), Option.map_none]

theorem map_byteAt_none {s : ByteArray} (h : s.size = 0) (n : Nat) : (List.range n).map (byteAt s) = List.replicate n 0 := by
  have e : ∀ k, byteAt s k = 0 := fun k => by
    unfold byteAt
    rw [Array.getElem?_eq_none (by show s.size ≤ k; omega)]
    rfl
  rw [show byteAt s = fun _ => 0 from funext e, List.map_const', List.length_range]
theorem copy_fill {s : ByteArray} {n : Nat} (hs : s.size = 0 ∨ s.size = n) (pre post : List Value) :
    (pre ++ List.replicate n (Value.int .u8 0) ++ post).take pre.length ++ intsV (intsOf s) ++ (pre ++ List.replicate n (Value.int .u8 0) ++ post).drop (pre.length + s.size) = pre ++ intsV ((List.range n).map (byteAt s)) ++ post := by
  have e1 : (pre ++ List.replicate n (Value.int .u8 0) ++ post) = pre ++ (List.replicate n (Value.int .u8 0) ++ post) := List.append_assoc ..
  rw [e1, List.take_left, List.append_assoc, List.append_assoc]
  congr 1
  rcases hs with h | h
  · have e : intsOf s = [] := List.eq_nil_of_length_eq_zero (by rw [length_intsOf, h])
    rw [map_byteAt_none h, e, h, Nat.add_zero, List.drop_left]
    simp [intsV]
  · rw [intsOf_size h, h]
    congr 1
    have : List.drop (pre.length + n) (pre ++ (List.replicate n (Value.int .u8 0) ++ post)) = post := by
      rw [← List.append_assoc, List.drop_left' (by simp)]
    exact this
section
variable {P : Program}
theorem run_copyStrAt (w : World) (dT sT ty e : TypeId) (g o L cap : Nat) (t : TypeId) (s : ByteArray) (cs : List Value) (hu : P.underlying dT = some (.slice e)) (hs : (P.info? e).map (·.size) = some 1) (hB : Blk w g t cs) (hL : o + L ≤ cs.length) (hz : s.size ≤ L) :
    (Builtin.copy_ #[dT, sT] ty #[.slice (some ⟨g, o, none⟩) L cap, .string s]).run P w = .ok (.int .i64 (s.size : Int)) (w.setRow g (cs.take o ++ intsV (intsOf s) ++ cs.drop (o + s.size)).toArray) := by
  obtain ⟨inf, hi, hz1⟩ := Option.map_eq_some_iff.1 hs
  have hiv : intsV (intsOf s) = bytesV s.data.toList := by simp [intsV, intsOf, bytesV]
  have hlen : (bytesV s.data.toList).length = s.size := by simp [bytesV]
  have h1 := run_storeCells_at P g o t (bytesV s.data.toList) 0 cs.toArray w hB (by rw [hlen]; simp; omega) (bytesV_one _)
  have e1 : List.take s.size (s.data.toList.map fun b => (Value.int .u8 (b.toNat : Int))) = bytesV s.data.toList := by
    simp only [bytesV]
    exact List.take_of_length_le (by simp)
  have hm : s.size.min L = s.size := Nat.min_eq_left hz
  simp only [Nat.add_zero, hlen] at h1
  simp only [Builtin.copy_]
  simp [run_underlying hu, Builtin.lenOf, Builtin.firstCells, sizeOf, typeInfo, hi, hm]
  rw [e1, h1]
  simp [goInt, hiv]
theorem run_bytesAt (w : World) (src dst e : TypeId) (g o L cap : Nat) (t : TypeId) (l r : List Int) (pre : List Value) (hs : P.underlying src = some (.slice e)) (he : P.underlying e = some (.int .u8)) (hd : P.underlying dst = some .string)
    (hB : Blk w g t (pre ++ intsV l ++ intsV r)) (ho : pre.length = o) (hL : l.length = L) (hb : Byts l) :
    (convert src dst (.slice (some ⟨g, o, none⟩) L cap)).run P w = .ok (.string (bytesI l)) w := by
  subst ho hL
  have hl : (u8s l).length = l.length := by simp [u8s]
  have h1 := run_convert_bytes_back (P := P) w src dst e ⟨g, pre.length, none⟩ cap (u8s l) hs he hd (fun j hj => by
    have : (⟨g, pre.length, none⟩ : Addr).add j = ⟨g, pre.length + j, none⟩ := add_norm _ _ _
    rw [this]
    refine (hB.cell _).trans ?_
    have h2 : j < (intsV l).length := by simpa [intsV, u8s] using hj
    rw [List.append_assoc, List.getElem?_append_right (by omega), Nat.add_sub_cancel_left, List.getElem?_append_left h2, ← bytesV_u8s hb]
    simp [bytesV, hj])
  rw [hl] at h1
  exact h1
end
end Go.Proofs.Ytmeddeaphmpjcaa
