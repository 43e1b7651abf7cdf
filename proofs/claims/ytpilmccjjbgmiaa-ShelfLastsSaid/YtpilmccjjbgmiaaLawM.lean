/- Laws over arrays and lists in the memory, at a place that is reckoned. Plain lemmas; no program. -/
import Derived.Test.YtpilmccjjbgmiaaPlatG
import Derived.Test.YtpilmccjjbgmiaaRaw8
import Derived.Test.YtpilmccjjbgmiaaRuleM
namespace Go.Proofs.Ytpilmccjjbgmiaa
open Go.RowKit Go.MapKept

theorem vflat_len {z : Nat} : ∀ {rs : List (List Value)}, (∀ r ∈ rs, r.length = z) → rs.flatten.length = rs.length * z
  | [], _ => by simp
  | L :: l, h => by
    rw [List.flatten_cons, List.length_append, vflat_len (fun x hx => h x (by simp [hx])), h L (by simp), List.length_cons, Nat.succ_mul]
    omega
theorem vflat_get {z : Nat} : ∀ {rs : List (List Value)} (k j : Nat), (∀ r ∈ rs, r.length = z) → j < z → rs.flatten[k * z + j]? = rs[k]?.bind (·[j]?)
  | [], k, j, _, _ => by simp
  | L :: l, 0, j, h, hj => by
    rw [List.flatten_cons, Nat.zero_mul, Nat.zero_add, List.getElem?_append_left (by rw [h L (by simp)]; exact hj)]
    rfl
  | L :: l, k + 1, j, h, hj => by
    have hL := h L (by simp)
    rw [List.flatten_cons, Nat.succ_mul, List.getElem?_append_right (by omega), hL, show k * z + z + j - z = k * z + j by omega]
    exact vflat_get k j (fun x hx => h x (by simp [hx])) hj
theorem vflat_set {z : Nat} : ∀ {rs : List (List Value)} (k : Nat) (L : List Value), (∀ r ∈ rs, r.length = z) → k < rs.length → rs.flatten.take (k * z) ++ L ++ rs.flatten.drop (k * z + z) = (rs.set k L).flatten
  | [], _, _, _, h => by simp at h
  | X :: l, 0, L, h, _ => by
    have hX := h X (by simp)
    rw [List.flatten_cons, Nat.zero_mul, Nat.zero_add, List.take_zero, List.nil_append, ← hX, List.drop_left, List.set_cons_zero, List.flatten_cons]
  | X :: l, k + 1, L, h, hk => by
    have hX := h X (by simp)
    have h1 := vflat_set (rs := l) k L (fun x hx => h x (by simp [hx])) (by simpa using hk)
    rw [List.flatten_cons, List.set_cons_succ, List.flatten_cons, ← h1, show (k + 1) * z = X.length + k * z by rw [Nat.succ_mul]; omega, List.take_length_add_append, show X.length + k * z + z = X.length + (k * z + z) by omega, List.drop_length_add_append]
    simp
def aggB (P : Program) (t : TypeId) : Bool := match P.underlying t with
  | some (.struct _) => true
  | some (.array _ _) => true
  | _ => false
def oneB (P : Program) (t : TypeId) : Bool := match P.underlying t with
  | some (.struct _) => false
  | some (.array _ _) => false
  | some _ => true
  | none => false
section
variable {P : Program}
theorem run_isAgg (w : World) (t : TypeId) (h : aggB P t = true) : (isAgg t).run P w = .ok true w := by
  unfold aggB at h
  split at h
  · rename_i hu
    simp [isAgg, run_underlying hu]
  · rename_i hu
    simp [isAgg, run_underlying hu]
  · cases h
theorem run_isOne (w : World) (t : TypeId) (h : oneB P t = true) : (isAgg t).run P w = .ok false w := by
  unfold oneB at h
  split at h
  · cases h
  · cases h
  · rename_i d h1 h2 hu
    simp only [isAgg, Sem.run_bind, run_underlying hu, Result.andThen_ok]
    rfl
  · cases h
theorem run_loadAgg (w : World) (t : TypeId) (g o : Nat) (tt : TypeId) (cs vs : List Value) (ha : aggB P t = true) (hs : (P.info? t).map (·.size) = some vs.length) (hB : Blk w g tt cs) (hv : ∀ j v, vs[j]? = some v → cs[o + j]? = some v) :
    (Instr.loadAt t (.pointer (some ⟨g, o, none⟩))).run P w = .ok (.agg vs.toArray) w := by
  obtain ⟨inf, hi, hz⟩ := Option.map_eq_some_iff.1 hs
  have h1 := run_loadCells_list (P := P) (w := w) ⟨g, o, none⟩ vs (fun j v hj => by
    rw [add_norm]
    exact (hB.cell _).trans (hv j v hj))
  simp [Instr.loadAt, Instr.sureAddr, loadVar, run_isAgg w t ha, sizeOf, typeInfo, hi, hz, h1]
theorem run_loadV (w : World) (t : TypeId) (g o : Nat) (tt : TypeId) (cs : List Value) (v : Value) (ha : oneB P t = true) (hB : Blk w g tt cs) (hv : cs[o]? = some v) :
    (Instr.loadAt t (.pointer (some ⟨g, o, none⟩))).run P w = .ok v w := by
  have h1 : w.cell? ⟨g, o, none⟩ = some v := (hB.cell o).trans hv
  simp [Instr.loadAt, Instr.sureAddr, loadVar, run_isOne w t ha, h1]
theorem load_rowA {w0 wx : World} {S : Nat → Prop} {bk : List Bk} {wn : List Wn} {sz i g k z : Nat} {t tt : TypeId} {b : Bool} {rs : List (List Value)} {x : List Value} (hm : MemOk w0 S bk wn sz wx) (hi : bk[i]? = some ⟨g, tt, b, rs.flatten⟩) (hz : ∀ r ∈ rs, r.length = z) (hk : rs[k]? = some x) (ha : aggB P t = true) (hs : (P.info? t).map (·.size) = some z) :
    (Instr.loadAt t (.pointer (some ⟨g, 0 + k * z, none⟩))).run P wx = .ok (.agg x.toArray) wx := by
  have hx := hz x (List.mem_of_getElem? hk)
  refine run_loadAgg wx t g (0 + k * z) tt rs.flatten x ha (by rw [hs, hx]) (hm.at_ i hi) (fun j v hj => ?_)
  have hj2 : j < z := by rw [← hx]; exact (List.getElem?_eq_some_iff.1 hj).1
  rw [Nat.zero_add, vflat_get k j hz hj2, hk]
  exact hj
theorem store_rowA {w0 wx : World} {S : Nat → Prop} {bk : List Bk} {wn : List Wn} {sz i g k z : Nat} {t tt : TypeId} {rs : List (List Value)} {v : Value} (hm : MemOk w0 S bk wn sz wx) (hi : bk[i]? = some ⟨g, tt, true, rs.flatten⟩) (hz : ∀ r ∈ rs, r.length = z) (hk : k < rs.length) (hv : v.cells.size = z) (hone : ∀ u ∈ v.cells.toList, u.oneCell' = true) (hs : (P.info? t).map (·.size) = some z) :
    ∃ w', (Instr.storeAt t (.pointer (some ⟨g, 0 + k * z, none⟩)) v).run P wx = .ok () w' ∧ sz ≤ w'.heap.size ∧ MemOk w0 S (bk.set i ⟨g, tt, true, (rs.set k v.cells.toList).flatten⟩) wn w'.heap.size w' := by
  have hB : Blk wx g tt rs.flatten := hm.at_ i hi
  have hlen := vflat_len hz
  have hle : (k + 1) * z ≤ rs.length * z := Nat.mul_le_mul_right z hk
  rw [Nat.succ_mul] at hle
  have h1 := run_storeG (P := P) wx t g (0 + k * z) tt rs.flatten v (by rw [hs, hv]) hB (by rw [hv, hlen]; omega) hone
  rw [hv, Nat.zero_add, vflat_set k v.cells.toList hz hk] at h1
  rw [Nat.zero_add]
  have h2 := hm.set1 i hi rfl (setRow_kept wx g _) (setRow_blk hB (rs.set k v.cells.toList).flatten)
  exact ⟨_, h1, h2⟩
end
def rowsR (now : List RecM) : List Value := (now.map RecM.cells).flatten
def getR (now : List RecM) (k : Nat) : RecM := now[k]?.getD (blankR 0)
theorem rowsR_len (now : List RecM) : ∀ r ∈ now.map RecM.cells, r.length = 10 := by
  intro r hr
  obtain ⟨x, _, rfl⟩ := List.mem_map.1 hr
  rfl
theorem rec_one (r : RecM) : ∀ u ∈ (Value.agg r.cells.toArray).cells.toList, u.oneCell' = true := by
  intro u hu
  simp only [Value.cells, RecM.cells, List.mem_cons, List.not_mem_nil, or_false] at hu
  rcases hu with rfl | rfl | rfl | rfl | rfl | rfl | rfl | rfl | rfl | rfl <;> rfl
theorem store_rec {P : Program} {w0 wx : World} {S : Nat → Prop} {bk : List Bk} {wn : List Wn} {sz i g k : Nat} {t tt : TypeId} {now : List RecM} {r : RecM} (hm : MemOk w0 S bk wn sz wx) (hi : bk[i]? = some ⟨g, tt, true, rowsR now⟩) (hk : k < now.length) (hs : (P.info? t).map (·.size) = some 10) :
    ∃ w', (Instr.storeAt t (.pointer (some ⟨g, 0 + k * 10, none⟩)) (.agg r.cells.toArray)).run P wx = .ok () w' ∧ sz ≤ w'.heap.size ∧ MemOk w0 S (bk.set i ⟨g, tt, true, rowsR (now.set k r)⟩) wn w'.heap.size w' := by
  have h := store_rowA (P := P) (v := .agg r.cells.toArray) hm hi (rowsR_len now) (by simpa using hk) rfl (rec_one r) hs
  have e : ((now.map RecM.cells).set k (Value.agg r.cells.toArray).cells.toList).flatten = rowsR (now.set k r) := by
    unfold rowsR
    rw [List.map_set]
    rfl
  rw [e] at h
  exact h
theorem load_rec {P : Program} {w0 wx : World} {S : Nat → Prop} {bk : List Bk} {wn : List Wn} {sz i g k : Nat} {t tt : TypeId} {b : Bool} {now : List RecM} {r : RecM} (hm : MemOk w0 S bk wn sz wx) (hi : bk[i]? = some ⟨g, tt, b, rowsR now⟩) (hk : now[k]? = some r) (ha : aggB P t = true) (hs : (P.info? t).map (·.size) = some 10) :
    (Instr.loadAt t (.pointer (some ⟨g, 0 + k * 10, none⟩))).run P wx = .ok (.agg r.cells.toArray) wx :=
  load_rowA hm hi (rowsR_len now) (by simp [hk]) ha hs
theorem rows_win {w : World} {g tt : Nat} {now : List RecM} {k : Nat} (hB : Blk w g tt (rowsR now)) (hk : k < now.length) : ∀ j v, (getR now k).cells[j]? = some v → w.cell? ⟨g, 0 + k * 10 + j, none⟩ = some v := by
  intro j v hj
  have hj2 : j < 10 := (List.getElem?_eq_some_iff.1 hj).1
  refine (hB.cell _).trans ?_
  unfold rowsR
  rw [Nat.zero_add, vflat_get k j (rowsR_len now) hj2, List.getElem?_map, List.getElem?_eq_getElem hk]
  simpa [getR, List.getElem?_eq_getElem hk] using hj
/-- the world at hand becomes the ground; blocks that change no more -/
def froze : List Bool → List Bk → List Bk
  | f :: fs, b :: bs => { b with rw := b.rw && f } :: froze fs bs
  | _, _ => []
theorem froze_mem : ∀ (fs : List Bool) (bs : List Bk) {b : Bk}, b ∈ froze fs bs → ∃ c ∈ bs, c.g = b.g ∧ c.t = b.t ∧ c.cs = b.cs ∧ (b.rw = true → c.rw = true)
  | [], _, _, h => by simp [froze] at h
  | _ :: _, [], _, h => by simp [froze] at h
  | f :: fs, c :: bs, b, h => by
    simp only [froze, List.mem_cons] at h
    rcases h with rfl | h
    · exact ⟨c, by simp, rfl, rfl, rfl, fun h => by simp at h; exact h.1⟩
    · obtain ⟨d, hd, h1⟩ := froze_mem fs bs h
      exact ⟨d, by simp [hd], h1⟩
theorem froze_g : ∀ (fs : List Bool) (bs : List Bk), ((froze fs bs).map (·.g)).Sublist (bs.map (·.g))
  | [], _ => by simp [froze]
  | _ :: _, [] => by simp [froze]
  | f :: fs, c :: bs => by
    simp only [froze, List.map_cons]
    exact (froze_g fs bs).cons_cons _
theorem MemOk.froze {w0 w : World} {S : Nat → Prop} {bk : List Bk} {wn : List Wn} {sz : Nat} (fs : List Bool) (h : MemOk w0 S bk wn sz w) : MemOk w0 S (froze fs bk) [] sz w :=
  ⟨h.size, fun b hb => by
    obtain ⟨c, hc, h1, h2, h3, _⟩ := froze_mem fs bk hb
    have := h.blk c hc
    rw [h1, h2, h3] at this
    exact this, fun b hb hr => by
    obtain ⟨c, hc, h1, _, _, h4⟩ := froze_mem fs bk hb
    have := h.own c hc (h4 hr)
    rw [h1] at this
    exact this, h.nd.sublist (froze_g fs bk), h.kept, fun x hx => by cases hx⟩
theorem holds_ground {D : List Deferred} {P : Program} {n : Nat} {w0 : World} {S : Nat → Prop} {body : Code} {Q : Exit → Act → World → Prop} {k : List KI} {st : St} {bk' : List Bk} (fs : List Bool) (hb : froze fs st.bk = bk')
    (h : ∀ W, MemOk w0 S st.bk st.wn st.sz W → MemOk w0 S bk' [] W.heap.size W → Holds D P body n W (Turned bk') Q k ⟨st.sl, bk', [], W.heap.size⟩) : Holds D P body n w0 S Q k st := fun a w hf hm => by
  subst hb
  have h1 := hm.froze fs
  have h2 := hm.size
  rw [← h2] at h1
  exact h w hm h1 a w hf h1.again
/- a list of numbers that came in -/
structure Num1 where
  v : Int
structure Num1Ok (x : Num1) : Prop where
  v : I64 x.v
def Num1.cells (x : Num1) : List Value := [.int .i64 x.v]
def NumsAt (w : World) (A : Option Addr) (n : Nat) (f : Nat → Num1) : Prop :=
  ∀ k, k < n → Num1Ok (f k) ∧ ∃ b o, A = some ⟨b, o, none⟩ ∧ b < w.heap.size ∧ ∀ j, j < 1 → w.cell? ⟨b, o + k * 1 + j, none⟩ = (f k).cells[j]?
def Raw8.cells (x : Raw8) : List Value := [.int .i64 x.flags, .int .i64 x.fence, .int .i64 x.epoch, .int .i64 x.seq, .int .i64 x.ie, .int .i64 x.is, .int .i64 x.mask, .string x.block, .string x.staged]
def Raw8sAt (w : World) (A : Option Addr) (n : Nat) (f : Nat → Raw8) : Prop :=
  ∀ k, k < n → Raw8Ok (f k) ∧ ∃ b o, A = some ⟨b, o, none⟩ ∧ b < w.heap.size ∧ ∀ j, j < 9 → w.cell? ⟨b, o + k * 9 + j, none⟩ = (f k).cells[j]?
/-- one of a script's acts, raw -/
structure Act7 where
  (what n at_ letter : Int)
  (text : ByteArray)
  (ka : Option Addr)
  (kn kc : Nat)
structure Act7Ok (x : Act7) : Prop where
  what : I64 x.what
  n : I64 x.n
  at_ : I64 x.at_
  letter : I64 x.letter
def Act7.cells (x : Act7) : List Value := [.int .i64 x.what, .int .i64 x.n, .int .i64 x.at_, .int .i64 x.letter, .string x.text, .slice x.ka x.kn x.kc]
def Acts7At (w : World) (A : Option Addr) (n : Nat) (f : Nat → Act7) : Prop :=
  ∀ k, k < n → Act7Ok (f k) ∧ ∃ b o, A = some ⟨b, o, none⟩ ∧ b < w.heap.size ∧ ∀ j, j < 6 → w.cell? ⟨b, o + k * 6 + j, none⟩ = (f k).cells[j]?
/-- texts in a row -/
def strsV (now : List ByteArray) : List Value := now.map .string
def getB (now : List ByteArray) (k : Nat) : ByteArray := now[k]?.getD ⟨#[]⟩
theorem store_str {P : Program} {w0 wx : World} {S : Nat → Prop} {bk : List Bk} {wn : List Wn} {sz i g k : Nat} {t tt : TypeId} {now : List ByteArray} {s : ByteArray} (hm : MemOk w0 S bk wn sz wx) (hi : bk[i]? = some ⟨g, tt, true, strsV now⟩) (hk : k < now.length) (hs : (P.info? t).map (·.size) = some 1) :
    ∃ w', (Instr.storeAt t (.pointer (some ⟨g, 0 + k * 1, none⟩)) (.string s)).run P wx = .ok () w' ∧ sz ≤ w'.heap.size ∧ MemOk w0 S (bk.set i ⟨g, tt, true, strsV (now.set k s)⟩) wn w'.heap.size w' := by
  have hB : Blk wx g tt (strsV now) := hm.at_ i hi
  have h1 := run_storeG (P := P) wx t g (0 + k * 1) tt (strsV now) (.string s) (by rw [hs]; rfl) hB (by simp [strsV, Value.cells]; omega) (fun u hu => by
    simp only [Value.cells, List.mem_singleton] at hu
    subst hu
    rfl)
  have e : ((strsV now).take (0 + k * 1) ++ (Value.string s).cells.toList ++ (strsV now).drop (0 + k * 1 + (Value.string s).cells.size)) = strsV (now.set k s) := by
    rw [Nat.zero_add, Nat.mul_one]
    show (strsV now).take k ++ [.string s] ++ (strsV now).drop (k + 1) = _
    unfold strsV
    rw [List.map_set, List.set_eq_take_append_cons_drop, if_pos (by simpa using hk)]
    simp
  rw [e] at h1
  exact ⟨_, h1, hm.set1 i hi rfl (setRow_kept wx g _) (setRow_blk hB (strsV (now.set k s)))⟩
theorem load_str {P : Program} {w0 wx : World} {S : Nat → Prop} {bk : List Bk} {wn : List Wn} {sz i g k : Nat} {t tt : TypeId} {b : Bool} {now : List ByteArray} (hm : MemOk w0 S bk wn sz wx) (hi : bk[i]? = some ⟨g, tt, b, strsV now⟩) (hk : k < now.length) (ha : oneB P t = true) :
    (Instr.loadAt t (.pointer (some ⟨g, 0 + k * 1, none⟩))).run P wx = .ok (.string (getB now k)) wx := by
  refine run_loadV wx t g (0 + k * 1) tt (strsV now) _ ha (hm.at_ i hi) ?_
  rw [Nat.zero_add, Nat.mul_one]
  simp [strsV, getB, hk]
/-- a window on what came in, behind changes elsewhere -/
theorem win_kept {w W : World} {T : Nat → Prop} {b o z k : Nat} {cs : List Value} (hb : b < w.heap.size) (hc : ∀ j, j < z → w.cell? ⟨b, o + k * z + j, none⟩ = cs[j]?) (hl : cs.length = z) (hk : Kept T w W) (hT : ¬ T b) :
    b < W.heap.size ∧ ∀ j v, cs[j]? = some v → W.cell? ⟨b, o + k * z + j, none⟩ = some v :=
  ⟨Nat.lt_of_lt_of_le hb hk.size, fun j v hj => by
    have h1 : W.cell? ⟨b, o + k * z + j, none⟩ = w.cell? ⟨b, o + k * z + j, none⟩ := hk.cell (p := ⟨b, o + k * z + j, none⟩) hb hT
    rw [h1, hc j (by rw [← hl]; exact (List.getElem?_eq_some_iff.1 hj).1), hj]⟩
end Go.Proofs.Ytpilmccjjbgmiaa
