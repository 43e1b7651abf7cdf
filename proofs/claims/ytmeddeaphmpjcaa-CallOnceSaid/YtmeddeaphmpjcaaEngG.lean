/- The executor: operations with laws of their own on memory: a copy of a text into bytes, bytes as a text, an append to nothing. -/
import Derived.Test.YtmeddeaphmpjcaaEngF
import Derived.Laws.CopyRow
import Derived.Laws.IdiomStrings
import Derived.Laws.Append
namespace Go.Proofs.Ytmeddeaphmpjcaa
open Go.RowKit

def dstAt (ops : Array Oper) (sl : List (Nat × Value)) (i : Nat) : Option (Option Nat) :=
  match ops[i]? with
  | some o => match o.guard with
    | none => match known sl o with
      | true => some o.dst
      | false => none
    | some _ => none
  | none => none
def semAt (ops : Array Oper) (sl : List (Nat × Value)) (i : Nat) : Option (Sem Next) :=
  match ops[i]? with
  | some o => some (execOp (rho sl) o)
  | none => none
def asV (x : Sem Value) : Sem Next := x >>= fun v => pure (.value v)

section
variable {D : List Deferred} {P : Program} {body : Code} {n : Nat} {w0 : World} {S : Nat → Prop} {Q : Exit → Act → World → Prop}
theorem holds_opX {p : List Nat} {i : Nat} {l : List Nat} {k : List KI} {st : St} {dst : Option Nat} {x : Sem Value} {X : Type} (C : X → Prop) (v : X → Value) (bk : X → List Bk) (sl : X → List (Nat × Value))
    (hd : dstAt (opsOf (getCode body p)) st.sl i = some dst) (hx : semAt (opsOf (getCode body p)) st.sl i = some (asV x)) (hp : ∀ y, putS n st.sl dst (v y) = some (sl y))
    (hr : ∀ w, MemOk w0 S st.bk st.wn st.sz w → ∃ y w', C y ∧ x.run P w = .ok (v y) w' ∧ st.sz ≤ w'.heap.size ∧ MemOk w0 S (bk y) st.wn w'.heap.size w')
    (hh : ∀ y, C y → ∀ sz, st.sz ≤ sz → Holds D P body n w0 S Q (.ops p l :: k) ⟨sl y, bk y, st.wn, sz⟩) : Holds D P body n w0 S Q (.ops p (i :: l) :: k) st := by
  intro a w hf hm
  simp only [sem]
  rw [wpOps_cons]
  unfold dstAt at hd
  unfold semAt at hx
  split at hd
  · rename_i o ho
    simp only [ho, Option.some.injEq] at hx
    split at hd
    · rename_i hg
      split at hd
      · rename_i hk
        simp only [Option.some.injEq] at hd
        have hw : Region.wanted o (yielded (opsOf (getCode body p)) a.tmps) = true := by simp [Region.wanted, hg]
        simp only [wpOp, ho, if_pos hw]
        refine .inl ?_
        obtain ⟨y, w', h1, h2, h3, h4⟩ := hr w hm
        have h5 : (execOp a.eval o).run P w = .ok (.value (v y)) w' := by
          rw [hf.rho hk, hx]
          simp only [asV, Sem.run_bind, h2, Result.andThen_ok, Sem.run_pure]
        simp only [Oper.wp, h5, Oper.upon_value]
        rw [hd]
        exact hh y h1 _ h3 _ _ (hf.put (hp y)) h4
      · cases hd
    · cases hd
  · cases hd
theorem holds_op1 {p : List Nat} {i : Nat} {l : List Nat} {k : List KI} {st : St} {dst : Option Nat} {x : Sem Value} (v : Value) (bk : List Bk) {sl : List (Nat × Value)}
    (hd : dstAt (opsOf (getCode body p)) st.sl i = some dst) (hx : semAt (opsOf (getCode body p)) st.sl i = some (asV x)) (hp : putS n st.sl dst v = some sl)
    (hr : ∀ w, MemOk w0 S st.bk st.wn st.sz w → ∃ w', x.run P w = .ok v w' ∧ st.sz ≤ w'.heap.size ∧ MemOk w0 S bk st.wn w'.heap.size w')
    (hh : ∀ sz, st.sz ≤ sz → Holds D P body n w0 S Q (.ops p l :: k) ⟨sl, bk, st.wn, sz⟩) : Holds D P body n w0 S Q (.ops p (i :: l) :: k) st :=
  holds_opX (X := Unit) (fun _ => True) (fun _ => v) (fun _ => bk) (fun _ => sl) hd hx (fun _ => hp) (fun w hm => let ⟨w', h1, h2, h3⟩ := hr w hm; ⟨(), w', trivial, h1, h2, h3⟩) (fun _ _ => hh)
/-- an operation that only reads -/
theorem holds_opR {p : List Nat} {i : Nat} {l : List Nat} {k : List KI} {st : St} {dst : Option Nat} {x : Sem Value} (v : Value) {sl : List (Nat × Value)}
    (hd : dstAt (opsOf (getCode body p)) st.sl i = some dst) (hx : semAt (opsOf (getCode body p)) st.sl i = some (asV x)) (hp : putS n st.sl dst v = some sl)
    (hr : ∀ w, MemOk w0 S st.bk st.wn st.sz w → x.run P w = .ok v w)
    (hh : Holds D P body n w0 S Q (.ops p l :: k) ⟨sl, st.bk, st.wn, st.sz⟩) : Holds D P body n w0 S Q (.ops p (i :: l) :: k) st := by
  intro a w hf hm
  simp only [sem]
  rw [wpOps_cons]
  unfold dstAt at hd
  unfold semAt at hx
  split at hd
  · rename_i o ho
    simp only [ho, Option.some.injEq] at hx
    split at hd
    · rename_i hg
      split at hd
      · rename_i hk
        simp only [Option.some.injEq] at hd
        have hw : Region.wanted o (yielded (opsOf (getCode body p)) a.tmps) = true := by simp [Region.wanted, hg]
        simp only [wpOp, ho, if_pos hw]
        refine .inl ?_
        have h5 : (execOp a.eval o).run P w = .ok (.value v) w := by
          rw [hf.rho hk, hx]
          simp only [asV, Sem.run_bind, hr w hm, Result.andThen_ok, Sem.run_pure]
        simp only [Oper.wp, h5, Oper.upon_value]
        rw [hd]
        exact hh _ _ (hf.put hp) hm
      · cases hd
    · cases hd
  · cases hd

/- bytes -/
def bytesV (l : List UInt8) : List Value := l.map fun b => .int .u8 (b.toNat : Int)
theorem bytesV_one (l : List UInt8) : ∀ v ∈ bytesV l, v.oneCell' = true := by
  intro v hv
  obtain ⟨b, _, rfl⟩ := List.mem_map.1 hv
  rfl
theorem setRow_size (w : World) (g : Nat) (c : Array Value) : (w.setRow g c).heap.size = w.heap.size := by simp [World.setRow]
theorem setRow_far (w : World) (g : Nat) (c : Array Value) {j : Nat} (h : j ≠ g) : (w.setRow g c).heap[j]? = w.heap[j]? := by
  simp only [World.setRow]
  rw [Array.getElem?_modify, if_neg (Ne.symm h)]
theorem setRow_kept (w : World) (g : Nat) (c : Array Value) : Kept (fun x => x = g) w (w.setRow g c) :=
  ⟨rfl, rfl, rfl, by rw [setRow_size]; exact Nat.le_refl _, fun k _ hn => setRow_far w g c hn⟩
theorem setRow_blk {w : World} {g : Nat} {t : TypeId} {cs : List Value} (h : Blk w g t cs) (ds : List Value) : Blk (w.setRow g ds.toArray) g t ds := setRow_heap w g _ _ t _ h
theorem run_copyStr (w : World) (dT sT ty e : TypeId) (g L cap : Nat) (t : TypeId) (s : ByteArray) (cs : List Value) (hu : P.underlying dT = some (.slice e)) (hs : (P.info? e).map (·.size) = some 1) (hB : Blk w g t cs) (hL : L ≤ cs.length) :
    (Builtin.copy_ #[dT, sT] ty #[.slice (some ⟨g, 0, none⟩) L cap, .string s]).run P w = .ok (.int .i64 ((Nat.min s.size L : Nat) : Int)) (w.setRow g (bytesV (s.data.toList.take L) ++ cs.drop (Nat.min s.size L)).toArray) := by
  obtain ⟨inf, hi, hz⟩ := Option.map_eq_some_iff.1 hs
  have hlen : (bytesV (s.data.toList.take L)).length = Nat.min s.size L := by
    simp only [bytesV, List.length_map, List.length_take, Array.length_toList]
    exact Nat.min_comm _ _
  have hml : Nat.min s.size L ≤ L := Nat.min_le_right _ _
  have h1 := run_storeCells_at P g 0 t (bytesV (s.data.toList.take L)) 0 cs.toArray w hB (by rw [hlen]; simp; omega) (bytesV_one _)
  have e1 : List.take (s.size.min L) (s.data.toList.map fun b => (Value.int .u8 (b.toNat : Int))) = bytesV (s.data.toList.take L) := by
    simp only [bytesV, List.map_take]
    rw [List.take_eq_take_iff]
    have h2 : (s.data.toList.map fun b => (Value.int .u8 (b.toNat : Int))).length = s.size := by simp
    rw [h2]
    show min (min s.size L) s.size = min L s.size
    omega
  simp only [Nat.zero_add, List.take_zero, List.nil_append, hlen] at h1
  simp only [Builtin.copy_]
  simp [run_underlying hu, Builtin.lenOf, Builtin.firstCells, sizeOf, typeInfo, hi]
  rw [e1, h1]
  simp [goInt]
/-- a text cut to L bytes, or with noughts behind -/
def cutL (L : Nat) (s : ByteArray) : List UInt8 := s.data.toList.take L ++ List.replicate (L - s.size) 0
def strL (L : Nat) (s : ByteArray) : ByteArray := ⟨(cutL L s).toArray⟩
theorem length_cutL (L : Nat) (s : ByteArray) : (cutL L s).length = L := by
  have h2 : s.data.toList.length = s.size := by simp
  simp only [cutL, List.length_append, List.length_take, List.length_replicate, h2]
  omega
theorem size_strL (L : Nat) (s : ByteArray) : (strL L s).size = L := by
  show (cutL L s).toArray.size = L
  simp [length_cutL]
theorem copy_cut (L : Nat) (s : ByteArray) : bytesV (s.data.toList.take L) ++ (List.replicate L (Value.int .u8 0)).drop (Nat.min s.size L) = bytesV (cutL L s) := by
  simp only [cutL, bytesV, List.map_append, List.map_replicate, List.drop_replicate]
  congr 2
  show L - min s.size L = L - s.size
  omega
theorem run_bytesBack (w : World) (src dst e : TypeId) (g L cap : Nat) (t : TypeId) (l : List UInt8) (hs : P.underlying src = some (.slice e)) (he : P.underlying e = some (.int .u8)) (hd : P.underlying dst = some .string) (hB : Blk w g t (bytesV l)) (hL : l.length = L) :
    (convert src dst (.slice (some ⟨g, 0, none⟩) L cap)).run P w = .ok (.string ⟨l.toArray⟩) w := by
  subst hL
  refine run_convert_bytes_back w src dst e ⟨g, 0, none⟩ cap l hs he hd (fun j hj => ?_)
  have : (⟨g, 0, none⟩ : Addr).add j = ⟨g, j, none⟩ := by
    rw [add_norm, Nat.zero_add]
  rw [this]
  refine (hB.cell j).trans ?_
  simp [bytesV, hj]
/-- an append of one to nothing: a new block, that one ahead -/
theorem run_appendNil1 (w : World) (t ty e : TypeId) (i : TypeInfo) (z v : Value) (ht : P.underlying t = some (.slice e)) (hi : P.info? e = some i) (hz : i.zero = some z) (hsz : i.size = 1) (hby : i.bytes ≤ 281474976710656)
    (g cap : Nat) (tt : TypeId) (cs : List Value) (hB : Blk w g tt (v :: cs)) :
    ∃ c rest w', (Builtin.append_ #[t, t] ty #[.slice none 0 0, .slice (some ⟨g, 0, none⟩) 1 cap]).run P w = .ok (.slice (some ⟨w.heap.size, 0, none⟩) 1 c) w' ∧ Blk w' w.heap.size e (v :: rest) ∧ Kept (fun _ => False) w w' := by
  have h1 := run_append_nil (P := P) w t ty e i z ht hi hz ⟨g, 0, none⟩ 1 cap [v] (by simp [hsz]) (fun j u hj => by
    match j, hj with
    | 0, hj =>
      simp only [List.getElem?_cons_zero, Option.some.injEq] at hj
      subst hj
      rw [add_norm]
      exact hB.cell 0
    | j + 1, hj => simp at hj) (by omega) (by omega) (by omega)
  refine ⟨_, (Builtin.zeroCells z.cells (grownCap w 1 0 e - 1)).toList, _, h1, ?_, ((Kept.refl _ w).drew).alloc _⟩
  have h2 := Blk.new w.drew e (v :: (Builtin.zeroCells z.cells (grownCap w 1 0 e - 1)).toList)
  have e2 : (v :: (Builtin.zeroCells z.cells (grownCap w 1 0 e - 1)).toList).toArray = #[v] ++ Builtin.zeroCells z.cells (grownCap w 1 0 e - 1) := by
    apply Array.toList_inj.1
    simp
  rw [e2] at h2
  exact h2
end
end Go.Proofs.Ytmeddeaphmpjcaa
