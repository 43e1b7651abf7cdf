/- Memory words of this proof: a block known whole (Blk), and what a call has left as it was (Kept). Plain lemmas over worlds; no program. -/
import Derived.WalkKit
import Derived.Deep.Draws
namespace Go.Proofs.Ytmeddeaphmpjcaa
open Go.RowKit

/-- Block g is just the cells cs of element type t, none of them frozen. -/
def Blk (w : World) (g : Nat) (t : TypeId) (cs : List Value) : Prop := w.heap[g]? = some (.cells cs.toArray t (0, 0))

theorem getElem?_lt {α : Type} {h : Array α} {g : Nat} {x : α} (e : h[g]? = some x) : g < h.size := by
  rcases Nat.lt_or_ge g h.size with hlt | hge
  · exact hlt
  · rw [Array.getElem?_eq_none hge] at e; cases e

section
variable {w w' : World} {g : Nat} {t : TypeId} {cs : List Value}
theorem Blk.lt (h : Blk w g t cs) : g < w.heap.size := getElem?_lt h
theorem Blk.cell (h : Blk w g t cs) (i : Nat) : w.cell? ⟨g, i, none⟩ = cs[i]? := by
  unfold Blk at h; simp [World.cell?, h]
theorem Blk.at_ (h : Blk w g t cs) {i : Nat} {v : Value} (hi : cs[i]? = some v) : w.cell? ⟨g, i, none⟩ = some v := (h.cell i).trans hi
theorem Blk.frozen (h : Blk w g t cs) (i : Nat) : w.frozen? ⟨g, i, none⟩ = false := by
  unfold Blk at h; simp [World.frozen?, h]
theorem Blk.new (w : World) (t : TypeId) (cs : List Value) : Blk (w.alloc (.cells cs.toArray t)) w.heap.size t cs :=
  heap_alloc_new w _
theorem Blk.new_ {w : World} {g : Nat} {t : TypeId} {cs : List Value} (e : g = w.heap.size) : Blk (w.alloc (.cells cs.toArray t)) g t cs := e ▸ Blk.new w t cs
theorem Blk.alloc (h : Blk w g t cs) (o : Obj) : Blk (w.alloc o) g t cs := (Below.heap_alloc w o g h.lt).trans h
theorem Blk.drew (h : Blk w g t cs) : Blk w.drew g t cs := h
theorem Blk.drewN (h : Blk w g t cs) (n : Nat) : Blk (w.drewN n) g t cs := h
theorem Blk.put (h : Blk w g t cs) (i : Nat) (u : Value) : Blk (w.setCell ⟨g, i, none⟩ u) g t (cs.set i u) := by
  unfold Blk at h ⊢
  simp [World.setCell, Array.getElem?_modify, h]
theorem Blk.far (h : Blk w g t cs) {p : Addr} (hp : p.block ≠ g) (u : Value) : Blk (w.setCell p u) g t cs := (Below.heap_setCell w p u g (Ne.symm hp)).trans h
theorem Blk.farR {p : Addr} (hp : p.block ≠ g) (h : Blk w g t cs) (u : Value) : Blk (w.setCell p u) g t cs := h.far hp u
theorem Blk.eq_ (h : Blk w g t cs) {cs' : List Value} (e : cs = cs') : Blk w g t cs' := e ▸ h
theorem Blk.inj {t' : TypeId} {cs' : List Value} (h : Blk w g t cs) (h' : Blk w g t' cs') : t = t' ∧ cs = cs' := by
  unfold Blk at h h'
  rw [h] at h'
  injection h' with h'
  injection h' with h1 h2
  exact ⟨h2, by simpa using h1⟩
theorem Blk.ne {g' : Nat} {t' : TypeId} {cs' : List Value} (h : Blk w g t cs) (h' : Blk w g' t' cs') (hne : t ≠ t') : g ≠ g' := by
  rintro rfl; exact hne (h.inj h').1
end

/-- All streams are as they were, and so is each block that was there, but for those of S. -/
structure Kept (S : Nat → Prop) (w w' : World) : Prop where
  os : w'.os = w.os
  tape : w'.tape = w.tape
  output : w'.output = w.output
  size : w.heap.size ≤ w'.heap.size
  block : ∀ k, k < w.heap.size → ¬ S k → w'.heap[k]? = w.heap[k]?

section
variable {S S' : Nat → Prop} {a b c w w' : World}
theorem Kept.refl (S : Nat → Prop) (w : World) : Kept S w w := ⟨rfl, rfl, rfl, Nat.le_refl _, fun _ _ _ => rfl⟩
theorem Kept.trans (h : Kept S a b) (h' : Kept S' b c) (hs : ∀ k, k < a.heap.size → S' k → S k) : Kept S a c :=
  ⟨h'.os.trans h.os, h'.tape.trans h.tape, h'.output.trans h.output, Nat.le_trans h.size h'.size, fun k hk hn =>
    (h'.block k (Nat.lt_of_lt_of_le hk h.size) (fun hs' => hn (hs k hk hs'))).trans (h.block k hk hn)⟩
theorem Kept.mono (h : Kept S' a b) (hs : ∀ k, k < a.heap.size → S' k → S k) : Kept S a b := ⟨h.os, h.tape, h.output, h.size, fun k hk hn => h.block k hk (fun x => hn (hs k hk x))⟩
theorem Kept.drew (h : Kept S a b) : Kept S a b.drew := ⟨h.os, h.tape, h.output, h.size, h.block⟩
theorem Kept.drewN (h : Kept S a b) (n : Nat) : Kept S a (b.drewN n) := ⟨h.os, h.tape, h.output, h.size, h.block⟩
theorem Kept.alloc (h : Kept S a b) (o : Obj) : Kept S a (b.alloc o) :=
  ⟨h.os, h.tape, h.output, Nat.le_trans h.size (by simp), fun k hk hn => (Below.heap_alloc b o k (Nat.lt_of_lt_of_le hk h.size)).trans (h.block k hk hn)⟩
theorem Kept.setCell (h : Kept S a b) {p : Addr} (hp : p.block < a.heap.size → S p.block) (u : Value) : Kept S a (b.setCell p u) :=
  ⟨h.os, h.tape, h.output, by simpa using h.size, fun k hk hn => (Below.heap_setCell b p u k (by rintro rfl; exact hn (hp hk))).trans (h.block k hk hn)⟩
theorem Kept.cellPut {p : Addr} (hp : p.block < a.heap.size → S p.block) (h : Kept S a b) (u : Value) : Kept S a (b.setCell p u) := h.setCell hp u
theorem Kept.below (h : Kept (fun _ => False) a b) : Below a.heap.size a b := ⟨h.os, h.tape, h.output, h.size, fun k hk => h.block k hk id⟩
theorem Kept.of_below {B : Nat} (h : Below B a b) (hs : ∀ k, k < a.heap.size → B ≤ k → S k) : Kept S a b :=
  ⟨h.os, h.tape, h.output, h.size, fun k hk hn => h.block k (by rcases Nat.lt_or_ge k B with x | x; exact x; exact absurd (hs k hk x) hn)⟩
theorem Kept.of_grown {row : Option Nat} (h : a.grownBy b row) (hs : ∀ k, k < a.heap.size → row = some k → S k) : Kept S a b :=
  ⟨h.os, h.tape, h.output, h.size, fun k hk hn => h.block k hk (fun e => hn (hs k hk e.symm))⟩
theorem Blk.kept {g : Nat} {t : TypeId} {cs : List Value} (h : Blk w g t cs) (hk : Kept S w w') (hn : ¬ S g) : Blk w' g t cs := (hk.block g h.lt hn).trans h
theorem Kept.cell (hk : Kept S w w') {p : Addr} (hp : p.block < w.heap.size) (hn : ¬ S p.block) : w'.cell? p = w.cell? p := World.cell?_of_block (hk.block _ hp hn)
theorem Kept.frozen (hk : Kept S w w') {p : Addr} (hp : p.block < w.heap.size) (hn : ¬ S p.block) : w'.frozen? p = w.frozen? p := World.frozen?_of_block (hk.block _ hp hn)
end

/-- the world at hand under a new name: what is known of it goes with it -/
theorem seal_ {P : Program} {c : Code} {Q : Exit → Act → World → Prop} {a : Act} {w : World} (F : World → Prop) (hF : F w) (h : ∀ W, F W → c.wp P Q a W) : c.wp P Q a w := h w hF
/-- behind a call that has left all as it was: each old cell reads as it did -/
theorem kcell {W w1 : World} (h : Kept (fun _ => False) W w1) : (∀ b o, b < W.heap.size → w1.cell? ⟨b, o, none⟩ = W.cell? ⟨b, o, none⟩) ∧ (∀ b o, b < W.heap.size → w1.frozen? ⟨b, o, none⟩ = W.frozen? ⟨b, o, none⟩) :=
  ⟨fun b o hb => h.cell (p := ⟨b, o, none⟩) hb id, fun b o hb => h.frozen (p := ⟨b, o, none⟩) hb id⟩
theorem ret_int {k : IntKind} {a b : Int} (h : a = b) : Ending.returned (.int k a) = .returned (.int k b) := by rw [h]
theorem ret_bool {a b : Bool} (h : a = b) : Ending.returned (.bool a) = .returned (.bool b) := by rw [h]
end Go.Proofs.Ytmeddeaphmpjcaa
