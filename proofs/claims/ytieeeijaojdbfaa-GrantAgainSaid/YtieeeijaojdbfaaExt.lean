/- A region that draws its order, whose operations read and whose callees at most make memory of their own: one walk in the order of the text. Plain lemmas; no program. -/
import Derived.Test.YtieeeijaojdbfaaMem
import Derived.BigQuiet
namespace Go.Proofs.Ytieeeijaojdbfaa
open Go.RowKit

/-- blocks that are new, and how far the tape is read -/
structure More where
  blocks : Array Obj
  drawn : Nat
instance : Inhabited More := ⟨⟨#[], 0⟩⟩
/-- w with blocks E more and the tape read up to d -/
def ext (w : World) (p : More) : World := { w with heap := w.heap ++ p.blocks, drawn := p.drawn }

section
variable {w w' : World} {p : More}
theorem ext_kept (w : World) (p : More) : Kept (fun _ => False) w (ext w p) :=
  ⟨rfl, rfl, rfl, by simp [ext], fun k hk _ => by simp [ext, Array.getElem?_append, hk]⟩
theorem ext_of_kept (h : Kept (fun _ => False) w w') : ∃ p, w' = ext w p := by
  refine ⟨⟨w'.heap.extract w.heap.size w'.heap.size, w'.drawn⟩, ?_⟩
  have hh : w'.heap = w.heap ++ w'.heap.extract w.heap.size w'.heap.size := by
    apply Array.ext_getElem?
    intro i
    rw [Array.getElem?_append]
    split
    · rename_i hi; exact h.block i hi id
    · rename_i hi
      rw [Array.getElem?_extract]
      have hs := h.size
      split
      · congr 1; omega
      · rw [Array.getElem?_eq_none]; omega
  obtain ⟨heap, tape, drawn, os, output⟩ := w'
  obtain ⟨h1, h2, h3, _, _⟩ := h
  simp only at h1 h2 h3 hh
  subst h1 h2 h3
  simp only [ext]
  rw [← hh]
theorem ext_ext (w : World) (p q : More) : ext (ext w p) q = ext w ⟨p.blocks ++ q.blocks, q.drawn⟩ := by simp [ext, Array.append_assoc]
theorem ext_drew (w : World) : ({ w with drawn := w.drawn + 1 } : World) = ext w ⟨#[], w.drawn + 1⟩ := by simp [ext]
@[go_sem] theorem cell?_ext_some {a : Addr} (h : (w.cell? a).isSome = true) : (ext w p).cell? a = w.cell? a := by
  obtain ⟨u, hu⟩ := Option.isSome_iff_exists.1 h
  exact (ext_kept w p).cell (World.block_lt_of_cell? _ _ hu) id
theorem frozen?_ext {a : Addr} (h : a.block < w.heap.size) : (ext w p).frozen? a = w.frozen? a := (ext_kept w p).frozen h id
end

section
variable {P : Program} {w : World} {p : More}
/-- a callee's contract in such a region -/
theorem quiet_kept {f : FuncId} {args : Array Value} {v : Value} (h : Calls P f args (ext w p) fun e w' => e = .returned v ∧ Kept (fun _ => False) (ext w p) w') :
    Calls P f args (ext w p) fun e w'' => e = .returned v ∧ ∃ p', w'' = ext w p' :=
  h.mono fun _ _ ⟨he, hk⟩ => ⟨he, by
    obtain ⟨q, rfl⟩ := ext_of_kept hk
    exact ⟨_, ext_ext w p q⟩⟩
theorem wp_region_ext {id : Nat} {Q : Exit → Act → World → Prop} {a : Act} {w : World} {l : List Oper} (hm : P.follows .mixedOrders = true) (hB : Region.lexB .any l.toArray = true)
    (h : wpQuiet P l.toArray (fun w' => ∃ p, w' = ext w p) (fun a' => ∀ w', Kept (fun _ => False) w w' → Q .normal a' w') l a) : (Code.region id l.toArray true).wp P Q a w := by
  refine wp_region_quiet (C := fun w' => ∃ p, w' = ext w p) hm hB ⟨_, ext_drew w⟩ ?_
  have e : (fun a' => ∀ w', (∃ p, w' = ext w p) → Q .normal a' w') = (fun a' => ∀ w', Kept (fun _ => False) w w' → Q .normal a' w') := by
    funext a'
    apply propext
    constructor
    · intro h w' hk; exact h w' (ext_of_kept hk)
    · rintro h w' ⟨p, rfl⟩; exact h _ (ext_kept w p)
  rw [e]
  simpa using h
end
end Go.Proofs.Ytieeeijaojdbfaa
