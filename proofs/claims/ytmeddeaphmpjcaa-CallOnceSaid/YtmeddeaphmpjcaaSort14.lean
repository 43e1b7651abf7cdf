/- slices.Sort at this program: the library's contract, laid. -/
import Derived.Shelf.Sort.Plain
import Derived.Shelf.Slices.In.SortNone
import Derived.Sort.OwnSortedInts
import Derived.Test.YtmeddeaphmpjcaaCallR
import Derived.Test.YtmeddeaphmpjcaaProg
namespace Go.Proofs.Ytmeddeaphmpjcaa
open Go.Shelf Go.RowKit Go.Sort

def Try.lays189_ren : Go.Shelf.Ren := ⟨fun | 189 => 25 | 125 => 31 | 257 => 30 | 128 => 41 | 129 => 42 | 294 => 32 | 295 => 33 | 296 => 34 | 297 => 35 | 298 => 36 | 299 => 37 | 216 => 38 | 300 => 39 | 301 => 40 | 328 => 43 | 329 => 44 | 330 => 45 | 331 => 46 | 332 => 47 | 215 => 48 | 343 => 49 | n => n, fun | 28 => 22 | 3 => 3 | 46 => 75 | 0 => 0 | 51 => 87 | 53 => 89 | 4 => 4 | 183 => 79 | 182 => 78 | 131 => 84 | 5 => 5 | 9 => 9 | 218 => 90 | 222 => 94 | 228 => 96 | 229 => 97 | n => n, fun | n => n⟩
theorem Try.lays189 : Go.Proofs.Lays.n189 Try.prog Try.lays189_ren := {
  mixed := by kernel_rfl
  f125 := Try.func31.trans (congrArg some (by kernel_rfl))
  f128 := Try.func41.trans (congrArg some (by kernel_rfl))
  f129 := Try.func42.trans (congrArg some (by kernel_rfl))
  f189 := Try.func25.trans (congrArg some (by kernel_rfl))
  f215 := Try.func48.trans (congrArg some (by kernel_rfl))
  f216 := Try.func38.trans (congrArg some (by kernel_rfl))
  f257 := Try.func30.trans (congrArg some (by kernel_rfl))
  f294 := Try.func32.trans (congrArg some (by kernel_rfl))
  f295 := Try.func33.trans (congrArg some (by kernel_rfl))
  f296 := Try.func34.trans (congrArg some (by kernel_rfl))
  f297 := Try.func35.trans (congrArg some (by kernel_rfl))
  f298 := Try.func36.trans (congrArg some (by kernel_rfl))
  f299 := Try.func37.trans (congrArg some (by kernel_rfl))
  f300 := Try.func39.trans (congrArg some (by kernel_rfl))
  f301 := Try.func40.trans (congrArg some (by kernel_rfl))
  f328 := Try.func43.trans (congrArg some (by kernel_rfl))
  f329 := Try.func44.trans (congrArg some (by kernel_rfl))
  f330 := Try.func45.trans (congrArg some (by kernel_rfl))
  f331 := Try.func46.trans (congrArg some (by kernel_rfl))
  f332 := Try.func47.trans (congrArg some (by kernel_rfl))
  f343 := Try.func49.trans (congrArg some (by kernel_rfl))
  t0 := Try.underlying0
  a0 := Try.isAgg0
  z0 := Try.sizeOf0
  v0 := Try.zeroValue0
  t3 := Try.underlying3
  a3 := Try.isAgg3
  z3 := Try.sizeOf3
  v3 := Try.zeroValue3
  t4 := Try.underlying4
  a4 := Try.isAgg4
  z4 := Try.sizeOf4
  v4 := Try.zeroValue4
  t5 := Try.underlying5
  a5 := Try.isAgg5
  z5 := Try.sizeOf5
  v5 := Try.zeroValue5
  t9 := Try.underlying9
  a9 := Try.isAgg9
  z9 := Try.sizeOf9
  v9 := Try.zeroValue9
  t28 := Try.underlying22
  a28 := Try.isAgg22
  z28 := Try.sizeOf22
  v28 := Try.zeroValue22
  t46 := Try.underlying75
  a46 := Try.isAgg75
  z46 := Try.sizeOf75
  v46 := Try.zeroValue75
  t51 := Try.underlying87
  a51 := Try.isAgg87
  z51 := Try.sizeOf87
  v51 := Try.zeroValue87
  t53 := Try.underlying89
  a53 := Try.isAgg89
  z53 := Try.sizeOf89
  v53 := Try.zeroValue89
  t131 := Try.underlying84
  a131 := Try.isAgg84
  z131 := Try.sizeOf84
  v131 := Try.zeroValue84
  t182 := Try.underlying78
  a182 := Try.isAgg78
  z182 := Try.sizeOf78
  v182 := Try.zeroValue78
  t183 := Try.underlying79
  a183 := Try.isAgg79
  z183 := Try.sizeOf79
  v183 := Try.zeroValue79
  t218 := Try.underlying90
  a218 := Try.isAgg90
  z218 := Try.sizeOf90
  v218 := Try.zeroValue90
  t222 := Try.underlying94
  a222 := Try.isAgg94
  z222 := Try.sizeOf94
  v222 := Try.zeroValue94
  t228 := Try.underlying96
  a228 := Try.isAgg96
  z228 := Try.sizeOf96
  v228 := Try.zeroValue96
  t229 := Try.underlying97
  a229 := Try.isAgg97
  z229 := Try.sizeOf97
  v229 := Try.zeroValue97 }
theorem Try.slices_Sort_int (blk off cap : Nat) (zs : List Int) (w : World) (hH : Go.Sort.Holds (Value.int .i64) w blk off zs.toArray) (hblk : blk < w.heap.size) (hsz : zs.length < 4611686018427387904) :
    Calls Try.prog 25 #[.slice (some ⟨blk, off, none⟩) zs.length cap] w fun e w' =>
      e = .returned (.tuple #[]) ∧ ∃ n os, w' = grow (putRow (Value.int .i64) (Sort.ahead w n) blk off (zs.mergeSort fun x y => decide (x ≤ y)).toArray) os := Any.slices_Sort_int Try.lays189 blk off cap zs w hH hblk hsz
theorem Try.slices_Sort_int_none (p : Option Addr) (cap : Nat) (w : World) :
    Calls Try.prog 25 #[.slice p 0 cap] w fun e w' => e = .returned (.tuple #[]) ∧ w' = w := Any.slices_Sort_int_none Try.lays189 p cap w
theorem sort_own (w : World) (base : Nat) (e : TypeId) (A : Option Addr) (n cp : Nat) (ys : List Int) (hn : n ≤ 64) (h : OwnR w base e 1 A n cp (i64s ys)) :
    Calls Try.prog 25 #[.slice A n cp] w (fun en w' => en = .returned (.tuple #[]) ∧ OwnR w' base e 1 A n cp (i64s (sortI ys)) ∧ Kept (ownS A) w w') := by
  have hl : ys.length = n := by have := h.len; rw [i64s_len] at this; omega
  rcases h.2 with ⟨hv, h0⟩ | ⟨g, cap, cur, hv, h1, h2, h3, h4, h5, h6⟩
  · subst h0
    have hy : ys = [] := List.eq_nil_of_length_eq_zero hl
    subst hy
    exact (Try.slices_Sort_int_none A cp w).mono fun en w' ⟨he, hw⟩ => ⟨he, by subst hw; rw [show sortI [] = [] by simp [sortI]]; exact h, by subst hw; exact Kept.refl _ _⟩
  · simp only [Value.slice.injEq] at hv
    obtain ⟨rfl, _, rfl⟩ := hv
    subst hl
    refine (Try.slices_Sort_int g 0 cp ys w (holds_of_blockI h2 (by simpa [i64s] using h6)) (Array.getElem?_eq_some_iff.1 h2).1 (by omega)).mono fun en w' ⟨he, m, os, hw⟩ => ?_
    subst hw
    refine ⟨he, ?_, kept_grownS (v := .slice (some ⟨g, 0, none⟩) ys.length cp) (grownBy_sortedI _) rfl⟩
    exact ownsRow_sortedI (ss := ys) (ts := sortI ys) (sortI_len ys) h1 h2 h3 h4 h5
end Go.Proofs.Ytmeddeaphmpjcaa
