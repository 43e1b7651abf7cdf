/- slices.Sorted(maps.Keys(m)) at this program: the library's contracts, laid. -/
import Derived.Shelf.SlIter.Nil
import Derived.Shelf.SortM.Plain
import Derived.Shelf.SortM.SortNone
import Derived.Ground.GgzProg
import Derived.Ground.SlgmProg
import Derived.Test.YthndmmondlpghaaNetL
import Derived.Test.YthndmmondlpghaaProg
namespace Go.Proofs.Ythndmmondlpghaa
open Go.Shelf Go.RowKit Go.Maps Go.Sort

def Try.keys26_ren : Go.Shelf.Ren := ⟨fun | 7 => 26 | 10 => 29 | n => n, fun | 23 => 41 | 26 => 9 | 3 => 3 | 28 => 46 | 0 => 0 | 27 => 45 | 33 => 27 | 4 => 4 | n => n, fun | n => n⟩
theorem Try.keys26 : Go.Proofs.SlLaysZ.n7 Try.prog Try.keys26_ren := {
  mixed := by kernel_rfl
  f7 := ⟨Try.f26.name, by decide, Try.func26.trans (congrArg some (by kernel_rfl))⟩
  f10 := ⟨Try.f29.name, by decide, Try.func29.trans (congrArg some (by kernel_rfl))⟩
  t0 := Try.underlying0
  a0 := Try.isAgg0
  z0 := Try.sizeOf0
  v0 := Try.zeroValue0
  t4 := Try.underlying4
  a4 := Try.isAgg4
  z4 := Try.sizeOf4
  v4 := Try.zeroValue4
  t23 := Try.underlying41
  a23 := Try.isAgg41
  z23 := Try.sizeOf41
  v23 := Try.zeroValue41
  t26 := Try.underlying9
  a26 := Try.isAgg9
  z26 := Try.sizeOf9
  v26 := Try.zeroValue9
  t27 := Try.underlying45
  a27 := Try.isAgg45
  z27 := Try.sizeOf45
  v27 := Try.zeroValue45
  t28 := Try.underlying46
  a28 := Try.isAgg46
  z28 := Try.sizeOf46
  v28 := Try.zeroValue46
  t33 := Try.underlying27
  a33 := Try.isAgg27
  z33 := Try.sizeOf27
  v33 := Try.zeroValue27 }
def Try.sorted25_ren : Go.Shelf.Ren := ⟨fun | 6 => 25 | 8 => 27 | 9 => 28 | 11 => 30 | 13 => 32 | 12 => 31 | 23 => 42 | 24 => 43 | 14 => 33 | 15 => 34 | 16 => 35 | 17 => 36 | 18 => 37 | 19 => 38 | 20 => 39 | 21 => 40 | 22 => 41 | 25 => 44 | 26 => 45 | 27 => 46 | 28 => 47 | 29 => 48 | 30 => 49 | 31 => 50 | n => n, fun | 26 => 9 | 28 => 46 | 24 => 22 | 0 => 0 | 3 => 3 | 37 => 54 | 48 => 65 | 50 => 67 | 4 => 4 | 40 => 57 | 39 => 56 | 45 => 62 | 5 => 5 | 9 => 9 | 51 => 68 | 55 => 72 | 57 => 74 | 58 => 75 | 33 => 27 | n => n, fun | n => n⟩
theorem Try.sorted25 : Go.Proofs.SlLaysZ.n6 Try.prog Try.sorted25_ren := {
  mixed := by kernel_rfl
  f6 := ⟨Try.f25.name, by decide, Try.func25.trans (congrArg some (by kernel_rfl))⟩
  f8 := ⟨Try.f27.name, by decide, Try.func27.trans (congrArg some (by kernel_rfl))⟩
  f11 := ⟨Try.f30.name, by decide, Try.func30.trans (congrArg some (by kernel_rfl))⟩
  t0 := Try.underlying0
  a0 := Try.isAgg0
  z0 := Try.sizeOf0
  v0 := Try.zeroValue0
  t24 := Try.underlying22
  a24 := Try.isAgg22
  z24 := Try.sizeOf22
  v24 := Try.zeroValue22
  t26 := Try.underlying9
  a26 := Try.isAgg9
  z26 := Try.sizeOf9
  v26 := Try.zeroValue9
  t28 := Try.underlying46
  a28 := Try.isAgg46
  z28 := Try.sizeOf46
  v28 := Try.zeroValue46
  i26 := by kernel_rfl }
def Try.sort28_ren : Go.Shelf.Ren := ⟨fun | 6 => 28 | 8 => 32 | 9 => 31 | 19 => 42 | 20 => 43 | 21 => 33 | 22 => 34 | 23 => 35 | 24 => 36 | 25 => 37 | 26 => 38 | 27 => 39 | 28 => 40 | 29 => 41 | 36 => 44 | 31 => 45 | 32 => 46 | 37 => 47 | 38 => 48 | 39 => 49 | 41 => 50 | n => n, fun | 27 => 22 | 29 => 9 | 3 => 3 | 32 => 54 | 26 => 22 | 0 => 0 | 44 => 65 | 46 => 67 | 4 => 4 | 36 => 57 | 35 => 56 | 41 => 62 | 5 => 5 | 9 => 9 | 53 => 68 | 57 => 72 | 63 => 74 | 64 => 75 | n => n, fun | n => n⟩
theorem Try.sort28 : Go.Proofs.SlLaysM.n6 Try.prog Try.sort28_ren := {
  mixed := by kernel_rfl
  f6 := ⟨Try.f28.name, by decide, Try.func28.trans (congrArg some (by kernel_rfl))⟩
  f8 := Try.func32.trans (congrArg some (by kernel_rfl))
  f9 := ⟨Try.f31.name, by decide, Try.func31.trans (congrArg some (by kernel_rfl))⟩
  f19 := Try.func42.trans (congrArg some (by kernel_rfl))
  f20 := Try.func43.trans (congrArg some (by kernel_rfl))
  f21 := ⟨Try.f33.name, by decide, Try.func33.trans (congrArg some (by kernel_rfl))⟩
  f22 := ⟨Try.f34.name, by decide, Try.func34.trans (congrArg some (by kernel_rfl))⟩
  f23 := ⟨Try.f35.name, by decide, Try.func35.trans (congrArg some (by kernel_rfl))⟩
  f24 := ⟨Try.f36.name, by decide, Try.func36.trans (congrArg some (by kernel_rfl))⟩
  f25 := ⟨Try.f37.name, by decide, Try.func37.trans (congrArg some (by kernel_rfl))⟩
  f26 := ⟨Try.f38.name, by decide, Try.func38.trans (congrArg some (by kernel_rfl))⟩
  f27 := ⟨Try.f39.name, by decide, Try.func39.trans (congrArg some (by kernel_rfl))⟩
  f28 := ⟨Try.f40.name, by decide, Try.func40.trans (congrArg some (by kernel_rfl))⟩
  f29 := ⟨Try.f41.name, by decide, Try.func41.trans (congrArg some (by kernel_rfl))⟩
  f31 := Try.func45.trans (congrArg some (by kernel_rfl))
  f32 := Try.func46.trans (congrArg some (by kernel_rfl))
  f36 := ⟨Try.f44.name, by decide, Try.func44.trans (congrArg some (by kernel_rfl))⟩
  f37 := ⟨Try.f47.name, by decide, Try.func47.trans (congrArg some (by kernel_rfl))⟩
  f38 := ⟨Try.f48.name, by decide, Try.func48.trans (congrArg some (by kernel_rfl))⟩
  f39 := ⟨Try.f49.name, by decide, Try.func49.trans (congrArg some (by kernel_rfl))⟩
  f41 := ⟨Try.f50.name, by decide, Try.func50.trans (congrArg some (by kernel_rfl))⟩
  t0 := Try.underlying0
  a0 := Try.isAgg0
  z0 := Try.sizeOf0
  v0 := Try.zeroValue0
  t3 := Try.underlying3
  a3 := Try.isAgg3
  z3 := Try.sizeOf3
  v3 := Try.zeroValue3
  t4 := Try.underlying4
  a4 := Try.isAgg4
  z4 := Try.sizeOf4
  v4 := Try.zeroValue4
  t5 := Try.underlying5
  a5 := Try.isAgg5
  z5 := Try.sizeOf5
  v5 := Try.zeroValue5
  t9 := Try.underlying9
  a9 := Try.isAgg9
  z9 := Try.sizeOf9
  v9 := Try.zeroValue9
  t26 := Try.underlying22
  a26 := Try.isAgg22
  z26 := Try.sizeOf22
  v26 := Try.zeroValue22
  t27 := Try.underlying22
  a27 := Try.isAgg22
  z27 := Try.sizeOf22
  v27 := Try.zeroValue22
  t29 := Try.underlying9
  a29 := Try.isAgg9
  z29 := Try.sizeOf9
  v29 := Try.zeroValue9
  t32 := Try.underlying54
  a32 := Try.isAgg54
  z32 := Try.sizeOf54
  v32 := Try.zeroValue54
  t35 := Try.underlying56
  a35 := Try.isAgg56
  z35 := Try.sizeOf56
  v35 := Try.zeroValue56
  t36 := Try.underlying57
  a36 := Try.isAgg57
  z36 := Try.sizeOf57
  v36 := Try.zeroValue57
  t41 := Try.underlying62
  a41 := Try.isAgg62
  z41 := Try.sizeOf62
  v41 := Try.zeroValue62
  t44 := Try.underlying65
  a44 := Try.isAgg65
  z44 := Try.sizeOf65
  v44 := Try.zeroValue65
  t46 := Try.underlying67
  a46 := Try.isAgg67
  z46 := Try.sizeOf67
  v46 := Try.zeroValue67
  t53 := Try.underlying68
  a53 := Try.isAgg68
  z53 := Try.sizeOf68
  v53 := Try.zeroValue68
  t57 := Try.underlying72
  a57 := Try.isAgg72
  z57 := Try.sizeOf72
  v57 := Try.zeroValue72
  t63 := Try.underlying74
  a63 := Try.isAgg74
  z63 := Try.sizeOf74
  v63 := Try.zeroValue74
  t64 := Try.underlying75
  a64 := Try.isAgg75
  z64 := Try.sizeOf75
  v64 := Try.zeroValue75 }
/-- slices.Sort's two contracts at this dump -/
theorem sorts_net (m : Nat) : AnyZ.SortsIn Try.prog Try.sorted25_ren Fence.wide m :=
  ⟨fun blk off cap ss W hH hblk hsz => callsIn_wide.2 (AnyM.slices_Sort_string Try.sort28 blk off cap ss W hH hblk hsz),
   fun p cap W => callsIn_wide.2 (AnyM.slices_Sort_string_none Try.sort28 p cap W)⟩
theorem keys_net (mb : Nat) (W : World) : Calls Try.prog 26 #[.map (some mb)] W (fun e w' => e = .returned (.func (.func 29) #[] #[.pointer (some ⟨W.heap.size, 0, none⟩)]) ∧ Blk w' W.heap.size 41 [.map (some mb)] ∧ Kept (fun _ => False) W w') :=
  ((callsIn_wide (n := 5)).1 (AnyZ.keys_in Try.keys26 Fence.wide 5 trivial rfl (some mb) W)).mono fun e w' ⟨h1, h2⟩ => by
    subst h2
    exact ⟨h1, Blk.new W 41 [.map (some mb)], (Kept.refl _ W).alloc _⟩
/-- a list of texts that the call made: its cells -/
def TextsIn (w w' : World) (A : Option Addr) (l : List (List UInt8)) : Prop := ∀ j x, l[j]? = some x → ∃ g, A = some ⟨g, 0, none⟩ ∧ w.heap.size ≤ g ∧ g < w'.heap.size ∧ w'.cell? ⟨g, 0 + j * 1, none⟩ = some (.string (bs x))
theorem sorted_net (mb g : Nat) (cs : List NE) (ck : Nat) (W : World) (hB : Blk W g 41 [.map (some mb)]) (hN : NapAt W mb cs ck) (ok : NetOk cs ck) :
    Calls Try.prog 25 #[.func (.func 29) #[] #[.pointer (some ⟨g, 0, none⟩)]] W (fun e w' => ∃ A cp, e = .returned (.slice A cs.length cp) ∧ TextsIn W w' A (ksN cs) ∧ Kept (fun _ => False) W w') := by
  obtain ⟨D0, hown, hsz, hpm⟩ := net_owns (k := 9) (P := Try.prog) (by kernel_rfl) hN ok
  have h64 := ok.le64
  have hseq : SeqGives Fence.wide 2 Try.prog 29 #[.pointer (some ⟨g, 0, none⟩)] encStr (fun ss => ss.Perm (strKeys D0)) (Maps.size D0) W :=
    AnyZ.keys_gives (ρ := Try.keys26_ren) { Try.keys26 with } Fence.wide _ trivial rfl (by omega) g mb cs.length D0 W hB.lt (hB.cell 0) hown
  have h := AnyZ.sorted_in Try.sorted25 Fence.wide 5 trivial trivial trivial trivial rfl (by omega) (sorts_net _) (enters_of Try.func28 (by kernel_rfl) rfl) 29 #[.pointer (some ⟨g, 0, none⟩)] trivial (enters_of Try.func29 (by kernel_rfl) rfl) _ _ (by rw [hsz]; exact Nat.le_trans h64.1 (by decide)) (by rw [hsz]; omega) _ hseq
  refine ((callsIn_wide (n := 5)).1 h).mono fun e w' ⟨v, ss, he, hss, hrow, hnil, hb⟩ => ?_
  have hp2 : ss.Perm (cs.map (fun c => kb c.k)) := hss.trans hpm
  have hks : ss.mergeSort (fun x y => decide (x ≤ y)) = ksN cs := mergeSort_of_perm hp2
  have hlen : ss.length = cs.length := by rw [hp2.length_eq, List.length_map]
  have hkept : Kept (fun _ => False) W w' := ⟨hb.os, hb.tape, hb.output, hb.size, fun k hk _ => hb.block k hk⟩
  rw [hks, hlen] at hrow
  rcases hrow.2 with ⟨rfl, h0⟩ | ⟨g', cap, cur, rfl, h1, h2, _⟩
  · refine ⟨none, 0, by rw [he, h0], fun j x hj => ?_, hkept⟩
    have := (List.getElem?_eq_some_iff.1 hj).1
    omega
  · refine ⟨some ⟨g', 0, none⟩, cap, he, fun j x hj => ⟨g', rfl, h1, (Array.getElem?_eq_some_iff.1 h2).1, ?_⟩, hkept⟩
    have h3 := World.ownsRow.cells hrow (g := g') rfl j (encStr x) (by rw [List.getElem?_map, hj]; rfl)
    rw [add_norm] at h3
    rw [Nat.mul_one]
    exact h3
end Go.Proofs.Ythndmmondlpghaa
