import Derived.Shelf.Sort.Plain
import Derived.Shelf.Slices.In.SortNone
import Derived.Sort.OwnSortedInts
import Derived.Test.YtpilmccjjbgmiaaPlatH
import Derived.Test.YtpilmccjjbgmiaaProg
namespace Go.Proofs.Ytpilmccjjbgmiaa
open Go.Shelf Go.RowKit Go.Sort
def Try.lays189_ren:Go.Shelf.Ren:=⟨fun | 189=>77 | 125=>86 | 257=>85 | 128=>98 | 129=>99 | 294=>89 | 295=>90 | 296=>91 | 297=>92 | 298=>93 | 299=>94 | 216=>95 | 300=>96 | 301=>97 | 328=>100 | 329=>101 | 330=>102 | 331=>103 | 332=>104 | 215=>105 | 343=>106 | n=>n,fun | 28=>52 | 3=>3 | 46=>81 | 0=>0 | 51=>118 | 53=>121 | 4=>4 | 183=>132 | 182=>131 | 131=>137 | 5=>5 | 9=>9 | 218=>141 | 222=>80 | 228=>146 | 229=>147 | n=>n,fun | n=>n⟩
theorem Try.lays189:Go.Proofs.Lays.n189 Try.prog Try.lays189_ren:={
 mixed:=by kernel_rfl
 f125:=Try.func86.trans (congrArg some (by kernel_rfl))
 f128:=Try.func98.trans (congrArg some (by kernel_rfl))
 f129:=Try.func99.trans (congrArg some (by kernel_rfl))
 f189:=Try.func77.trans (congrArg some (by kernel_rfl))
 f215:=Try.func105.trans (congrArg some (by kernel_rfl))
 f216:=Try.func95.trans (congrArg some (by kernel_rfl))
 f257:=Try.func85.trans (congrArg some (by kernel_rfl))
 f294:=Try.func89.trans (congrArg some (by kernel_rfl))
 f295:=Try.func90.trans (congrArg some (by kernel_rfl))
 f296:=Try.func91.trans (congrArg some (by kernel_rfl))
 f297:=Try.func92.trans (congrArg some (by kernel_rfl))
 f298:=Try.func93.trans (congrArg some (by kernel_rfl))
 f299:=Try.func94.trans (congrArg some (by kernel_rfl))
 f300:=Try.func96.trans (congrArg some (by kernel_rfl))
 f301:=Try.func97.trans (congrArg some (by kernel_rfl))
 f328:=Try.func100.trans (congrArg some (by kernel_rfl))
 f329:=Try.func101.trans (congrArg some (by kernel_rfl))
 f330:=Try.func102.trans (congrArg some (by kernel_rfl))
 f331:=Try.func103.trans (congrArg some (by kernel_rfl))
 f332:=Try.func104.trans (congrArg some (by kernel_rfl))
 f343:=Try.func106.trans (congrArg some (by kernel_rfl))
 t0:=Try.underlying0
 a0:=Try.isAgg0
 z0:=Try.sizeOf0
 v0:=Try.zeroValue0
 t3:=Try.underlying3
 a3:=Try.isAgg3
 z3:=Try.sizeOf3
 v3:=Try.zeroValue3
 t4:=Try.underlying4
 a4:=Try.isAgg4
 z4:=Try.sizeOf4
 v4:=Try.zeroValue4
 t5:=Try.underlying5
 a5:=Try.isAgg5
 z5:=Try.sizeOf5
 v5:=Try.zeroValue5
 t9:=Try.underlying9
 a9:=Try.isAgg9
 z9:=Try.sizeOf9
 v9:=Try.zeroValue9
 t28:=Try.underlying52
 a28:=Try.isAgg52
 z28:=Try.sizeOf52
 v28:=Try.zeroValue52
 t46:=Try.underlying81
 a46:=Try.isAgg81
 z46:=Try.sizeOf81
 v46:=Try.zeroValue81
 t51:=Try.underlying118
 a51:=Try.isAgg118
 z51:=Try.sizeOf118
 v51:=Try.zeroValue118
 t53:=Try.underlying121
 a53:=Try.isAgg121
 z53:=Try.sizeOf121
 v53:=Try.zeroValue121
 t131:=Try.underlying137
 a131:=Try.isAgg137
 z131:=Try.sizeOf137
 v131:=Try.zeroValue137
 t182:=Try.underlying131
 a182:=Try.isAgg131
 z182:=Try.sizeOf131
 v182:=Try.zeroValue131
 t183:=Try.underlying132
 a183:=Try.isAgg132
 z183:=Try.sizeOf132
 v183:=Try.zeroValue132
 t218:=Try.underlying141
 a218:=Try.isAgg141
 z218:=Try.sizeOf141
 v218:=Try.zeroValue141
 t222:=Try.underlying80
 a222:=Try.isAgg80
 z222:=Try.sizeOf80
 v222:=Try.zeroValue80
 t228:=Try.underlying146
 a228:=Try.isAgg146
 z228:=Try.sizeOf146
 v228:=Try.zeroValue146
 t229:=Try.underlying147
 a229:=Try.isAgg147
 z229:=Try.sizeOf147
 v229:=Try.zeroValue147 }
theorem Try.slices_Sort_int (blk off cap:Nat) (zs:List Int) (w:World) (hH:Go.Sort.Holds (Value.int .i64) w blk off zs.toArray) (hblk:blk < w.heap.size) (hsz:zs.length < 4611686018427387904) :
  Calls Try.prog 77 #[.slice (some ⟨blk,off,none⟩) zs.length cap] w fun e w'=>
   e = .returned (.tuple #[]) ∧ ∃ n os,w' = grow (putRow (Value.int .i64) (Sort.ahead w n) blk off (zs.mergeSort fun x y=>decide (x ≤ y)).toArray) os:=Any.slices_Sort_int Try.lays189 blk off cap zs w hH hblk hsz
theorem Try.slices_Sort_int_none (p:Option Addr) (cap:Nat) (w:World) :
  Calls Try.prog 77 #[.slice p 0 cap] w fun e w'=>e = .returned (.tuple #[]) ∧ w' = w:=Any.slices_Sort_int_none Try.lays189 p cap w
theorem sort_own (w:World) (base:Nat) (e:TypeId) (A:Option Addr) (n cp:Nat) (ys:List Int) (hn:n ≤ 64) (h:OwnI w base e A n cp ys) :
  Calls Try.prog 77 #[.slice A n cp] w (fun en w'=>en = .returned (.tuple #[]) ∧ OwnI w' base e A n cp (sortI ys) ∧ Kept (ownB A) w w'):=by
 have hl:=h.len
 rcases h.2 with ⟨hv,h0⟩ | ⟨g,cap,cur,hv,h1,h2,h3,h4,h5,h6⟩
 ·subst h0
  have hy:ys = []:=List.eq_nil_of_length_eq_zero hl
  subst hy
  exact (Try.slices_Sort_int_none A cp w).mono fun en w' ⟨he,hw⟩=>⟨he,by subst hw; rw [show sortI [] = [] by simp [sortI]]; exact h,by subst hw; exact Kept.refl _ _⟩
 ·simp only [Value.slice.injEq] at hv
  obtain ⟨rfl,_,rfl⟩:=hv
  subst hl
  refine (Try.slices_Sort_int g 0 cp ys w (holds_of_blockI h2 (by simpa using h6)) (Array.getElem?_eq_some_iff.1 h2).1 (by omega)).mono fun en w' ⟨he,m,os,hw⟩=>?_
  subst hw
  refine ⟨he,?_,kept_grown (v:=.slice (some ⟨g,0,none⟩) ys.length cp) (grownBy_sortedI _) rfl⟩
  exact ownsRow_sortedI (ss:=ys) (ts:=sortI ys) (sortI_len ys) h1 h2 h3 h4 h5
end Go.Proofs.Ytpilmccjjbgmiaa
