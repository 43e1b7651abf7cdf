import Derived.Test.YtfiheghjhgnblaaLastL
import Derived.Test.YtfiheghjhgnblaaNodeA
import Derived.Shelf.Sort.Plain
import Derived.Shelf.Slices.In.SortNone
import Derived.Sort.OwnSortedInts
import Derived.Test.YtfiheghjhgnblaaPlatH
import Derived.Test.YtfiheghjhgnblaaProg
namespace Go.Proofs.Ytfiheghjhgnblaa
open Go.RowKit
theorem MemOk.perm {w0 w:World} {S:Nat → Prop} {bk bk':List Bk} {wn:List Wn} {sz:Nat} (h:MemOk w0 S bk wn sz w) (hp:bk'.Perm bk):MemOk w0 S bk' wn sz w:=
 ⟨h.size,fun b hb=>h.blk b (hp.mem_iff.1 hb),fun b hb=>h.own b (hp.mem_iff.1 hb),(hp.map _).nodup_iff.2 h.nd,h.kept,h.win⟩
theorem got_arm {M:Pl} {d:Int} (hd:0 ≤ d ∧ d ≤ 3) (k:Int):gotM (armPl M d) k = gotM M k:=by
 rw [arm_is hd]
 rfl
theorem LmPl.serv {lb mb n:Nat} {M:Pl} (h:LmPl lb mb n M) (q:AskM):LmPl lb mb n (servPl M q):=by
 unfold servPl
 cases recB (behM M q) (gotM M q.stripe)
 ·exact h.set _ _
 ·exact h
theorem set_whole {lb mb n:Nat} {c d:Int} {M:Pl} {B:Int} {r:RecM} (h:ClPl lb mb n c M) (hd:0 ≤ d ∧ d ≤ 3) (hE:setE (armPl M d) B r = 0):(setPl (armPl M d) B r).cs = []:=by
 rw [arm_is hd] at hE ⊢
 have ho:=h.on.off
 obtain ⟨lb',mb',n',last,cs,ck,off,a,arm⟩:=M
 have e4:off = false:=ho
 subst e4
 have hd4:d = 0 ∨ d = 1 ∨ d = 2 ∨ d = 3:=by omega
 rcases hd4 with rfl | rfl | rfl | rfl
 ·rfl
 ·exact absurd (show (70:Int) = 0 from hE) (by decide)
 ·exact absurd (show (70:Int) = 0 from hE) (by decide)
 ·rfl
theorem restart_none {M:Pl} (h1:M.cs = []) (h2:M.off = false) (h3:M.armed = 0) (keep:Nat → Bool):restartPl M keep = M:=by
 obtain ⟨lb',mb',n',last,cs,ck,off,a,arm⟩:=M
 dsimp only at h1 h2 h3
 subst h1 h2 h3
 show Pl.mk lb' mb' n' (ovl last []) [] ck false a 0 = _
 rw [ovl_nil]
theorem serv_step {lb mb n pb:Nat} {c d:Int} {M:Pl} {q:AskM} {r x:RecM} {s:SayR} (h:ClPl lb mb n c M) (hp:PlOk pb M) (hd:0 ≤ d ∧ d ≤ 3) (hq:AskOk q) (hn:q.stripe < (n:Int)) (hr:gotM M q.stripe = r) (hx:applyM r q = (x,s)) (keep:Nat → Bool) :
  (servOk (armPl M d) q = true ∧ servS (armPl M d) q = s ∧ (servPl (armPl M d) q).off = false ∧ ClPl lb mb n (c + 2) (armPl (servPl (armPl M d) q) 0) ∧ gotM (armPl (servPl (armPl M d) q) 0) q.stripe = x) ∨
  (servOk (armPl M d) q = false ∧ servS (armPl M d) q = ⟨0,0,0,blankR 0⟩ ∧ (servPl (armPl M d) q).off = true ∧ ClPl lb mb n (c + 2) (restartPl (armPl (servPl (armPl M d) q) 0) keep) ∧ (gotM (restartPl (armPl (servPl (armPl M d) q) 0) keep) q.stripe = r ∨ gotM (restartPl (armPl (servPl (armPl M d) q) 0) keep) q.stripe = x)):=by
 have hg:gotM (armPl M d) q.stripe = r:=(got_arm hd _).trans hr
 have hb:behM (armPl M d) q = x:=by
  unfold behM
  rw [hg,hx]
 have hrk:RecOk r:=hr ▸ got_ok M q.stripe hq.stripe
 have hxk:RecOk x:=by
  have h1:=apply_ok hrk hq
  rw [hx] at h1
  exact h1
 have hall:=last_step (r:=x) h hp hd hxk hq.stripe hn keep
 cases hrec:recB x r with
 | true=>
  have hxr:=(recB_iff x r).1 hrec
  have hok:servOk (armPl M d) q = true:=by
   unfold servOk
   rw [hb,hg,hrec]
   rfl
  have hpl:servPl (armPl M d) q = armPl M d:=by
   unfold servPl
   rw [hb,hg,hrec]
   rfl
  have hsy:servS (armPl M d) q = s:=by
   unfold servS
   rw [hok,hg,hx]
   rfl
  have ha:armPl (armPl M d) 0 = M:=by
   rw [arm_is hd,arm_is (by omega)]
   have h1:=h.on.armed
   obtain ⟨a1,a2,a3,a4,a5,a6,a7,a8,a9⟩:=M
   dsimp only at h1
   rw [h1]
  refine .inl ⟨hok,hsy,?_,?_,?_⟩
  ·rw [hpl,arm_is hd]
   exact h.on.off
  ·rw [hpl,ha]
   exact ⟨h.on.le (by omega),h.cs⟩
  ·rw [hpl,ha,hr,hxr]
 | false=>
  have hpl:servPl (armPl M d) q = setPl (armPl M d) q.stripe x:=by
   unfold servPl
   rw [hb,hg,hrec]
   rfl
  have hok:servOk (armPl M d) q = (setE (armPl M d) q.stripe x == 0):=by
   unfold servOk
   rw [hb,hg,hrec]
   rfl
  rw [hpl]
  obtain ⟨h1,_,h3⟩:=hall
  rcases h3 with ⟨hE,hF,hG⟩ | ⟨hE,hF,hG⟩
  ·have hok2:servOk (armPl M d) q = true:=by rw [hok,hE]; rfl
   have hsy:servS (armPl M d) q = s:=by
    unfold servS
    rw [hok2,hg,hx]
    rfl
   have hc0:=set_whole (B:=q.stripe) (r:=x) h hd hE
   have e:=restart_none (M:=armPl (setPl (armPl M d) q.stripe x) 0) (by rw [arm_is (by omega)]; exact hc0) (by rw [arm_is (by omega)]; exact hF) (by rw [arm_is (by omega)]) keep
   rw [e] at h1 hG
   exact .inl ⟨hok2,hsy,hF,h1,hG⟩
  ·have hok2:servOk (armPl M d) q = false:=by rw [hok,hE]; rfl
   have hsy:servS (armPl M d) q = ⟨0,0,0,blankR 0⟩:=by
    unfold servS
    rw [hok2]
    rfl
   exact .inr ⟨hok2,hsy,hF,h1,hG.imp (fun e=>e.trans hr) id⟩
theorem arm_none {lb mb n:Nat} {c:Int} {M:Pl} (h:ClPl lb mb n c M):armPl M 0 = M:=by
 rw [arm_is (by omega)]
 have h1:=h.on.armed
 obtain ⟨a1,a2,a3,a4,a5,a6,a7,a8,a9⟩:=M
 dsimp only at h1
 rw [h1]
end Go.Proofs.Ytfiheghjhgnblaa
namespace Go.Proofs.Ytfiheghjhgnblaa
open Go.Shelf Go.RowKit Go.Sort
def Try.lays189_ren:Go.Shelf.Ren:=⟨fun | 189=>49 | 125=>71 | 257=>70 | 128=>92 | 129=>93 | 294=>83 | 295=>84 | 296=>85 | 297=>86 | 298=>87 | 299=>88 | 216=>89 | 300=>90 | 301=>91 | 328=>97 | 329=>98 | 330=>99 | 331=>100 | 332=>101 | 215=>102 | 343=>103 | n=>n,fun | 28=>39 | 3=>3 | 46=>96 | 0=>0 | 51=>119 | 53=>122 | 4=>4 | 183=>130 | 182=>129 | 131=>135 | 5=>5 | 9=>9 | 218=>143 | 222=>114 | 228=>148 | 229=>149 | n=>n,fun | n=>n⟩
theorem Try.lays189:Go.Proofs.Lays.n189 Try.prog Try.lays189_ren:={
 mixed:=by kernel_rfl
 f125:=Try.func71.trans (congrArg some (by kernel_rfl))
 f128:=Try.func92.trans (congrArg some (by kernel_rfl))
 f129:=Try.func93.trans (congrArg some (by kernel_rfl))
 f189:=Try.func49.trans (congrArg some (by kernel_rfl))
 f215:=Try.func102.trans (congrArg some (by kernel_rfl))
 f216:=Try.func89.trans (congrArg some (by kernel_rfl))
 f257:=Try.func70.trans (congrArg some (by kernel_rfl))
 f294:=Try.func83.trans (congrArg some (by kernel_rfl))
 f295:=Try.func84.trans (congrArg some (by kernel_rfl))
 f296:=Try.func85.trans (congrArg some (by kernel_rfl))
 f297:=Try.func86.trans (congrArg some (by kernel_rfl))
 f298:=Try.func87.trans (congrArg some (by kernel_rfl))
 f299:=Try.func88.trans (congrArg some (by kernel_rfl))
 f300:=Try.func90.trans (congrArg some (by kernel_rfl))
 f301:=Try.func91.trans (congrArg some (by kernel_rfl))
 f328:=Try.func97.trans (congrArg some (by kernel_rfl))
 f329:=Try.func98.trans (congrArg some (by kernel_rfl))
 f330:=Try.func99.trans (congrArg some (by kernel_rfl))
 f331:=Try.func100.trans (congrArg some (by kernel_rfl))
 f332:=Try.func101.trans (congrArg some (by kernel_rfl))
 f343:=Try.func103.trans (congrArg some (by kernel_rfl))
 t0:=Try.underlying0
 a0:=Try.isAgg0
 z0:=Try.sizeOf0
 v0:=Try.zeroValue0
 t3:=Try.underlying3
 a3:=Try.isAgg3
 z3:=Try.sizeOf3
 v3:=Try.zeroValue3
 t4:=Try.underlying4
 a4:=Try.isAgg4
 z4:=Try.sizeOf4
 v4:=Try.zeroValue4
 t5:=Try.underlying5
 a5:=Try.isAgg5
 z5:=Try.sizeOf5
 v5:=Try.zeroValue5
 t9:=Try.underlying9
 a9:=Try.isAgg9
 z9:=Try.sizeOf9
 v9:=Try.zeroValue9
 t28:=Try.underlying39
 a28:=Try.isAgg39
 z28:=Try.sizeOf39
 v28:=Try.zeroValue39
 t46:=Try.underlying96
 a46:=Try.isAgg96
 z46:=Try.sizeOf96
 v46:=Try.zeroValue96
 t51:=Try.underlying119
 a51:=Try.isAgg119
 z51:=Try.sizeOf119
 v51:=Try.zeroValue119
 t53:=Try.underlying122
 a53:=Try.isAgg122
 z53:=Try.sizeOf122
 v53:=Try.zeroValue122
 t131:=Try.underlying135
 a131:=Try.isAgg135
 z131:=Try.sizeOf135
 v131:=Try.zeroValue135
 t182:=Try.underlying129
 a182:=Try.isAgg129
 z182:=Try.sizeOf129
 v182:=Try.zeroValue129
 t183:=Try.underlying130
 a183:=Try.isAgg130
 z183:=Try.sizeOf130
 v183:=Try.zeroValue130
 t218:=Try.underlying143
 a218:=Try.isAgg143
 z218:=Try.sizeOf143
 v218:=Try.zeroValue143
 t222:=Try.underlying114
 a222:=Try.isAgg114
 z222:=Try.sizeOf114
 v222:=Try.zeroValue114
 t228:=Try.underlying148
 a228:=Try.isAgg148
 z228:=Try.sizeOf148
 v228:=Try.zeroValue148
 t229:=Try.underlying149
 a229:=Try.isAgg149
 z229:=Try.sizeOf149
 v229:=Try.zeroValue149 }
theorem Try.slices_Sort_int (blk off cap:Nat) (zs:List Int) (w:World) (hH:Go.Sort.Holds (Value.int .i64) w blk off zs.toArray) (hblk:blk < w.heap.size) (hsz:zs.length < 4611686018427387904) :
  Calls Try.prog 49 #[.slice (some ⟨blk,off,none⟩) zs.length cap] w fun e w'=>
   e = .returned (.tuple #[]) ∧ ∃ n os,w' = grow (putRow (Value.int .i64) (Sort.ahead w n) blk off (zs.mergeSort fun x y=>decide (x ≤ y)).toArray) os:=Any.slices_Sort_int Try.lays189 blk off cap zs w hH hblk hsz
theorem Try.slices_Sort_int_none (p:Option Addr) (cap:Nat) (w:World) :
  Calls Try.prog 49 #[.slice p 0 cap] w fun e w'=>e = .returned (.tuple #[]) ∧ w' = w:=Any.slices_Sort_int_none Try.lays189 p cap w
theorem sort_own (w:World) (base:Nat) (e:TypeId) (A:Option Addr) (n cp:Nat) (ys:List Int) (hn:n ≤ 64) (h:OwnI w base e A n cp ys) :
  Calls Try.prog 49 #[.slice A n cp] w (fun en w'=>en = .returned (.tuple #[]) ∧ OwnI w' base e A n cp (sortI ys) ∧ Kept (ownB A) w w'):=by
 have hl:=h.len
 rcases h.2 with ⟨hv,h0⟩ | ⟨g,cap,cur,hv,h1,h2,h3,h4,h5,h6⟩
 ·subst h0
  have hy:ys = []:=List.eq_nil_of_length_eq_zero hl
  subst hy
  exact (Try.slices_Sort_int_none A cp w).mono fun en w' ⟨he,hw⟩=>⟨he,by subst hw; rw [show sortI [] = [] by simp [sortI]]; exact h,by subst hw; exact Kept.refl _ _⟩
 ·simp only [Value.slice.injEq] at hv
  obtain ⟨rfl,_,rfl⟩:=hv
  subst hl
  refine (Try.slices_Sort_int g 0 cp ys w (holds_of_blockI h2 (by simpa using h6)) (Array.getElem?_eq_some_iff.1 h2).1 (by omega)).mono fun en w' ⟨he,m,os,hw⟩=>?_
  subst hw
  refine ⟨he,?_,kept_grown (v:=.slice (some ⟨g,0,none⟩) ys.length cp) (grownBy_sortedI _) rfl⟩
  exact ownsRow_sortedI (ss:=ys) (ts:=sortI ys) (sortI_len ys) h1 h2 h3 h4 h5
end Go.Proofs.Ytfiheghjhgnblaa
