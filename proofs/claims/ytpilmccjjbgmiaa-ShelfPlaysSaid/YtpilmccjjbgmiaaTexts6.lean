import Derived.Test.YtpilmccjjbgmiaaRaw8
import Derived.Test.YtpilmccjjbgmiaaRefS8
import Derived.Test.YtpilmccjjbgmiaaPlat5
import Derived.Test.YtpilmccjjbgmiaaRefP7
import Derived.Test.YtpilmccjjbgmiaaLawM
import Derived.Test.YtpilmccjjbgmiaaEngU
import Derived.Test.YtpilmccjjbgmiaaEngZ
import Derived.Test.YtpilmccjjbgmiaaProg
namespace Go.Proofs.Ytpilmccjjbgmiaa
open Go.RowKit
structure Act8 where
 (what stripe nn:Int)
 raw:Raw8
 text:ByteArray
 ka:Option Addr
 (kn kc:Nat)
def Act8.cells (x:Act8):List Value:=[.int .i64 x.what,.int .i64 x.stripe,.int .i64 x.nn,.int .i64 x.raw.flags,.int .i64 x.raw.fence,.int .i64 x.raw.epoch,.int .i64 x.raw.seq,.int .i64 x.raw.ie,.int .i64 x.raw.is,.int .i64 x.raw.mask,.string x.raw.block,.string x.raw.staged,.string x.text,.slice x.ka x.kn x.kc]
structure Act8Ok (x:Act8):Prop where
 what:I64 x.what
 stripe:I64 x.stripe
 nn:I64 x.nn
 raw:Raw8Ok x.raw
def Acts8At (w:World) (A:Option Addr) (n:Nat) (f:Nat → Act8):Prop:=∀ k,k < n → Act8Ok (f k) ∧ ∃ b o,A = some ⟨b,o,none⟩ ∧ b < w.heap.size ∧ ∀ j,j < 14 → w.cell? ⟨b,o + k * 14 + j,none⟩ = (f k).cells[j]?
theorem mine_arm (M:Pl) (pb:Nat) (d:Int):minePl pb (armPl M d) = minePl pb M:=by
 unfold armPl minePl
 split <;> rfl
theorem arm_n (M:Pl) (d:Int):(armPl M d).n = M.n ∧ (armPl M d).acts = M.acts:=by
 unfold armPl
 split <;> exact ⟨rfl,rfl⟩
theorem fmtG_n:∀ (m:Nat) (M:Pl) (k:Nat),(fmtG M k m).2.n = M.n
 | 0,_,_=>rfl
 | m + 1,M,k=>by
  unfold fmtG
  cases setE M k fmtR == 0
  ·exact set_n M k fmtR
  ·rw [cond_true,fmtG_n m]
   exact set_n M k fmtR
theorem setG_n (st:Int) (M:Pl) (k:Int) (r:RecM):(setGP st M k r).n = M.n:=by
 unfold setGP
 cases setOkB st k r
 ·rfl
 ·exact set_n M k r
theorem wr_n (M:Pl) (k:Int) (L:List Int):(wrPl M k L).n = M.n:=by
 have h:=actPl_with M
 unfold wrPl writePl
 split
 ·split <;> simp_all
 ·simp_all
theorem size_strL64 (s:ByteArray):(strL 64 s).size = 64:=by
 show (cutL 64 s).toArray.size = 64
 rw [List.size_toArray,length_cutL]
end Go.Proofs.Ytpilmccjjbgmiaa
namespace Go.Proofs.Ytpilmccjjbgmiaa
open Go.RowKit
def qi_v1 (g:G7) (R:Rf):List Value:=[.slice (some ⟨g.sg,0,none⟩) g.n g.sc,.slice (some ⟨g.lg,0,none⟩) g.n g.n,.slice (some ⟨g.hg,0,none⟩) g.n g.n,i6 R.acts,i6 R.armed,.bool R.off]
@[simp] def qi_b1 (g:G7) (R:Rf):List Bk:=[⟨g.qb,99,false,(qi_v1 g R)⟩,⟨g.sg,9,false,(strsR R.sure g.r)⟩]
set_option maxRecDepth 100000 in
set_option maxHeartbeats 4000000 in
theorem rimage_any (g:G7) (hk:g.Ok) (R:Rf) (w:World) (hR:RfAt 99 9 4 w g R) :
  Calls Try.prog 45 #[.pointer (some ⟨g.qb,0,none⟩)] w (fun e w'=>∃ A cp,e = .returned (.slice A g.n cp) ∧ OwnR w' w.heap.size 9 1 A g.n cp (strsV (R.sure.take g.n)) ∧ Kept (fun _=>False) w w'):=by
 refine calls_of_holds (S:=(fun _=>False)) (l:=[(pt g.qb 0)]) (n:=10) Try.func45 (body_of (by kernel_rfl)) rfl (by simp) (MemOk.start (bk:=(qi_b1 g R)) (wn:=[]) (by simpa using ⟨hR.p,hR.s⟩) (by simp) (by simpa using hk.a) (by simp)) ?_
 have hn1:=hk.n1
 have hls:=hR.ls
 refine hgE 18 [oh0,oh0,oh0,oh0,oh0,oh0,(oA 0 0 1)] [2,4,8] [] [(g.qb,0,1)] [.ops [1,1,0] [5,6],.code [1,1,1]] ⟨[(2,.slice none 0 0),(4,.slice none 0 0),(8,.slice (some ⟨g.sg,0,none⟩) g.n g.sc)],(qi_b1 g R),[],w.heap.size⟩ ?_
 refine holds_opY (w:=w) (S':=fun _=>False) (dst:=(some 9)) (x:=Builtin.append_ #[69,69] 69 #[.slice none 0 0,.slice (some ⟨g.sg,0,none⟩) g.n g.sc]) (fun y:Option Addr × Nat=>.slice y.1 g.n y.2) (fun y W3=>OwnR W3 w.heap.size 9 1 y.1 g.n y.2 (strsV (R.sure.take g.n))) (fun y=>(9,.slice y.1 g.n y.2) :: [(2,.slice none 0 0),(4,.slice none 0 0),(8,.slice (some ⟨g.sg,0,none⟩) g.n g.sc)]) (by kernel_rfl) (by kernel_rfl) (fun _=>rfl) (fun wx hm=>?_) (fun y W3 hX3 hm3=>?_)
 ·obtain ⟨A',cp',w',h1,h2,h3,h4⟩:=run_appendR (P:=Try.prog) wx w.heap.size 69 69 9 (.string ⟨#[]⟩) 1 16 none 0 0 [] ⟨g.sg,0,none⟩ g.n g.sc (strsV (R.sure.take g.n)) (by kernel_rfl) (by kernel_rfl) rfl (by decide) (OwnR.nil _ _ _ _) (by simp [strsV]; omega) (fun j x hj=>by
   rw [add_norm,Nat.zero_add]
   refine (hm.at_ 1 rfl).at_ ?_
   unfold strsR
   have hj':=hj
   rw [strsV,List.map_take,List.getElem?_take] at hj'
   split at hj'
   ·rw [List.getElem?_append_left (by simp [strsV]; omega)]
    exact hj'
   ·cases hj') (fun u hu=>by
   obtain ⟨s,_,rfl⟩:=List.mem_map.1 hu
   rfl) (by omega) (by decide) hm.kept.size
  rw [Nat.zero_add] at h1 h2
  exact ⟨(A',cp'),w',h1,h2,hm.off (fun _ h=>h) h3 (fun x ⟨a,ha,_⟩=>by cases ha) (fun b _ ⟨a,ha,_⟩=>by cases ha)⟩
 obtain ⟨A,cp⟩:=y
 have hown3:=hX3.own
 have hTn:∀ x,¬ Turned (qi_b1 g R) x:=by
  rintro x ⟨b,hb,hr,he⟩
  simp at hb
  rcases hb with rfl | rfl <;> simp at hr
 refine hgE 5 [oh0] [2] [] [] [.code [1,1,1]] ⟨[(2,.slice A g.n cp)],(qi_b1 g R),[],W3.heap.size⟩ ?_
 refine hrt [] [.slice A g.n cp] [] ?_
 intro wx hm
 exact ⟨A,cp,rfl,hX3.kept hm.kept (fun x _=>hTn x),(MemOk.back2 hm3 hm).kept⟩
end Go.Proofs.Ytpilmccjjbgmiaa
namespace Go.Proofs.Ytpilmccjjbgmiaa
open Go.RowKit
theorem block_lt {w:World} {g o:Nat} {v:Value} (h:w.cell? ⟨g,o,none⟩ = some v):g < w.heap.size:=World.block_lt_of_cell? w _ h
def tx6_n1:List Nat:=[1,1,0,1,0,0,1,0,0,0]
def Texts6I (ga gb cp cq n:Nat) (w:World) (m:Nat) (st:St):Prop:=∃ (i z:Nat),m + i = n ∧ w.heap.size ≤ z ∧ st = ⟨[(0,.slice (some ⟨ga,0,none⟩) n cp),(1,.slice (some ⟨gb,0,none⟩) n cq),(4,.bool false),(5,i6 (i:Int))],[],[],z⟩
theorem tx6_q5 (ga:Nat) (gb:Nat) (cp:Nat) (cq:Nat) (n:Nat) (i:Nat) (z:Nat) (fa:Nat → ByteArray) (w:World):Out.prune [0,1,4,5,25] (qListG Try.prog 26 w (fun _=>False) (opsOf (getCode (bodyOf Try.f43) tx6_n1)) (opsOf (getCode (bodyOf Try.f43) tx6_n1)).toList ⟨[(0,.slice (some ⟨ga,0,none⟩) n cp),(1,.slice (some ⟨gb,0,none⟩) n cq),(4,.bool false),(5,i6 (i:Int))],[],[⟨ga,0 + i * 1,[sT (fa i)]⟩,⟨gb,0 + i * 1,[sT (fa i)]⟩],z⟩ [(false,.op oh0),(false,.op oh0),(false,.op oh2),(false,.op ⟨false,0,[⟨true,0,0,1⟩]⟩),(false,.op oh0),(false,.op oh0),(false,.op oh2),(false,.op ⟨false,0,[⟨true,1,0,1⟩]⟩),(false,.op oh0)]) = some ⟨[(0:Int) ≤ (i:Int) ∧ (i:Int) < ((n:Nat):Int),(0:Int) ≤ (i:Int) ∧ (i:Int) < ((n:Nat):Int)],dupR [(ga,0 + i * 1,1),(gb,0 + i * 1,1)],⟨[(0,.slice (some ⟨ga,0,none⟩) n cp),(1,.slice (some ⟨gb,0,none⟩) n cq),(4,.bool false),(5,i6 (i:Int)),(25,.bool (!(ByteArray.toList (fa i) == ByteArray.toList (fa i))))],[],[⟨ga,0 + i * 1,[sT (fa i)]⟩,⟨gb,0 + i * 1,[sT (fa i)]⟩],z⟩⟩:=by kernel_rfl
set_option maxRecDepth 100000 in
set_option maxHeartbeats 4000000 in
theorem texts6_same (ga gb cp cq n:Nat) (hn:n ≤ 1048576) (fa:Nat → ByteArray) (w:World) (ha:∀ i,i < n → w.cell? ⟨ga,0 + i * 1,none⟩ = some (.string (fa i))) (hb:∀ i,i < n → w.cell? ⟨gb,0 + i * 1,none⟩ = some (.string (fa i))) :
  Calls Try.prog 43 #[.slice (some ⟨ga,0,none⟩) n cp,.slice (some ⟨gb,0,none⟩) n cq] w (RetK (.bool true) w):=by
 refine calls_of_holds (S:=(fun _=>False)) (l:=[.slice (some ⟨ga,0,none⟩) n cp,.slice (some ⟨gb,0,none⟩) n cq]) (n:=26) Try.func43 (body_of (by kernel_rfl)) rfl (by simp) (MemOk.none w _) ?_
 refine hgE 24 [oh0,oh0,oh0,oh0,oh0,oh0,oh0,oh0] [0,1,4,5] [oE (((n:Int) != (n:Int)) = false) (by simp)] [] [.code [1,1,0,1,0],.blk 0,.code [1,1,1]] ⟨[(0,.slice (some ⟨ga,0,none⟩) n cp),(1,.slice (some ⟨gb,0,none⟩) n cq),(4,.bool false),(5,i6 0)],[],[],w.heap.size⟩ ?_
 refine holds_loop (Texts6I ga gb cp cq n w) n (by kernel_rfl) ⟨0,_,rfl,Nat.le_refl _,rfl⟩ ?_
 rintro m' _ ⟨i,z,hmi,hz,rfl⟩ J hJ
 by_cases h1:i < n
 rotate_left
 ·skip
  refine hgE 17 [oh0,oh0,oh0,oh0,oh0,oh0] [4] [dF (((i:Int):Int) < (n:Int))] [] [.code [1,1,1,1]] ⟨[(4,.bool true)],[],[],z⟩ ?_
  refine hrt [] [.bool true] [] ?_
  intro wx hm
  exact ⟨rfl,hm.kept⟩
 refine holds_wins [⟨ga,0 + i * 1,[sT (fa i)]⟩,⟨gb,0 + i * 1,[sT (fa i)]⟩] (fun _ x hx=>?_) ?_
 ·have h2:=ha i h1
  have h3:=hb i h1
  simp only [List.mem_cons,List.not_mem_nil,or_false] at hx
  rcases hx with rfl | rfl
  ·refine ⟨id,block_lt h2,fun j v hj=>?_⟩
   match j,hj with
   | 0,hj=>
    simp only [List.getElem?_cons_zero,Option.some.injEq] at hj
    subst hj
    exact h2
   | j + 1,hj=>simp at hj
  ·refine ⟨id,block_lt h3,fun j v hj=>?_⟩
   match j,hj with
   | 0,hj=>
    simp only [List.getElem?_cons_zero,Option.some.injEq] at hj
    subst hj
    exact h3
   | j + 1,hj=>simp at hj
 refine hgE 16 [oh0,oh0,oh0,oh0,oh1] [0,1,4,5] [dT (((i:Int):Int) < (n:Int))] [] [.code tx6_n1,.code [1,1,0,1,0,0,1,0,0,1],.blk 1,.code [1,1,0,1,0,0,1,1],.inv J,.blk 0,.code [1,1,1]] ⟨[(0,.slice (some ⟨ga,0,none⟩) n cp),(1,.slice (some ⟨gb,0,none⟩) n cq),(4,.bool false),(5,i6 (i:Int))],[],[⟨ga,0 + i * 1,[sT (fa i)]⟩,⟨gb,0 + i * 1,[sT (fa i)]⟩],z⟩ ?_
 refine holds_quietG _ _ (by kernel_rfl) (by kernel_rfl) (by kernel_rfl) (tx6_q5 ga gb cp cq n i z fa w) ⟨⟨by omega,by omega⟩,⟨by omega,by omega⟩,trivial⟩ fun z5 hz5=>?_
 replace hz5:z ≤ z5:=hz5
 refine hgE 11 [oh0,oh0,oh2,oh0] [0,1,4,5] [oE ((!(ByteArray.toList (fa i) == ByteArray.toList (fa i))) = false) (by rw [beq_self_eq_true _]; rfl),n64 (((i:Int) + 1))] [] [.inv J,.blk 0,.code [1,1,1]] ⟨[(0,.slice (some ⟨ga,0,none⟩) n cp),(1,.slice (some ⟨gb,0,none⟩) n cq),(4,.bool false),(5,i6 ((i:Int) + 1))],[],[⟨ga,0 + i * 1,[sT (fa i)]⟩,⟨gb,0 + i * 1,[sT (fa i)]⟩],z5⟩ ?_
 refine holds_wins [] (fun _ _ h=>by cases h) ?_
 refine holds_prune [0,1,4,5] [] ?_
 exact hJ (m' - 1) _ (by omega) ⟨i + 1,z5,by omega,by omega,by rw [cast_succ]; rfl⟩
end Go.Proofs.Ytpilmccjjbgmiaa
