import Derived.Test.YtpilmccjjbgmiaaRefL7
namespace Go.Proofs.Ytpilmccjjbgmiaa
open Go.RowKit
structure RsAt (n:Nat) (R:Rf) (keep:Nat → Bool) (i:Nat) (sure:List ByteArray) (has:List Bool):Prop where
 ls:sure.length = R.sure.length
 lh:has.length = n
 su:∀ j:Nat,j < n → getB sure j = bif getO R.has j && (decide ((cachedR n R.has).idxOf j < i) && keep ((cachedR n R.has).idxOf j)) then getB R.last j else getB R.sure j
 ha:∀ j:Nat,j < n → getO has j = (getO R.has j && !decide ((cachedR n R.has).idxOf j < i))
theorem cached_get {n i:Nat} {has:List Bool} (hi:i < (cachedR n has).length):∃ k,(cachedR n has)[i]? = some k ∧ k < n ∧ getO has k = true ∧ (cachedR n has).idxOf k = i ∧ ∀ j,j ≠ k → getO has j = true → j < n → (cachedR n has).idxOf j ≠ i:=by
 have hnd:(cachedR n has).Nodup:=List.nodup_range.filter _
 have hm:=List.getElem_mem hi
 simp only [cachedR,List.mem_filter,List.mem_range] at hm
 refine ⟨_,List.getElem?_eq_getElem hi,hm.1,hm.2,hnd.idxOf_getElem i hi,fun j hj hb hjn e=>hj ?_⟩
 have hjm:j ∈ cachedR n has:=by simp only [cachedR,List.mem_filter,List.mem_range]; exact ⟨hjn,hb⟩
 have h2:(cachedR n has)[(cachedR n has).idxOf j]? = some j:=by rw [List.getElem?_eq_getElem (List.idxOf_lt_length_of_mem hjm),List.getElem_idxOf]
 rw [e,List.getElem?_eq_getElem hi] at h2
 exact (Option.some.inj h2).symm
theorem RsAt.zero {n:Nat} {R:Rf} (keep:Nat → Bool) (hl:R.has.length = n):RsAt n R keep 0 R.sure R.has:=
 ⟨rfl,hl,fun j _=>by rw [decide_eq_false (Nat.not_lt_zero _),Bool.false_and,Bool.and_false]; rfl,fun j _=>by rw [decide_eq_false (Nat.not_lt_zero _)]; simp⟩
theorem RsAt.step {n:Nat} {R:Rf} {keep:Nat → Bool} {i k:Nat} {sure has} (h:RsAt n R keep i sure has) (hls:n ≤ R.sure.length) (hk:k < n) (hb:getO R.has k = true) (hi:(cachedR n R.has).idxOf k = i) (hne:∀ j,j ≠ k → getO R.has j = true → j < n → (cachedR n R.has).idxOf j ≠ i) {sure':List ByteArray} (hs:sure' = bif keep i then sure.set k (getB R.last k) else sure) :
  RsAt n R keep (i + 1) sure' (has.set k false):=by
 have hdec:∀ j,j ≠ k → getO R.has j = true → j < n → decide ((cachedR n R.has).idxOf j < i + 1) = decide ((cachedR n R.has).idxOf j < i):=fun j h1 h2 h3=>decide_eq_decide.2 (by have:=hne j h1 h2 h3; omega)
 have hks:k < sure.length:=by rw [h.ls]; omega
 subst hs
 refine ⟨?_,by rw [List.length_set]; exact h.lh,fun j hj=>?_,fun j hj=>?_⟩
 ·cases keep i
  ·exact h.ls
  ·exact (List.length_set ..).trans h.ls
 ·by_cases e:j = k
  ·subst e
   rw [hb,hi,decide_eq_true (Nat.lt_succ_self i),Bool.true_and,Bool.true_and]
   cases hkp:keep i with
   | true=>
    rw [cond_true,cond_true,getB_set hks,if_pos rfl]
   | false=>
    rw [cond_false,cond_false,h.su j hj,hb,hi,decide_eq_false (Nat.lt_irrefl i)]
    rfl
  ·have h1:getB (bif keep i then sure.set k (getB R.last k) else sure) j = getB sure j:=by
    cases keep i
    ·rfl
    ·rw [cond_true,getB_set hks,if_neg e]
   rw [h1,h.su j hj]
   cases hbj:getO R.has j with
   | false=>rfl
   | true=>rw [hdec j e hbj hj]
 ·rw [getO_set (by rw [h.lh]; exact hk)]
  by_cases e:j = k
  ·subst e
   rw [if_pos rfl,hi,decide_eq_true (Nat.lt_succ_self i),Bool.not_true,Bool.and_false]
  ·rw [if_neg e,h.ha j hj]
   cases hbj:getO R.has j with
   | false=>rfl
   | true=>rw [hdec j e hbj hj]
theorem RsAt.done {M:Pl} {n:Nat} {R:Rf} {pb:Nat} {keep:Nat → Bool} {sure has} (h:RsAt n R keep (cachedR n R.has).length sure has) (hS:Sim7 M n R) (hp:PlOk pb M):Sim7 (restartPl M keep) n ⟨sure,R.last,has,R.acts,0,false⟩:=by
 have hin:∀ j,j < n → getO R.has j = true → (cachedR n R.has).idxOf j < (cachedR n R.has).length:=fun j hj hb=>List.idxOf_lt_length_of_mem (by simp only [cachedR,List.mem_filter,List.mem_range]; exact ⟨hj,hb⟩)
 refine hS.restart hp keep (fun j hj=>?_) (fun j hj=>?_) rfl rfl rfl
 ·rw [show getB sure j = _ from h.su j hj]
  cases hb:getO R.has j with
  | false=>rfl
  | true=>rw [decide_eq_true (hin j hj hb),Bool.true_and]
 ·rw [show getO has j = _ from h.ha j hj]
  cases hb:getO R.has j with
  | false=>rfl
  | true=>rw [decide_eq_true (hin j hj hb)]; rfl
def qs_v1 (g:G7) (R:Rf):List Value:=[.slice (some ⟨g.sg,0,none⟩) g.n g.sc,.slice (some ⟨g.lg,0,none⟩) g.n g.n,.slice (some ⟨g.hg,0,none⟩) g.n g.n,i6 R.acts,i6 R.armed,.bool R.off]
def qs_n1:List Nat:=[1,0,1,0,0,1,0,0,0,1,0]
def qs_n2:List Nat:=[1,0,1,0,0,1,0,0,1]
def qs_n3:List (Option Nat):=[none,none,none,none,none,none,none,none,none,some 0]
@[simp] def qs_b1 (g:G7) (R:Rf) (sure:List ByteArray) (has:List Bool):List Bk:=[⟨g.qb,99,true,(qs_v1 g R)⟩,⟨g.sg,9,true,(strsR sure g.r)⟩,⟨g.lg,9,true,(strsV R.last)⟩,⟨g.hg,4,true,(boolsV has)⟩]
@[simp] def qs_b2 (g:G7) (R:Rf) (kk:Nat) (sure:List ByteArray) (has:List Bool):List Bk:=[⟨g.qb,99,true,(qs_v1 g R)⟩,⟨g.sg,9,true,(strsR sure g.r)⟩,⟨g.lg,9,true,(strsV R.last)⟩,⟨g.hg,4,true,(boolsV (List.set has kk false))⟩]
@[simp] def qs_b3 (g:G7) (R:Rf) (kk:Nat) (sure:List ByteArray) (has:List Bool):List Bk:=[⟨g.qb,99,true,(qs_v1 g R)⟩,⟨g.sg,9,true,(strsR (List.set sure kk (getB R.last kk)) g.r)⟩,⟨g.lg,9,true,(strsV R.last)⟩,⟨g.hg,4,true,(boolsV has)⟩]
@[simp] def qs_b4 (g:G7) (R:Rf) (kk:Nat) (sure:List ByteArray) (has:List Bool):List Bk:=[⟨g.qb,99,true,(qs_v1 g R)⟩,⟨g.sg,9,true,(strsR (List.set sure kk (getB R.last kk)) g.r)⟩,⟨g.lg,9,true,(strsV R.last)⟩,⟨g.hg,4,true,(boolsV (List.set has kk false))⟩]
@[simp] def qs_b5 (g:G7) (R:Rf):List Bk:=[⟨g.qb,99,true,(qs_v1 g R)⟩,⟨g.sg,9,true,(strsR R.sure g.r)⟩,⟨g.lg,9,true,(strsV R.last)⟩,⟨g.hg,4,true,(boolsV R.has)⟩]
def RRestI (g:G7) (R:Rf) (A:Option Addr) (nn:Nat) (cp:Nat) (K:Option Addr) (nk:Nat) (kcp:Nat) (kf:Nat → Num1) (w:World) (C:List Nat)  (m:Nat) (st:St) (W1:World):Prop:=∃ (i:Nat) (sure:List ByteArray) (has:List Bool) (z:Nat),m + i = nn ∧ RsAt g.n R (keepB nk kf) i sure has ∧ OwnI W1 w.heap.size 3 A nn cp (C.map fun k:Nat=>(k:Int)) ∧ st = ⟨[(0,(pt g.qb 0)),(1,.slice K nk kcp),(4,.slice A nn cp),(5,i6 (i:Int))],(qs_b1 g R sure has),[],z⟩
def qs_g7s (g:G7) (i:Nat) (nn:Nat) (cp:Nat) (ga:Nat) (K:Option Addr) (nk:Nat) (kcp:Nat):List (Nat × Value):=[(0,(pt g.qb 0)),(1,.slice K nk kcp),(4,.slice (some ⟨ga,0,none⟩) nn cp),(5,i6 (i:Int))]
def qs_g7v (g:G7) (kk:Nat) (i:Nat) (nn:Nat) (cp:Nat) (ga:Nat):List (Option Value):=[some ((pt g.qb 0)),some ((pt g.qb 0)),some ((pt g.qb 2)),some (.slice (some ⟨g.hg,0,none⟩) g.n g.n),some (.slice (some ⟨ga,0,none⟩) nn cp),some (i6 (i:Int)),some (.pointer (some ⟨ga,0 + i * 1,none⟩)),some (i6 (kk:Int)),some (.pointer (some ⟨g.hg,0 + kk * 1,none⟩)),some (.tuple #[])]
def qs_g7m (g:G7) (R:Rf) (kk:Nat) (sure:List ByteArray) (has:List Bool):List (List Bk):=[(qs_b1 g R sure has),(qs_b2 g R kk sure has)]
def qs_g7t:List (Option Nat):=qs_n3
def qs_g7C (g:G7) (M:Pl) (R:Rf) (kk:Nat) (i:Nat) (sure:List ByteArray) (has:List Bool) (nn:Nat) (cp:Nat) (ga:Nat) (K:Option Addr) (nk:Nat) (kcp:Nat) (kf:Nat → Num1) (w:World) (W1:World) (J:Act → World → Prop) (i_:Nat):Prop:=CertG (wpOp Try.prog (opsOf (getCode (bodyOf Try.f34) qs_n2)) (sem Try.prog (bodyOf Try.f34) (bodyPost Try.prog Try.f34 (fun e w'=>e = .returned (.tuple #[]) ∧ (∃ R',RfAt 99 9 4 w' g R' ∧ Sim7 (restartPl M (keepB nk kf)) g.n R') ∧ Kept g.mine w w')) [.blk 1,.code [1,0,1,0,0,1,1],.inv J,.blk 0,.code [1,1]])) [] 60 (opsOf (getCode (bodyOf Try.f34) qs_n2)) (slI (opsOf (getCode (bodyOf Try.f34) qs_n2)) (qs_g7s g i nn cp ga K nk kcp) i_) (qs_g7t) 1 (MG W1 (Turned (qs_b1 g R sure has)) (qs_g7m g R kk sure has) [⟨ga,0 + i * 1,[i6 (kk:Int)]⟩] W1.heap.size) (Turned (qs_b1 g R sure has)) (PvG (qs_g7v g kk i nn cp ga) (fun _ _ _=>False)) i_
def qs_g11s (g:G7) (i:Nat) (nn:Nat) (cp:Nat) (ga:Nat) (b:Nat) (o:Nat) (nk:Nat) (kcp:Nat):List (Nat × Value):=[(0,(pt g.qb 0)),(1,.slice (some ⟨b,o,none⟩) nk kcp),(4,.slice (some ⟨ga,0,none⟩) nn cp),(5,i6 (i:Int))]
def qs_g11v (g:G7) (R:Rf) (kk:Nat) (i:Nat) (nn:Nat) (cp:Nat) (ga:Nat):List (Option Value):=[some ((pt g.qb 0)),some ((pt g.qb 0)),some ((pt g.qb 0)),some (.slice (some ⟨g.sg,0,none⟩) g.n g.sc),some (.slice (some ⟨ga,0,none⟩) nn cp),some (i6 (i:Int)),some (.pointer (some ⟨ga,0 + i * 1,none⟩)),some (i6 (kk:Int)),some ((pt g.qb 0)),some ((pt g.qb 0)),some ((pt g.qb 1)),some (.slice (some ⟨g.lg,0,none⟩) g.n g.n),some (.slice (some ⟨ga,0,none⟩) nn cp),some (i6 (i:Int)),some (.pointer (some ⟨ga,0 + i * 1,none⟩)),some (i6 (kk:Int)),some (.pointer (some ⟨g.lg,0 + kk * 1,none⟩)),some (sT (getB R.last kk)),some (.pointer (some ⟨g.sg,0 + kk * 1,none⟩)),some (.tuple #[])]
def qs_g11m (g:G7) (R:Rf) (kk:Nat) (sure:List ByteArray) (has:List Bool):List (List Bk):=[(qs_b1 g R sure has),(qs_b3 g R kk sure has)]
def qs_g11t:List (Option Nat):=[none,none,none,none,none,none,none,none,none,none,none,none,none,none,none,none,none,none,none,some 0]
def qs_g11C (g:G7) (M:Pl) (R:Rf) (kk:Nat) (i:Nat) (sure:List ByteArray) (has:List Bool) (nn:Nat) (cp:Nat) (ga:Nat) (b:Nat) (o:Nat) (nk:Nat) (kcp:Nat) (kf:Nat → Num1) (w:World) (W1:World) (J:Act → World → Prop) (i_:Nat):Prop:=CertG (wpOp Try.prog (opsOf (getCode (bodyOf Try.f34) qs_n1)) (sem Try.prog (bodyOf Try.f34) (bodyPost Try.prog Try.f34 (fun e w'=>e = .returned (.tuple #[]) ∧ (∃ R',RfAt 99 9 4 w' g R' ∧ Sim7 (restartPl M (keepB nk kf)) g.n R') ∧ Kept g.mine w w')) [.code qs_n2,.blk 1,.code [1,0,1,0,0,1,1],.inv J,.blk 0,.code [1,1]])) [] 60 (opsOf (getCode (bodyOf Try.f34) qs_n1)) (slI (opsOf (getCode (bodyOf Try.f34) qs_n1)) (qs_g11s g i nn cp ga b o nk kcp) i_) (qs_g11t) 1 (MG W1 (Turned (qs_b1 g R sure has)) (qs_g11m g R kk sure has) [⟨ga,0 + i * 1,[i6 (kk:Int)]⟩,⟨b,o + i * 1,[i6 ((kf i).v)]⟩] W1.heap.size) (Turned (qs_b1 g R sure has)) (PvG (qs_g11v g R kk i nn cp ga) (fun _ _ _=>False)) i_
def qs_g13s (g:G7) (i:Nat) (nn:Nat) (cp:Nat) (ga:Nat) (b:Nat) (o:Nat) (nk:Nat) (kcp:Nat):List (Nat × Value):=[(0,(pt g.qb 0)),(1,.slice (some ⟨b,o,none⟩) nk kcp),(4,.slice (some ⟨ga,0,none⟩) nn cp),(5,i6 (i:Int))]
def qs_g13v (g:G7) (kk:Nat) (i:Nat) (nn:Nat) (cp:Nat) (ga:Nat):List (Option Value):=[some ((pt g.qb 0)),some ((pt g.qb 0)),some ((pt g.qb 2)),some (.slice (some ⟨g.hg,0,none⟩) g.n g.n),some (.slice (some ⟨ga,0,none⟩) nn cp),some (i6 (i:Int)),some (.pointer (some ⟨ga,0 + i * 1,none⟩)),some (i6 (kk:Int)),some (.pointer (some ⟨g.hg,0 + kk * 1,none⟩)),some (.tuple #[])]
def qs_g13m (g:G7) (R:Rf) (kk:Nat) (sure:List ByteArray) (has:List Bool):List (List Bk):=[(qs_b3 g R kk sure has),(qs_b4 g R kk sure has)]
def qs_g13t:List (Option Nat):=qs_n3
def qs_g13C (g:G7) (M:Pl) (R:Rf) (kk:Nat) (i:Nat) (sure:List ByteArray) (has:List Bool) (nn:Nat) (cp:Nat) (ga:Nat) (b:Nat) (o:Nat) (nk:Nat) (kcp:Nat) (kf:Nat → Num1) (w:World) (W1:World) (J:Act → World → Prop) (z11:Nat) (i_:Nat):Prop:=CertG (wpOp Try.prog (opsOf (getCode (bodyOf Try.f34) qs_n2)) (sem Try.prog (bodyOf Try.f34) (bodyPost Try.prog Try.f34 (fun e w'=>e = .returned (.tuple #[]) ∧ (∃ R',RfAt 99 9 4 w' g R' ∧ Sim7 (restartPl M (keepB nk kf)) g.n R') ∧ Kept g.mine w w')) [.blk 1,.code [1,0,1,0,0,1,1],.inv J,.blk 0,.code [1,1]])) [] 60 (opsOf (getCode (bodyOf Try.f34) qs_n2)) (slI (opsOf (getCode (bodyOf Try.f34) qs_n2)) (qs_g13s g i nn cp ga b o nk kcp) i_) (qs_g13t) 1 (MG W1 (Turned (qs_b1 g R sure has)) (qs_g13m g R kk sure has) [⟨ga,0 + i * 1,[i6 (kk:Int)]⟩,⟨b,o + i * 1,[i6 ((kf i).v)]⟩] z11) (Turned (qs_b3 g R kk sure has)) (PvG (qs_g13v g kk i nn cp ga) (fun _ _ _=>False)) i_
def qs_g16s (g:G7) (i:Nat) (nn:Nat) (cp:Nat) (ga:Nat) (b:Nat) (o:Nat) (nk:Nat) (kcp:Nat):List (Nat × Value):=[(0,(pt g.qb 0)),(1,.slice (some ⟨b,o,none⟩) nk kcp),(4,.slice (some ⟨ga,0,none⟩) nn cp),(5,i6 (i:Int))]
def qs_g16v (g:G7) (kk:Nat) (i:Nat) (nn:Nat) (cp:Nat) (ga:Nat):List (Option Value):=[some ((pt g.qb 0)),some ((pt g.qb 0)),some ((pt g.qb 2)),some (.slice (some ⟨g.hg,0,none⟩) g.n g.n),some (.slice (some ⟨ga,0,none⟩) nn cp),some (i6 (i:Int)),some (.pointer (some ⟨ga,0 + i * 1,none⟩)),some (i6 (kk:Int)),some (.pointer (some ⟨g.hg,0 + kk * 1,none⟩)),some (.tuple #[])]
def qs_g16m (g:G7) (R:Rf) (kk:Nat) (sure:List ByteArray) (has:List Bool):List (List Bk):=[(qs_b1 g R sure has),(qs_b2 g R kk sure has)]
def qs_g16t:List (Option Nat):=qs_n3
def qs_g16C (g:G7) (M:Pl) (R:Rf) (kk:Nat) (i:Nat) (sure:List ByteArray) (has:List Bool) (nn:Nat) (cp:Nat) (ga:Nat) (b:Nat) (o:Nat) (nk:Nat) (kcp:Nat) (kf:Nat → Num1) (w:World) (W1:World) (J:Act → World → Prop) (i_:Nat):Prop:=CertG (wpOp Try.prog (opsOf (getCode (bodyOf Try.f34) qs_n2)) (sem Try.prog (bodyOf Try.f34) (bodyPost Try.prog Try.f34 (fun e w'=>e = .returned (.tuple #[]) ∧ (∃ R',RfAt 99 9 4 w' g R' ∧ Sim7 (restartPl M (keepB nk kf)) g.n R') ∧ Kept g.mine w w')) [.blk 1,.code [1,0,1,0,0,1,1],.inv J,.blk 0,.code [1,1]])) [] 60 (opsOf (getCode (bodyOf Try.f34) qs_n2)) (slI (opsOf (getCode (bodyOf Try.f34) qs_n2)) (qs_g16s g i nn cp ga b o nk kcp) i_) (qs_g16t) 1 (MG W1 (Turned (qs_b1 g R sure has)) (qs_g16m g R kk sure has) [⟨ga,0 + i * 1,[i6 (kk:Int)]⟩,⟨b,o + i * 1,[i6 ((kf i).v)]⟩] W1.heap.size) (Turned (qs_b1 g R sure has)) (PvG (qs_g16v g kk i nn cp ga) (fun _ _ _=>False)) i_
set_option maxRecDepth 100000 in
set_option maxHeartbeats 4000000 in
theorem rrestart_pl (g:G7) (hk:g.Ok) (M:Pl) (pb:Nat) (R:Rf) (hp:PlOk pb M) (hS:Sim7 M g.n R) (K:Option Addr) (nk kcp:Nat) (kf:Nat → Num1) (w:World) (hR:RfAt 99 9 4 w g R) (HK:NumsIn w K nk kf g.mine) :
  Calls Try.prog 34 #[.pointer (some ⟨g.qb,0,none⟩),.slice K nk kcp] w (fun e w'=>e = .returned (.tuple #[]) ∧ (∃ R',RfAt 99 9 4 w' g R' ∧ Sim7 (restartPl M (keepB nk kf)) g.n R') ∧ Kept g.mine w w'):=by
 refine calls_of_holds (S:=(fun x=>g.mine x)) (l:=[(pt g.qb 0),.slice K nk kcp]) (n:=60) Try.func34 (body_of (by kernel_rfl)) rfl (by simp) (MemOk.start (bk:=(qs_b5 g R)) (wn:=[]) (by simpa using ⟨hR.p,hR.s,hR.l,hR.h⟩) (by intro b hb hr; simp at hb; rcases hb with rfl | rfl | rfl | rfl <;> simp [G7.mine]) (by simpa using hk.nd) (by simp)) ?_
 obtain ⟨C,hC⟩:∃ C,C = cachedR g.n R.has:=⟨_,rfl⟩
 obtain ⟨nn,hnn⟩:∃ nn,nn = C.length:=⟨_,rfl⟩
 have hn1:=hk.n1
 have hlsR:=hR.ls
 have hqw:=hR.lt g.qb (.inl rfl)
 have hsw:=hR.lt g.sg (.inr (.inl rfl))
 have hlw:=hR.lt g.lg (.inr (.inr (.inl rfl)))
 have hhw:=hR.lt g.hg (.inr (.inr (.inr rfl)))
 have hn64:nn ≤ 64:=by
  rw [hnn,hC]
  exact Nat.le_trans (List.length_filter_le _ _) (by rw [List.length_range]; omega)
 refine hgE 6 [oh0] [0,1,6] [] [] [.ops [0] [1,2],.code [1]] ⟨[(0,(pt g.qb 0)),(1,.slice K nk kcp),(6,(pt g.qb 0))],(qs_b5 g R),[],w.heap.size⟩ ?_
 refine holds_callW (w:=w) (S':=(fun x=>g.mine x)) (Y:=Option Addr × Nat) (fun (⟨A,cp⟩:Option Addr × Nat)=>.slice A nn cp) (fun (⟨A,cp⟩:Option Addr × Nat)=>(qs_b5 g R)) (fun (⟨A,cp⟩:Option Addr × Nat) W_=>OwnI W_ w.heap.size 3 A nn cp (C.map fun k:Nat=>(k:Int))) (fun (⟨A,cp⟩:Option Addr × Nat)=>[(7,.slice A nn cp),(0,(pt g.qb 0)),(1,.slice K nk kcp),(6,(pt g.qb 0))]) (show _ = some (65,[(pt g.qb 0)],some 7,[]) by kernel_rfl) tI (fun _=>rfl) (fun wx hm=>?_) (fun y W hO0 hmW=>?_)
 ·refine (rcached_any g hk R wx ⟨hm.at_ 0 rfl,hm.at_ 1 rfl,hm.at_ 2 rfl,hm.at_ 3 rfl,hR.ls,hR.ll,hR.lh⟩).mono fun e w' ⟨A,cp,he,h1,h2⟩=>?_
  rw [hm.size,← hC,← hnn] at h1
  rw [← hC,← hnn] at he
  exact ⟨(A,cp),he,h1,(hm.same h2).2⟩
 obtain ⟨A,cp⟩:=y
 have hwW:=hmW.kept.size
 have hO0w:=hO0.own
 have hnO:∀ x,w.heap.size ≤ x → ¬ Turned (qs_b5 g R) x:=by
  rintro x hx ⟨b,hb,hr,he⟩
  simp at hb
  rcases hb with rfl | rfl | rfl | rfl <;> simp at he <;> omega
 refine hgE 11 [oh0,oh0] [0,1,4,5] [] [] [.code [1,0,1,0],.blk 0,.code [1,1]] ⟨[(0,(pt g.qb 0)),(1,.slice K nk kcp),(4,.slice A nn cp),(5,i6 0)],(qs_b5 g R),[],W.heap.size⟩ ?_
 refine holds_loopW (w:=w) (S':=(fun x=>g.mine x)) (RRestI g R A nn cp K nk kcp kf w C) nn (by kernel_rfl) (fun W1 hm=>⟨⟨0,R.sure,R.has,_,rfl,RsAt.zero _ hR.lh,hO0.kept hm.kept (fun x hx=>hnO x (hO0w x hx).1),rfl⟩,hmW.back hm⟩) ?_
 rintro m _ W1 ⟨i,sure,has,z,hmi,hRs,hO1,rfl⟩ hm1 J hJ
 replace hnO:∀ x,w.heap.size ≤ x → ¬ Turned (qs_b1 g R sure has) x:=by
  rintro x hx ⟨b,hb,hr,he⟩
  simp at hb
  rcases hb with rfl | rfl | rfl | rfl <;> simp at he <;> omega
 have hls:=hRs.ls
 have hlh:=hRs.lh
 by_cases h1:i < nn
 rotate_left
 ·skip
  refine hgE 26 [oh0,oh0,oh0,oh0,oh0,oh0,oh0,oh0,(oA 0 5 1),oh0,oh0,oh0,(oA 0 4 1)] [] [dF (((i:Int):Int) < (nn:Int))] [(g.qb,5,1),(g.qb,4,1)] [] ⟨[],[⟨g.qb,99,true,[.slice (some ⟨g.sg,0,none⟩) g.n g.sc,.slice (some ⟨g.lg,0,none⟩) g.n g.n,.slice (some ⟨g.hg,0,none⟩) g.n g.n,i6 R.acts,i6 0,.bool false]⟩,⟨g.sg,9,true,(strsR sure g.r)⟩,⟨g.lg,9,true,(strsV R.last)⟩,⟨g.hg,4,true,(boolsV has)⟩],[],W1.heap.size⟩ ?_
  refine holds_end [] (show _ = some ([],dupR []) by kernel_rfl) ?_
  intro wx hm
  have hin:i = nn:=by omega
  rw [hin,hnn,hC] at hRs
  exact ⟨rfl,⟨⟨sure,R.last,has,R.acts,0,false⟩,⟨hm.at_ 0 rfl,hm.at_ 1 rfl,hm.at_ 2 rfl,hm.at_ 3 rfl,by rw [hls]; exact hlsR,hR.ll,hlh⟩,hRs.done hS hp⟩,(MemOk.back2 hm1 hm).kept⟩
 obtain ⟨kk,hk1,hkn,hkb,hki,hkne⟩:=cached_get (n:=g.n) (has:=R.has) (i:=i) (by rw [← hC,← hnn]; exact h1)
 rw [← hC] at hk1
 obtain ⟨ga,hA,hg1,hg2,hg3⟩:=hO1.get (j:=i) (k:=(kk:Int)) (by rw [List.getElem?_map,hk1]; rfl)
 subst hA
 by_cases h2:i < nk
 rotate_left
 ·skip
  refine holds_wins [⟨ga,0 + i * 1,[i6 (kk:Int)]⟩] (fun _ x hx=>?_) ?_
  ·simp only [List.mem_singleton] at hx
   subst hx
   refine ⟨hnO _ hg1,hg2,fun j v hj=>?_⟩
   match j,hj with
   | 0,hj=>
    simp only [List.getElem?_cons_zero,Option.some.injEq] at hj
    subst hj
    show W1.cell? ⟨ga,0 + i * 1 + 0,none⟩ = _
    rw [Nat.zero_add,Nat.mul_one,Nat.add_zero]
    exact hg3
   | j + 1,hj=>simp at hj
  refine hgE 33 [oh0,oh0,oh0,oh0,oh1,oh0,oh0,oh0,oh0,oh0,oh0,oh0,oh0,oh0,oh0,oh0,⟨false,3,[]⟩,oh0] [0,1,4,5] [dT (((i:Int):Int) < (nn:Int)),dF (((i:Int):Int) < (nk:Int)),dF (((i:Int):Int) < (nk:Int)),dF (((i:Int):Int) < (nk:Int)),dF (((i:Int):Int) < (nk:Int)),dF (((i:Int):Int) < (nk:Int)),dF (((i:Int):Int) < (nk:Int)),dF (((i:Int):Int) < (nk:Int)),fF] [] [.code qs_n2,.blk 1,.code [1,0,1,0,0,1,1],.inv J,.blk 0,.code [1,1]] ⟨[(0,(pt g.qb 0)),(1,.slice K nk kcp),(4,.slice (some ⟨ga,0,none⟩) nn cp),(5,i6 (i:Int))],(qs_b1 g R sure has),[⟨ga,0 + i * 1,[i6 (kk:Int)]⟩],W1.heap.size⟩ ?_
  have qs_g7_c9:qs_g7C g M R kk i sure has nn cp ga K nk kcp kf w W1 J 9:=cert_opS (by
    intro j a_ wx hj hjs hf hk_ hm
    obtain ⟨rfl,_⟩:=hjs 0 (by kernel_rfl)
    obtain ⟨bk,hb,hz,hM⟩:=hm
    have hb':some (qs_b1 g R sure has) = some bk:=hb
    cases hb'
    obtain ⟨w',h1,h2,h3,h4⟩:=store_boolK (P:=Try.prog) (t:=4) (s:=false) hM (i:=3) (k:=kk) rfl (by rw [hlh]; exact hkn) (by kernel_rfl)
    exact ⟨_,_,_,hf,by kernel_rfl,by kernel_rfl,h1,(rfl:undef = _),h2.mono (fun k _ e=>⟨⟨g.hg,4,true,boolsV has⟩,List.mem_of_getElem? (i:=3) (by kernel_rfl),rfl,e.symm⟩),_,by kernel_rfl,Nat.le_trans hz h3,h4⟩)
  have qs_g7_R:∀ e_ ∈ (rZs [0,1,2,4,5] ++ [⟨3,⟨false,0,[⟨false,0,2,1⟩]⟩,[],[(g.qb,2,1)]⟩,⟨6,oh2,[oE ((0:Int) ≤ (i:Int) ∧ (i:Int) < ((nn:Nat):Int))],[]⟩,⟨7,⟨false,0,[⟨true,0,0,1⟩]⟩,[],[(ga,0 + i * 1,1)]⟩,⟨8,oh2,[oE ((0:Int) ≤ (kk:Int) ∧ (kk:Int) < ((g.n:Nat):Int))],[]⟩]:List RegE),qs_g7C g M R kk i sure has nn cp ga K nk kcp kf w W1 J e_.i:=certs_reg (by kernel_rfl) _ (fun sz=>by kernel_rfl)
  refine holds_mixG (vs:=(qs_g7v g kk i nn cp ga)) (ms:=(qs_g7m g R kk sure has)) (stg:=(qs_g7t)) (J:=1) (sl':=[(0,(pt g.qb 0)),(1,.slice K nk kcp),(4,.slice (some ⟨ga,0,none⟩) nn cp),(5,i6 (i:Int))]) (bk':=(qs_b2 g R kk sure has)) (fun _ _ _=>False) [0,1,4,5] (by kernel_rfl) (by kernel_rfl) (by kernel_rfl) (fun _ _ _ _ h=>h.elim) (certs_mix qs_g7_R [9] ⟨qs_g7_c9,tI⟩ (by kernel_rfl)) (by kernel_rfl) (by kernel_rfl) (by kernel_rfl) (fun z7 hz7=>?_)
  replace hz7:W1.heap.size ≤ z7:=hz7
  refine hgE 9 [oh0,oh2,oh0] [0,1,4,5] [n64 (((i:Int) + 1))] [] [.inv J,.blk 0,.code [1,1]] ⟨[(0,(pt g.qb 0)),(1,.slice K nk kcp),(4,.slice (some ⟨ga,0,none⟩) nn cp),(5,i6 ((i:Int) + 1))],(qs_b2 g R kk sure has),[⟨ga,0 + i * 1,[i6 (kk:Int)]⟩],z7⟩ ?_
  refine holds_wins [] (fun _ _ h=>by cases h) ?_
  rw [← cast_succ i]
  intro a_ w3 hf hm
  exact hJ (m - 1) _ a_ w3 (by omega) ⟨i + 1,sure,List.set has kk false,_,by omega,hRs.step hlsR hkn hkb hki hkne (by rw [show keepB nk kf i = false from by unfold keepB; rw [decide_eq_false h2]; rfl]; rfl),hO1.kept hm.kept (fun x hx=>hnO x (hO1.own x hx).1),rfl⟩ hf (MemOk.back2 hm1 hm)
 obtain ⟨b,o,hKe,hb,hnb2,hbc⟩:=HK i h2
 subst hKe
 have hb1:b < W1.heap.size ∧ W1.cell? ⟨b,o + i * 1,none⟩ = some (.int .i64 (kf i).v):=⟨Nat.lt_of_lt_of_le hb hm1.kept.size,by
  have h3:W1.cell? ⟨b,o + i * 1,none⟩ = w.cell? ⟨b,o + i * 1,none⟩:=hm1.kept.cell (p:=⟨b,o + i * 1,none⟩) hb hnb2
  rw [h3]
  exact hbc⟩
 refine holds_wins [⟨ga,0 + i * 1,[i6 (kk:Int)]⟩,⟨b,o + i * 1,[i6 (kf i).v]⟩] (fun _ x hx=>?_) ?_
 ·simp only [List.mem_cons,List.not_mem_nil,or_false] at hx
  rcases hx with rfl | rfl
  ·refine ⟨hnO _ hg1,hg2,fun j v hj=>?_⟩
   match j,hj with
   | 0,hj=>
    simp only [List.getElem?_cons_zero,Option.some.injEq] at hj
    subst hj
    show W1.cell? ⟨ga,0 + i * 1 + 0,none⟩ = _
    rw [Nat.zero_add,Nat.mul_one,Nat.add_zero]
    exact hg3
   | j + 1,hj=>simp at hj
  ·refine ⟨fun ⟨c,hc,hr,he⟩=>hnb2 ?_,hb1.1,fun j v hj=>?_⟩
   ·simp at hc
    rcases hc with rfl | rfl | rfl | rfl <;> simp at he
    ·exact .inl he.symm
    ·exact .inr (.inl he.symm)
    ·exact .inr (.inr (.inl he.symm))
    ·exact .inr (.inr (.inr he.symm))
   ·match j,hj with
    | 0,hj=>
     simp only [List.getElem?_cons_zero,Option.some.injEq] at hj
     subst hj
     exact hb1.2
    | j + 1,hj=>simp at hj
 refine hgE 31 [oh0,oh0,oh0,oh0,oh1,oh0,oh0,oh0,oh0,oh0,oh1,oh1,⟨true,1,[]⟩,⟨true,0,[⟨true,1,0,1⟩]⟩,⟨true,2,[]⟩,oh1,oh3] [0,1,4,5,25] [dT (((i:Int):Int) < (nn:Int)),dT (((i:Int):Int) < (nk:Int)),dT (((i:Int):Int) < (nk:Int)),dT (((i:Int):Int) < (nk:Int)),oE ((0:Int) ≤ (i:Int) ∧ (i:Int) < ((nk:Nat):Int)),dT (((i:Int):Int) < (nk:Int)),dT (((i:Int):Int) < (nk:Int)),oE ((2:Int) ≠ 0) (by decide),dT (((i:Int):Int) < (nk:Int)),dT (((i:Int):Int) < (nk:Int))] [(b,o + i * 1,1)] [.code [1,0,1,0,0,1,0,0,0,1],.code qs_n2,.blk 1,.code [1,0,1,0,0,1,1],.inv J,.blk 0,.code [1,1]] ⟨[(0,(pt g.qb 0)),(1,.slice (some ⟨b,o,none⟩) nk kcp),(4,.slice (some ⟨ga,0,none⟩) nn cp),(5,i6 (i:Int)),(25,.bool ((Int.tmod ((kf i).v) 2) != 0))],(qs_b1 g R sure has),[⟨ga,0 + i * 1,[i6 (kk:Int)]⟩,⟨b,o + i * 1,[i6 ((kf i).v)]⟩],W1.heap.size⟩ ?_
 rcases Bool.eq_false_or_eq_true ((Int.tmod ((kf i).v) 2) != 0) with d1 | d1
 ·skip
  refine hgE 4 [oh1] [0,1,4,5] [eD d1] [] [.code qs_n1,.code qs_n2,.blk 1,.code [1,0,1,0,0,1,1],.inv J,.blk 0,.code [1,1]] ⟨[(0,(pt g.qb 0)),(1,.slice (some ⟨b,o,none⟩) nk kcp),(4,.slice (some ⟨ga,0,none⟩) nn cp),(5,i6 (i:Int))],(qs_b1 g R sure has),[⟨ga,0 + i * 1,[i6 (kk:Int)]⟩,⟨b,o + i * 1,[i6 ((kf i).v)]⟩],W1.heap.size⟩ ?_
  have qs_g11_c17:qs_g11C g M R kk i sure has nn cp ga b o nk kcp kf w W1 J 17:=cert_op (by
    intro j a_ wx hj hjs hcap hf hk_ hm
    have hm0:=hm
    obtain ⟨bk,hb,hz,hM⟩:=hm
    have hj0:j = 0:=by have:=hcap 19 0 (by kernel_rfl) (List.mem_of_getElem? (i:=1) (by kernel_rfl)); omega
    subst hj0
    have hb':some (qs_b1 g R sure has) = some bk:=hb
    cases hb'
    exact ⟨_,Instr.loadAt 9 (.pointer (some ⟨g.lg,0 + kk * 1,none⟩)),_,wx,hf,by kernel_rfl,by kernel_rfl,load_str (P:=Try.prog) (t:=9) hM (i:=2) (k:=kk) rfl (by rw [hR.ll]; exact hkn) (by kernel_rfl),rfl,Kept.refl _ _,hm0⟩)
  have qs_g11_c19:qs_g11C g M R kk i sure has nn cp ga b o nk kcp kf w W1 J 19:=cert_opS (by
    intro j a_ wx hj hjs hf hk_ hm
    obtain ⟨rfl,_⟩:=hjs 0 (by kernel_rfl)
    obtain ⟨bk,hb,hz,hM⟩:=hm
    have hb':some (qs_b1 g R sure has) = some bk:=hb
    cases hb'
    obtain ⟨w',h1,h2,h3,h4⟩:=store_strR (P:=Try.prog) (t:=9) (s:=getB R.last kk) hM (i:=1) (k:=kk) rfl (by rw [hls]; omega) (by kernel_rfl)
    exact ⟨_,_,_,hf,by kernel_rfl,by kernel_rfl,h1,(rfl:undef = _),h2.mono (fun k _ e=>⟨⟨g.sg,9,true,strsR sure g.r⟩,List.mem_of_getElem? (i:=1) (by kernel_rfl),rfl,e.symm⟩),_,by kernel_rfl,Nat.le_trans hz h3,h4⟩)
  have qs_g11_R:∀ e_ ∈ (rZs [0,1,2,4,5,8,9,10,12,13] ++ [⟨3,⟨false,0,[⟨false,0,0,1⟩]⟩,[],[(g.qb,0,1)]⟩,⟨6,oh2,[oE ((0:Int) ≤ (i:Int) ∧ (i:Int) < ((nn:Nat):Int))],[]⟩,⟨7,⟨false,0,[⟨true,0,0,1⟩]⟩,[],[(ga,0 + i * 1,1)]⟩,⟨11,⟨false,0,[⟨false,0,1,1⟩]⟩,[],[(g.qb,1,1)]⟩,⟨14,oh2,[oE ((0:Int) ≤ (i:Int) ∧ (i:Int) < ((nn:Nat):Int))],[]⟩,⟨15,⟨false,0,[⟨true,0,0,1⟩]⟩,[],[(ga,0 + i * 1,1)]⟩,⟨16,oh2,[oE ((0:Int) ≤ (kk:Int) ∧ (kk:Int) < ((g.n:Nat):Int))],[]⟩,⟨18,oh2,[oE ((0:Int) ≤ (kk:Int) ∧ (kk:Int) < ((g.n:Nat):Int))],[]⟩]:List RegE),qs_g11C g M R kk i sure has nn cp ga b o nk kcp kf w W1 J e_.i:=certs_reg (by kernel_rfl) _ (fun sz=>by kernel_rfl)
  refine holds_mixG (vs:=(qs_g11v g R kk i nn cp ga)) (ms:=(qs_g11m g R kk sure has)) (stg:=(qs_g11t)) (J:=1) (sl':=[(0,(pt g.qb 0)),(1,.slice (some ⟨b,o,none⟩) nk kcp),(4,.slice (some ⟨ga,0,none⟩) nn cp),(5,i6 (i:Int))]) (bk':=(qs_b3 g R kk sure has)) (fun _ _ _=>False) [0,1,4,5] (by kernel_rfl) (by kernel_rfl) (by kernel_rfl) (fun _ _ _ _ h=>h.elim) (certs_mix qs_g11_R [17,19] ⟨qs_g11_c17,qs_g11_c19,tI⟩ (by kernel_rfl)) (by kernel_rfl) (by kernel_rfl) (by kernel_rfl) (fun z11 hz11=>?_)
  replace hz11:W1.heap.size ≤ z11:=hz11
  refine hgE 3 [] [0,1,4,5] [] [] [.code qs_n2,.blk 1,.code [1,0,1,0,0,1,1],.inv J,.blk 0,.code [1,1]] ⟨[(0,(pt g.qb 0)),(1,.slice (some ⟨b,o,none⟩) nk kcp),(4,.slice (some ⟨ga,0,none⟩) nn cp),(5,i6 (i:Int))],(qs_b3 g R kk sure has),[⟨ga,0 + i * 1,[i6 (kk:Int)]⟩,⟨b,o + i * 1,[i6 ((kf i).v)]⟩],z11⟩ ?_
  have qs_g13_c9:qs_g13C g M R kk i sure has nn cp ga b o nk kcp kf w W1 J z11 9:=cert_opS (by
    intro j a_ wx hj hjs hf hk_ hm
    obtain ⟨rfl,_⟩:=hjs 0 (by kernel_rfl)
    obtain ⟨bk,hb,hz,hM⟩:=hm
    have hb':some (qs_b3 g R kk sure has) = some bk:=hb
    cases hb'
    obtain ⟨w',h1,h2,h3,h4⟩:=store_boolK (P:=Try.prog) (t:=4) (s:=false) hM (i:=3) (k:=kk) rfl (by rw [hlh]; exact hkn) (by kernel_rfl)
    exact ⟨_,_,_,hf,by kernel_rfl,by kernel_rfl,h1,(rfl:undef = _),h2.mono (fun k _ e=>⟨⟨g.hg,4,true,boolsV has⟩,List.mem_of_getElem? (i:=3) (by kernel_rfl),rfl,e.symm⟩),_,by kernel_rfl,Nat.le_trans hz h3,h4⟩)
  have qs_g13_R:∀ e_ ∈ (rZs [0,1,2,4,5] ++ [⟨3,⟨false,0,[⟨false,0,2,1⟩]⟩,[],[(g.qb,2,1)]⟩,⟨6,oh2,[oE ((0:Int) ≤ (i:Int) ∧ (i:Int) < ((nn:Nat):Int))],[]⟩,⟨7,⟨false,0,[⟨true,0,0,1⟩]⟩,[],[(ga,0 + i * 1,1)]⟩,⟨8,oh2,[oE ((0:Int) ≤ (kk:Int) ∧ (kk:Int) < ((g.n:Nat):Int))],[]⟩]:List RegE),qs_g13C g M R kk i sure has nn cp ga b o nk kcp kf w W1 J z11 e_.i:=certs_reg (by kernel_rfl) _ (fun sz=>by kernel_rfl)
  refine holds_mixG (vs:=(qs_g13v g kk i nn cp ga)) (ms:=(qs_g13m g R kk sure has)) (stg:=(qs_g13t)) (J:=1) (sl':=[(0,(pt g.qb 0)),(1,.slice (some ⟨b,o,none⟩) nk kcp),(4,.slice (some ⟨ga,0,none⟩) nn cp),(5,i6 (i:Int))]) (bk':=(qs_b4 g R kk sure has)) (fun _ _ _=>False) [0,1,4,5] (by kernel_rfl) (by kernel_rfl) (by kernel_rfl) (fun _ _ _ _ h=>h.elim) (certs_mix qs_g13_R [9] ⟨qs_g13_c9,tI⟩ (by kernel_rfl)) (by kernel_rfl) (by kernel_rfl) (by kernel_rfl) (fun z13 hz13=>?_)
  replace hz13:z11 ≤ z13:=hz13
  refine hgE 9 [oh0,oh2,oh0] [0,1,4,5] [n64 (((i:Int) + 1))] [] [.inv J,.blk 0,.code [1,1]] ⟨[(0,(pt g.qb 0)),(1,.slice (some ⟨b,o,none⟩) nk kcp),(4,.slice (some ⟨ga,0,none⟩) nn cp),(5,i6 ((i:Int) + 1))],(qs_b4 g R kk sure has),[⟨ga,0 + i * 1,[i6 (kk:Int)]⟩,⟨b,o + i * 1,[i6 ((kf i).v)]⟩],z13⟩ ?_
  refine holds_wins [] (fun _ _ h=>by cases h) ?_
  rw [← cast_succ i]
  intro a_ w3 hf hm
  exact hJ (m - 1) _ a_ w3 (by omega) ⟨i + 1,List.set sure kk (getB R.last kk),List.set has kk false,_,by omega,hRs.step hlsR hkn hkb hki hkne (by rw [show keepB nk kf i = true from by unfold keepB; rw [decide_eq_true h2,d1]; rfl]; rfl),hO1.kept hm.kept (fun x hx=>hnO x (hO1.own x hx).1),rfl⟩ hf (MemOk.back2 hm1 hm)
 ·skip
  refine hgE 5 [oh0] [0,1,4,5] [eD d1] [] [.code qs_n2,.blk 1,.code [1,0,1,0,0,1,1],.inv J,.blk 0,.code [1,1]] ⟨[(0,(pt g.qb 0)),(1,.slice (some ⟨b,o,none⟩) nk kcp),(4,.slice (some ⟨ga,0,none⟩) nn cp),(5,i6 (i:Int))],(qs_b1 g R sure has),[⟨ga,0 + i * 1,[i6 (kk:Int)]⟩,⟨b,o + i * 1,[i6 ((kf i).v)]⟩],W1.heap.size⟩ ?_
  have qs_g16_c9:qs_g16C g M R kk i sure has nn cp ga b o nk kcp kf w W1 J 9:=cert_opS (by
    intro j a_ wx hj hjs hf hk_ hm
    obtain ⟨rfl,_⟩:=hjs 0 (by kernel_rfl)
    obtain ⟨bk,hb,hz,hM⟩:=hm
    have hb':some (qs_b1 g R sure has) = some bk:=hb
    cases hb'
    obtain ⟨w',h1,h2,h3,h4⟩:=store_boolK (P:=Try.prog) (t:=4) (s:=false) hM (i:=3) (k:=kk) rfl (by rw [hlh]; exact hkn) (by kernel_rfl)
    exact ⟨_,_,_,hf,by kernel_rfl,by kernel_rfl,h1,(rfl:undef = _),h2.mono (fun k _ e=>⟨⟨g.hg,4,true,boolsV has⟩,List.mem_of_getElem? (i:=3) (by kernel_rfl),rfl,e.symm⟩),_,by kernel_rfl,Nat.le_trans hz h3,h4⟩)
  have qs_g16_R:∀ e_ ∈ (rZs [0,1,2,4,5] ++ [⟨3,⟨false,0,[⟨false,0,2,1⟩]⟩,[],[(g.qb,2,1)]⟩,⟨6,oh2,[oE ((0:Int) ≤ (i:Int) ∧ (i:Int) < ((nn:Nat):Int))],[]⟩,⟨7,⟨false,0,[⟨true,0,0,1⟩]⟩,[],[(ga,0 + i * 1,1)]⟩,⟨8,oh2,[oE ((0:Int) ≤ (kk:Int) ∧ (kk:Int) < ((g.n:Nat):Int))],[]⟩]:List RegE),qs_g16C g M R kk i sure has nn cp ga b o nk kcp kf w W1 J e_.i:=certs_reg (by kernel_rfl) _ (fun sz=>by kernel_rfl)
  refine holds_mixG (vs:=(qs_g16v g kk i nn cp ga)) (ms:=(qs_g16m g R kk sure has)) (stg:=(qs_g16t)) (J:=1) (sl':=[(0,(pt g.qb 0)),(1,.slice (some ⟨b,o,none⟩) nk kcp),(4,.slice (some ⟨ga,0,none⟩) nn cp),(5,i6 (i:Int))]) (bk':=(qs_b2 g R kk sure has)) (fun _ _ _=>False) [0,1,4,5] (by kernel_rfl) (by kernel_rfl) (by kernel_rfl) (fun _ _ _ _ h=>h.elim) (certs_mix qs_g16_R [9] ⟨qs_g16_c9,tI⟩ (by kernel_rfl)) (by kernel_rfl) (by kernel_rfl) (by kernel_rfl) (fun z16 hz16=>?_)
  replace hz16:W1.heap.size ≤ z16:=hz16
  refine hgE 9 [oh0,oh2,oh0] [0,1,4,5] [n64 (((i:Int) + 1))] [] [.inv J,.blk 0,.code [1,1]] ⟨[(0,(pt g.qb 0)),(1,.slice (some ⟨b,o,none⟩) nk kcp),(4,.slice (some ⟨ga,0,none⟩) nn cp),(5,i6 ((i:Int) + 1))],(qs_b2 g R kk sure has),[⟨ga,0 + i * 1,[i6 (kk:Int)]⟩,⟨b,o + i * 1,[i6 ((kf i).v)]⟩],z16⟩ ?_
  refine holds_wins [] (fun _ _ h=>by cases h) ?_
  rw [← cast_succ i]
  intro a_ w3 hf hm
  exact hJ (m - 1) _ a_ w3 (by omega) ⟨i + 1,sure,List.set has kk false,_,by omega,hRs.step hlsR hkn hkb hki hkne (by rw [show keepB nk kf i = false from by unfold keepB; rw [d1,Bool.and_false]]; rfl),hO1.kept hm.kept (fun x hx=>hnO x (hO1.own x hx).1),rfl⟩ hf (MemOk.back2 hm1 hm)
end Go.Proofs.Ytpilmccjjbgmiaa
