import Derived.Test.YtpilmccjjbgmiaaShelfN
import Derived.Test.YtpilmccjjbgmiaaRef7
namespace Go.Proofs.Ytpilmccjjbgmiaa
open Go.RowKit
def inS (st k:Int):Bool:=decide (0 ≤ k) && decide (k < st)
theorem inS_iff {st k:Int}:inS st k = true ↔ 0 ≤ k ∧ k < st:=by simp [inS]
def setOkB (st k:Int) (r:RecM):Bool:=inS st k && okB r
def setGE (st:Int) (M:Pl) (k:Int) (r:RecM):Int:=bif setOkB st k r then setE M k r else 80
def setGP (st:Int) (M:Pl) (k:Int) (r:RecM):Pl:=bif setOkB st k r then setPl M k r else M
def getGR (st:Int) (M:Pl) (k:Int):RecM:=bif inS st k && !M.off then gotM M k else blankR 0
def getGE (st:Int) (M:Pl) (k:Int):Int:=bif inS st k then (bif M.off then 70 else 0) else 80
def fmtG (M:Pl) (k:Nat):Nat → Int × Pl
 | 0=>(0,M)
 | m + 1=>bif setE M k fmtR == 0 then fmtG (setPl M k fmtR) (k + 1) m else (setE M k fmtR,setPl M k fmtR)
theorem mine_wr (M:Pl) (pb:Nat) (k:Int) (L:List Int):minePl pb (wrPl M k L) = minePl pb M:=by
 unfold wrPl
 split
 ·exact mine_write M pb k L
 ·obtain ⟨_,_,_,_,h5,h6⟩:=actPl_with M
  unfold minePl
  rw [h5,h6]
theorem set_n (M:Pl) (k:Int) (r:RecM):(setPl M k r).n = M.n:=by
 have h:=fun M:Pl=>actPl_with M
 unfold setPl flushPl writePl
 split <;> (repeat' split) <;> simp_all [actPl_with]
theorem acts_act (M:Pl):(actPl M).acts ≤ M.acts + 1 ∧ M.acts ≤ (actPl M).acts:=by
 unfold actPl
 split <;> simp <;> omega
theorem acts_wr (M:Pl) (k:Int) (L:List Int):(wrPl M k L).acts ≤ M.acts + 1:=by
 unfold wrPl
 split
 ·exact acts_write M k L
 ·exact (acts_act M).1
theorem acts_flush (M:Pl):(flushPl M).acts ≤ M.acts + 1:=by
 unfold flushPl
 split
 ·exact (acts_act M).1
 ·exact (acts_act M).1
theorem acts_set (M:Pl) (k:Int) (r:RecM):(setPl M k r).acts ≤ M.acts + 2:=by
 unfold setPl
 have h1:=acts_write M k (secOf k r)
 split
 ·have:=acts_flush (writePl M k (secOf k r)); omega
 ·omega
theorem acts_setG (st:Int) (M:Pl) (k:Int) (r:RecM):(setGP st M k r).acts ≤ M.acts + 2:=by
 unfold setGP
 cases setOkB st k r
 ·show M.acts ≤ _; omega
 ·exact acts_set M k r
theorem acts_fmtG:∀ (m:Nat) (M:Pl) (k:Nat),(fmtG M k m).2.acts ≤ M.acts + 2 * (m:Int)
 | 0,M,_=>by show M.acts ≤ _; omega
 | m + 1,M,k=>by
  unfold fmtG
  have h1:=acts_set M k fmtR
  cases setE M k fmtR == 0
  ·show (setPl M k fmtR).acts ≤ _; omega
  ·have:=acts_fmtG m (setPl M k fmtR) (k + 1); rw [cond_true]; omega
theorem mine_setG (st:Int) (M:Pl) (pb:Nat) (k:Int) (r:RecM):minePl pb (setGP st M k r) = minePl pb M:=by
 unfold setGP
 cases setOkB st k r
 ·rfl
 ·exact mine_set M pb k r
theorem mine_fmtG (pb:Nat):∀ (m:Nat) (M:Pl) (k:Nat),minePl pb (fmtG M k m).2 = minePl pb M
 | 0,_,_=>rfl
 | m + 1,M,k=>by
  unfold fmtG
  cases setE M k fmtR == 0
  ·exact mine_set M pb k fmtR
  ·rw [cond_true,mine_fmtG pb m]; exact mine_set M pb k fmtR
set_option maxRecDepth 100000 in
set_option maxHeartbeats 4000000 in
theorem shelfNew_bad (M:Pl) (pb:Nat) (st:Int) (hst:¬ (1 ≤ st ∧ st ≤ 8 ∧ st ≤ (M.n:Int))) (w:World) (hP:PlatAt 90 94 w pb M) :
  Calls Try.prog 21 #[.pointer (some ⟨pb,0,none⟩),.int .i64 st] w (RetK (.tuple #[.pointer none,.int .i64 1]) w):=by
 refine calls_of_holds (S:=(fun _=>False)) (l:=[(pt pb 0),.int .i64 st]) (n:=26) Try.func21 (body_of (by kernel_rfl)) rfl (by simp) (MemOk.none w _) ?_
 by_cases h1:st < 1
 ·skip
  refine hgE 34 [oh0,oh0,oh0,oh0,oh0,oh0,oh0,⟨false,3,[]⟩,oh0,oh1,oh1,oh3,oh0,oh1,oh1,oh1,oh1,oh3,oh1,oh0,oh0] [0,1,4,5] [fF,fF,fF,dT ((st:Int) < 1),dT ((st:Int) < 1),dT ((st:Int) < 1),tT,tT,tT,tT,tT,tT] [] [.code [1,0,1,0,1],.code [1,1]] ⟨[(0,(pt pb 0)),(1,i6 st),(4,.pointer none),(5,i6 1)],[],[],w.heap.size⟩ ?_
  refine hrt [] [.pointer none,i6 1] [] ?_
  intro wx hm
  exact ⟨rfl,hm.kept⟩
 by_cases h2:8 < st
 ·skip
  refine hgE 34 [oh0,oh0,oh0,oh0,oh0,oh0,oh0,⟨false,3,[]⟩,oh0,oh0,oh0,⟨false,3,[]⟩,oh0,oh1,oh1,oh1,oh1,oh3,oh1,oh0,oh0] [0,1,4,5] [fF,fF,fF,dF ((st:Int) < 1),dF ((st:Int) < 1),dF ((st:Int) < 1),dT ((st:Int) > 8),dT ((st:Int) > 8),dT ((st:Int) > 8),dT ((st:Int) > 8),dT ((st:Int) > 8),tT] [] [.code [1,0,1,0,1],.code [1,1]] ⟨[(0,(pt pb 0)),(1,i6 st),(4,.pointer none),(5,i6 1)],[],[],w.heap.size⟩ ?_
  refine hrt [] [.pointer none,i6 1] [] ?_
  intro wx hm
  exact ⟨rfl,hm.kept⟩
 have h3:(M.n:Int) < st:=by omega
 ·skip
  refine hgE 23 [oh0,oh0,oh0,oh0,oh0,oh0,oh0,⟨false,3,[]⟩,oh0,oh0,oh0,⟨false,3,[]⟩,oh0,oh0] [0,1,4,5,16,17] [fF,fF,fF,dF ((st:Int) < 1),dF ((st:Int) < 1),dF ((st:Int) < 1),dF ((st:Int) > 8)] [] [.ops [1,0,0] [12,13,14,15],.code [1,0,1],.code [1,1]] ⟨[(0,(pt pb 0)),(1,i6 st),(4,.pointer none),(5,i6 0),(16,.bool (decide ((st:Int) > 8))),(17,(pt pb 0))],[],[],w.heap.size⟩ ?_
  refine hcp (i6 (M.n:Int)) 55 [(pt pb 0)] (some 18) [(decide ((st:Int) > 8)) = false] ⟨decide_eq_false (by omega),tI⟩ rfl (fun wx hm=>sectors_any M.n M.lb M.mb pb M.off M.acts M.armed wx (hP.kept hm.kept (fun _ _ h=>h)).p) fun z6 hz6=>?_
  replace hz6:w.heap.size ≤ z6:=hz6
  refine hgE 13 [oh0,oh0,⟨false,3,[]⟩,oh1,oh0,oh0] [0,1,4,5] [dF ((st:Int) > 8),dF ((st:Int) > 8),dF ((st:Int) > 8),dT (((M.n:Int):Int) < st)] [] [.code [1,0,1,0,1],.code [1,1]] ⟨[(0,(pt pb 0)),(1,i6 st),(4,.pointer none),(5,i6 1)],[],[],z6⟩ ?_
  refine hrt [] [.pointer none,i6 1] [] ?_
  intro wx hm
  exact ⟨rfl,hm.kept⟩
set_option maxRecDepth 100000 in
set_option maxHeartbeats 4000000 in
theorem shas_false (sb pb:Nat) (st k:Int) (hk:¬ (0 ≤ k ∧ k < st)) (w:World) (hs:Blk w sb 92 [.pointer (some ⟨pb,0,none⟩),.int .i64 st]) :
  Calls Try.prog 58 #[.pointer (some ⟨sb,0,none⟩),.int .i64 k] w (RetK (.bool false) w):=by
 refine calls_of_holds (S:=(fun _=>False)) (l:=[(pt sb 0),.int .i64 k]) (n:=15) Try.func58 (body_of (by kernel_rfl)) rfl (by simp) (MemOk.start (bk:=[⟨sb,92,false,[(pt pb 0),.int .i64 st]⟩]) (wn:=[]) (by simpa using hs) (by simp) (by simp) (by simp)) ?_
 by_cases h1:k < 0
 ·skip
  refine hgE 21 [oh0,oh0,oh0,oh0,oh0,oh0,oh0,oh0,oh0,oh0,⟨false,3,[]⟩,oh0] [4] [dF ((k:Int) ≥ 0),dF ((k:Int) ≥ 0),dF ((k:Int) ≥ 0),dF ((k:Int) ≥ 0),dF ((k:Int) ≥ 0),dF ((k:Int) ≥ 0),dF ((k:Int) ≥ 0)] [] [.code [1,1]] ⟨[(4,.bool false)],[⟨sb,92,false,[(pt pb 0),i6 st]⟩],[],w.heap.size⟩ ?_
  refine hrt [] [.bool false] [] ?_
  intro wx hm
  exact ⟨rfl,hm.kept⟩
 ·skip
  refine hgE 21 [oh0,oh0,oh0,oh0,oh1,oh1,oh1,oh1,⟨true,0,[⟨false,0,1,1⟩]⟩,oh1,oh3,oh0] [4] [dT ((k:Int) ≥ 0),dT ((k:Int) ≥ 0),dT ((k:Int) ≥ 0),dT ((k:Int) ≥ 0),dT ((k:Int) ≥ 0),dT ((k:Int) ≥ 0),dT ((k:Int) ≥ 0)] [(sb,1,1)] [.code [1,1]] ⟨[(4,.bool (decide ((k:Int) < st)))],[⟨sb,92,false,[(pt pb 0),i6 st]⟩],[],w.heap.size⟩ ?_
  refine hrt [] [.bool (decide ((k:Int) < st))] [] ?_
  intro wx hm
  exact ⟨ret_bool (decide_eq_false (by omega)),hm.kept⟩
@[simp] def pro_b1 (n:Nat) (a:Int) (c:Int) (lb:Nat) (mb:Nat) (pb:Nat):List Bk:=[⟨pb,90,false,[.slice (some ⟨lb,0,none⟩) n n,.map (some mb),.bool true,i6 a,i6 c]⟩]
set_option maxRecDepth 100000 in
set_option maxHeartbeats 4000000 in
theorem read_off (n lb mb pb:Nat) (a c k:Int) (w:World) (hs:Blk w pb 90 [.slice (some ⟨lb,0,none⟩) n n,.map (some mb),.bool true,.int .i64 a,.int .i64 c]) :
  Calls Try.prog 59 #[.pointer (some ⟨pb,0,none⟩),.int .i64 k] w (RetK (.tuple #[.string ⟨#[]⟩,.int .i64 70]) w):=by
 refine calls_of_holds (S:=(fun _=>False)) (l:=[(pt pb 0),.int .i64 k]) (n:=36) Try.func59 (body_of (by kernel_rfl)) rfl (by simp) (MemOk.start (bk:=(pro_b1 n a c lb mb pb)) (wn:=[]) (by simpa using hs) (by simp) (by simp) (by simp)) ?_
 refine hgE 22 [oh0,oh0,oh0,oh0,oh0,(oA 0 2 1),oh1,oh0,oh0] [0,1,4,5] [tT] [(pb,2,1)] [.code [1,0,1,0,1],.code [1,1]] ⟨[(0,(pt pb 0)),(1,i6 k),(4,sT ⟨#[]⟩),(5,i6 70)],(pro_b1 n a c lb mb pb),[],w.heap.size⟩ ?_
 refine hrt [] [sT ⟨#[]⟩,i6 70] [] ?_
 intro wx hm
 exact ⟨rfl,hm.kept⟩
def sgo_v1:List Value:=[.bool false] ++ rp 3 (.int .i64 0) ++ [.string ⟨#[]⟩,.bool false] ++ rp 3 (.int .i64 0) ++ [.string ⟨#[]⟩]
set_option maxRecDepth 100000 in
set_option maxHeartbeats 4000000 in
theorem get_out (M:Pl) (sb pb:Nat) (st k:Int) (hk:¬ (0 ≤ k ∧ k < st)) (w:World) (hs:Blk w sb 92 [.pointer (some ⟨pb,0,none⟩),.int .i64 st]) :
  Calls Try.prog 23 #[.pointer (some ⟨sb,0,none⟩),.int .i64 k] w (RetK (.tuple #[.agg (getGR st M k).cells.toArray,.int .i64 (getGE st M k)]) w):=by
 refine calls_of_holds (S:=(fun _=>False)) (l:=[(pt sb 0),.int .i64 k]) (n:=37) Try.func23 (body_of (by kernel_rfl)) rfl (by simp) (MemOk.start (bk:=[⟨sb,92,false,[(pt pb 0),.int .i64 st]⟩]) (wn:=[]) (by simpa using hs) (by simp) (by simp) (by simp)) ?_
 refine hgE 13 [oh0,oh0,oh0,oh0] [0,1,4,5,9,10] [] [] [.ops [1,0,0] [2,3],.code [1,0,1],.code [1,1]] ⟨[(0,(pt sb 0)),(1,i6 k),(4,(pt w.heap.size 0)),(5,i6 0),(9,(pt sb 0)),(10,i6 k)],[⟨sb,92,false,[(pt pb 0),i6 st]⟩,⟨w.heap.size,25,true,(sgo_v1)⟩],[],w.heap.size + 1⟩ ?_
 refine hcp (.bool false) 58 [(pt sb 0),i6 k] (some 11) [] tI rfl (fun wx hm=>shas_false sb pb st k hk wx (hm.at_ 0 rfl)) fun z2 hz2=>?_
 replace hz2:w.heap.size + 1 ≤ z2:=hz2
 refine hgE 12 [oh0,oh1,oh0,(oA 1 0 10),oh0] [0,1,4,5] [tT] [(w.heap.size,0,10)] [.code [1,0,1,0,1],.code [1,1]] ⟨[(0,(pt sb 0)),(1,i6 k),(4,(pt w.heap.size 0)),(5,i6 80)],[⟨sb,92,false,[(pt pb 0),i6 st]⟩,⟨w.heap.size,25,true,(sgo_v1)⟩],[],z2⟩ ?_
 refine hrt [[⟨false,1,0,10⟩]] [.agg (List.toArray (sgo_v1)),i6 80] [(w.heap.size,0,10)] ?_
 intro wx hm
 have e1:inS st k = false:=by
  cases e:inS st k
  ·rfl
  ·exact absurd (inS_iff.1 e) hk
 have e2:getGR st M k = blankR 0:=by unfold getGR; rw [e1]; rfl
 have e3:getGE st M k = 80:=by unfold getGE; rw [e1]; rfl
 exact ⟨by rw [e2,e3]; rfl,hm.kept⟩
def sgf_v1:List Value:=sgo_v1
@[simp] def sgf_b1 (st:Int) (pb:Nat) (sb:Nat) (w:World):List Bk:=[⟨sb,92,false,[(pt pb 0),i6 st]⟩,⟨w.heap.size,25,true,(sgf_v1)⟩]
set_option maxRecDepth 100000 in
set_option maxHeartbeats 4000000 in
theorem get_off (M:Pl) (sb pb:Nat) (st k:Int) (hk:0 ≤ k ∧ k < st) (hoff:M.off = true) (w:World) (hP:PlatAt 90 94 w pb M) (hs:Blk w sb 92 [.pointer (some ⟨pb,0,none⟩),.int .i64 st]) :
  Calls Try.prog 23 #[.pointer (some ⟨sb,0,none⟩),.int .i64 k] w (RetK (.tuple #[.agg (getGR st M k).cells.toArray,.int .i64 (getGE st M k)]) w):=by
 refine calls_of_holds (S:=(fun _=>False)) (l:=[(pt sb 0),.int .i64 k]) (n:=37) Try.func23 (body_of (by kernel_rfl)) rfl (by simp) (MemOk.start (bk:=[⟨sb,92,false,[(pt pb 0),.int .i64 st]⟩]) (wn:=[]) (by simpa using hs) (by simp) (by simp) (by simp)) ?_
 refine hgE 13 [oh0,oh0,oh0,oh0] [0,1,4,5,9,10] [] [] [.ops [1,0,0] [2,3],.code [1,0,1],.code [1,1]] ⟨[(0,(pt sb 0)),(1,i6 k),(4,(pt w.heap.size 0)),(5,i6 0),(9,(pt sb 0)),(10,i6 k)],(sgf_b1 st pb sb w),[],w.heap.size + 1⟩ ?_
 refine hcp (.bool true) 58 [(pt sb 0),i6 k] (some 11) [] tI rfl (fun wx hm=>shas_true sb pb st k hk wx (hm.at_ 0 rfl)) fun z2 hz2=>?_
 replace hz2:w.heap.size + 1 ≤ z2:=hz2
 refine hgE 14 [oh0,oh0,oh0,oh0,oh0,(oA 0 0 1),oh0] [1,4,5,18,19] [fF] [(sb,0,1)] [.ops [1,1,0] [5,6,7,8,9,10],.code [1,1,1]] ⟨[(1,i6 k),(4,(pt w.heap.size 0)),(5,i6 0),(18,(pt pb 0)),(19,i6 k)],(sgf_b1 st pb sb w),[],z2⟩ ?_
 refine hcp (.tuple #[sT (⟨#[]⟩),i6 70]) 59 [(pt pb 0),i6 k] (some 20) [] tI rfl (fun wx hm=>read_off M.n M.lb M.mb pb M.acts M.armed k wx (by have h:=(hP.kept hm.kept (fun _ _ h=>h)).p; unfold platCells at h; rw [hoff] at h; exact h)) fun z4 hz4=>?_
 replace hz4:z2 ≤ z4:=hz4
 refine hgE 23 [oh0,oh0,oh0,oh0,oh0,oh0,oh0,oh1,oh0,oh0,(oA 1 0 10),oh0] [1,4,5,6,7] [tT] [(w.heap.size,0,10)] [.code [1,1,1,0,1,0,1],.code [1,1,1,1]] ⟨[(1,i6 k),(4,(pt w.heap.size 0)),(5,i6 70),(6,sT (⟨#[]⟩)),(7,i6 70)],(sgf_b1 st pb sb w),[],z4⟩ ?_
 refine hrt [[⟨false,1,0,10⟩]] [.agg (List.toArray (sgf_v1)),i6 70] [(w.heap.size,0,10)] ?_
 intro wx hm
 have e1:=inS_iff.2 hk
 have e2:getGR st M k = blankR 0:=by unfold getGR; rw [e1,hoff]; rfl
 have e3:getGE st M k = 70:=by unfold getGE; rw [e1,hoff]; rfl
 exact ⟨by rw [e2,e3]; rfl,hm.kept⟩
theorem getG_pl (M:Pl) (sb pb:Nat) (st k:Int) (hst:st ≤ (M.n:Int)) (w:World) (hP:PlatAt 90 94 w pb M) (hs:Blk w sb 92 [.pointer (some ⟨pb,0,none⟩),.int .i64 st]) :
  Calls Try.prog 23 #[.pointer (some ⟨sb,0,none⟩),.int .i64 k] w (RetK (.tuple #[.agg (getGR st M k).cells.toArray,.int .i64 (getGE st M k)]) w):=by
 by_cases hk:0 ≤ k ∧ k < st
 ·cases hoff:M.off with
  | true=>exact get_off M sb pb st k hk hoff w hP hs
  | false=>
   have h:=get_pl M sb pb st k hk (by omega) hoff w hP hs
   have e1:=inS_iff.2 hk
   rw [show getGR st M k = gotM M k by unfold getGR; rw [e1,hoff]; rfl,show getGE st M k = 0 by unfold getGE; rw [e1,hoff]; rfl]
   exact h
 ·exact get_out M sb pb st k hk w hs
def sso_v1 (r:RecM):List Value:=[.bool r.used,i6 r.fence,i6 r.de,i6 r.ds,sT r.block,.bool r.op,i6 r.ie,i6 r.is,i6 r.mask,sT r.staged]
set_option maxRecDepth 100000 in
set_option maxHeartbeats 4000000 in
theorem set_out (sb pb:Nat) (st k:Int) (r:RecM) (hk:¬ (0 ≤ k ∧ k < st)) (w:World) (hs:Blk w sb 92 [.pointer (some ⟨pb,0,none⟩),.int .i64 st]) :
  Calls Try.prog 24 #[.pointer (some ⟨sb,0,none⟩),.int .i64 k,.agg #[.bool r.used,.int .i64 r.fence,.int .i64 r.de,.int .i64 r.ds,.string r.block,.bool r.op,.int .i64 r.ie,.int .i64 r.is,.int .i64 r.mask,.string r.staged]] w (RetK (.int .i64 80) w):=by
 refine calls_of_holds (S:=(fun _=>False)) (l:=[(pt sb 0),.int .i64 k,.agg (List.toArray (sso_v1 r))]) (n:=38) Try.func24 (body_of (by kernel_rfl)) rfl (by simp) (MemOk.start (bk:=[⟨sb,92,false,[(pt pb 0),.int .i64 st]⟩]) (wn:=[]) (by simpa using hs) (by simp) (by simp) (by simp)) ?_
 refine hgE 13 [oh0,oh0,oh0,oh0] [0,1,5,6,10,11] [] [] [.ops [1,0,0] [2,3],.code [1,0,1],.code [1,1]] ⟨[(0,(pt sb 0)),(1,i6 k),(5,(pt w.heap.size 0)),(6,i6 0),(10,(pt sb 0)),(11,i6 k)],[⟨sb,92,false,[(pt pb 0),i6 st]⟩,⟨w.heap.size,25,true,(sso_v1 r)⟩],[],w.heap.size + 1⟩ ?_
 refine hcp (.bool false) 58 [(pt sb 0),i6 k] (some 12) [] tI rfl (fun wx hm=>shas_false sb pb st k hk wx (hm.at_ 0 rfl)) fun z2 hz2=>?_
 replace hz2:w.heap.size + 1 ≤ z2:=hz2
 refine hgE 10 [oh0,oh1,oh0] [0,1,5,6] [tT] [] [.code [1,0,1,0,1],.code [1,1]] ⟨[(0,(pt sb 0)),(1,i6 k),(5,(pt w.heap.size 0)),(6,i6 80)],[⟨sb,92,false,[(pt pb 0),i6 st]⟩,⟨w.heap.size,25,true,(sso_v1 r)⟩],[],z2⟩ ?_
 refine hrt [] [i6 80] [] ?_
 intro wx hm
 exact ⟨rfl,hm.kept⟩
def ssb_v1 (r:RecM):List Value:=(sso_v1 r)
@[simp] def ssb_b1 (st:Int) (r:RecM) (pb:Nat) (sb:Nat) (w:World):List Bk:=[⟨sb,92,false,[(pt pb 0),i6 st]⟩,⟨w.heap.size,25,true,(ssb_v1 r)⟩]
set_option maxRecDepth 100000 in
set_option maxHeartbeats 4000000 in
theorem set_bad (sb pb:Nat) (st k:Int) (r:RecM) (hk:0 ≤ k ∧ k < st) (hb:okB r = false) (w:World) (hs:Blk w sb 92 [.pointer (some ⟨pb,0,none⟩),.int .i64 st]) :
  Calls Try.prog 24 #[.pointer (some ⟨sb,0,none⟩),.int .i64 k,.agg #[.bool r.used,.int .i64 r.fence,.int .i64 r.de,.int .i64 r.ds,.string r.block,.bool r.op,.int .i64 r.ie,.int .i64 r.is,.int .i64 r.mask,.string r.staged]] w (RetK (.int .i64 80) w):=by
 refine calls_of_holds (S:=(fun _=>False)) (l:=[(pt sb 0),.int .i64 k,.agg (List.toArray (ssb_v1 r))]) (n:=38) Try.func24 (body_of (by kernel_rfl)) rfl (by simp) (MemOk.start (bk:=[⟨sb,92,false,[(pt pb 0),.int .i64 st]⟩]) (wn:=[]) (by simpa using hs) (by simp) (by simp) (by simp)) ?_
 refine hgE 13 [oh0,oh0,oh0,oh0] [0,1,5,6,10,11] [] [] [.ops [1,0,0] [2,3],.code [1,0,1],.code [1,1]] ⟨[(0,(pt sb 0)),(1,i6 k),(5,(pt w.heap.size 0)),(6,i6 0),(10,(pt sb 0)),(11,i6 k)],(ssb_b1 st r pb sb w),[],w.heap.size + 1⟩ ?_
 refine hcp (.bool true) 58 [(pt sb 0),i6 k] (some 12) [] tI rfl (fun wx hm=>shas_true sb pb st k hk wx (hm.at_ 0 rfl)) fun z2 hz2=>?_
 replace hz2:w.heap.size + 1 ≤ z2:=hz2
 refine hgE 11 [oh0,oh0,oh0,(oA 1 0 10)] [0,1,6,15,16] [fF] [(w.heap.size,0,10)] [.ops [1,1,0] [2,3,4,5,6,7],.code [1,1,1]] ⟨[(0,(pt sb 0)),(1,i6 k),(6,i6 0),(15,i6 k),(16,.agg (List.toArray (ssb_v1 r)))],(ssb_b1 st r pb sb w),[],z2⟩ ?_
 refine hcp (.tuple #[sT (packT k r),i6 80]) 12 [i6 k,.agg (List.toArray (ssb_v1 r))] (some 17) [] tI rfl (fun wx hm=>by have h:=pack_any k r wx; rw [show packE k r = 80 by unfold packE packGood; rw [hb,Bool.and_false]; rfl] at h; exact h) fun z4 hz4=>?_
 replace hz4:z2 ≤ z4:=hz4
 refine hgE 21 [oh0,oh0,oh0,oh0,oh0,oh0,oh0,oh1,oh0,oh0] [0,1,6,7] [tT] [] [.code [1,1,1,0,1,0,1],.code [1,1,1,1]] ⟨[(0,(pt sb 0)),(1,i6 k),(6,i6 80),(7,sT (packT k r))],(ssb_b1 st r pb sb w),[],z4⟩ ?_
 refine hrt [] [i6 80] [] ?_
 intro wx hm
 exact ⟨rfl,hm.kept⟩
theorem setG_pl (M:Pl) (sb pb:Nat) (st k:Int) (r:RecM) (h8:st ≤ 8) (hst:st ≤ (M.n:Int)) (ha:M.acts < 4611686018427387900) (hsb:¬ minePl pb M sb) (w:World) (hP:PlatAt 90 94 w pb M) (hs:Blk w sb 92 [.pointer (some ⟨pb,0,none⟩),.int .i64 st]) :
  Calls Try.prog 24 #[.pointer (some ⟨sb,0,none⟩),.int .i64 k,.agg #[.bool r.used,.int .i64 r.fence,.int .i64 r.de,.int .i64 r.ds,.string r.block,.bool r.op,.int .i64 r.ie,.int .i64 r.is,.int .i64 r.mask,.string r.staged]] w (fun e w'=>e = .returned (.int .i64 (setGE st M k r)) ∧ PlatAt 90 94 w' pb (setGP st M k r) ∧ Kept (minePl pb M) w w'):=by
 have hbad:setOkB st k r = false → setGE st M k r = 80 ∧ setGP st M k r = M:=fun h=>by unfold setGE setGP; rw [h]; exact ⟨rfl,rfl⟩
 by_cases hk:0 ≤ k ∧ k < st
 ·cases hb:okB r with
  | false=>
   obtain ⟨e1,e2⟩:=hbad (by unfold setOkB; rw [hb,Bool.and_false])
   rw [e1,e2]
   exact (set_bad sb pb st k r hk hb w hs).mono fun e w' ⟨h1,h2⟩=>⟨h1,hP.kept h2 (fun _ _ h=>h),h2.mono (fun _ _ h=>h.elim)⟩
  | true=>
   have e0:setOkB st k r = true:=by unfold setOkB; rw [hb,inS_iff.2 hk]; rfl
   rw [show setGE st M k r = setE M k r by unfold setGE; rw [e0]; rfl,show setGP st M k r = setPl M k r by unfold setGP; rw [e0]; rfl]
   exact set_pl M sb pb st k r ((okB_iff r).1 hb) (by omega) hk (by omega) ha hsb w hP hs
 ·have e0:inS st k = false:=by
   cases e:inS st k
   ·rfl
   ·exact absurd (inS_iff.1 e) hk
  obtain ⟨e1,e2⟩:=hbad (by unfold setOkB; rw [e0,Bool.false_and])
  rw [e1,e2]
  exact (set_out sb pb st k r hk w hs).mono fun e w' ⟨h1,h2⟩=>⟨h1,hP.kept h2 (fun _ _ h=>h),h2.mono (fun _ _ h=>h.elim)⟩
@[simp] def phf_b1 (n:Nat) (a:Int) (c:Int) (lb:Nat) (mb:Nat) (pb:Nat) (off:Bool):List Bk:=[⟨pb,90,false,[.slice (some ⟨lb,0,none⟩) n n,.map (some mb),.bool off,i6 a,i6 c]⟩]
set_option maxRecDepth 100000 in
set_option maxHeartbeats 4000000 in
theorem has_false (n lb mb pb:Nat) (off:Bool) (a c k:Int) (hk:¬ (0 ≤ k ∧ k < (n:Int))) (w:World) (hs:Blk w pb 90 [.slice (some ⟨lb,0,none⟩) n n,.map (some mb),.bool off,.int .i64 a,.int .i64 c]) :
  Calls Try.prog 57 #[.pointer (some ⟨pb,0,none⟩),.int .i64 k] w (RetK (.bool false) w):=by
 refine calls_of_holds (S:=(fun _=>False)) (l:=[(pt pb 0),.int .i64 k]) (n:=16) Try.func57 (body_of (by kernel_rfl)) rfl (by simp) (MemOk.start (bk:=(phf_b1 n a c lb mb pb off)) (wn:=[]) (by simpa using hs) (by simp) (by simp) (by simp)) ?_
 by_cases h1:k < 0
 ·skip
  refine hgE 22 [oh0,oh0,oh0,oh0,oh0,oh0,oh0,oh0,oh0,oh0,oh0,⟨false,3,[]⟩,oh0] [4] [dF ((k:Int) ≥ 0),dF ((k:Int) ≥ 0),dF ((k:Int) ≥ 0),dF ((k:Int) ≥ 0),dF ((k:Int) ≥ 0),dF ((k:Int) ≥ 0),dF ((k:Int) ≥ 0),dF ((k:Int) ≥ 0)] [] [.code [1,1]] ⟨[(4,.bool false)],(phf_b1 n a c lb mb pb off),[],w.heap.size⟩ ?_
  refine hrt [] [.bool false] [] ?_
  intro wx hm
  exact ⟨rfl,hm.kept⟩
 ·skip
  refine hgE 22 [oh0,oh0,oh0,oh0,oh1,oh1,oh1,oh1,⟨true,0,[⟨false,0,0,1⟩]⟩,oh1,oh1,oh3,oh0] [4] [dT ((k:Int) ≥ 0),dT ((k:Int) ≥ 0),dT ((k:Int) ≥ 0),dT ((k:Int) ≥ 0),dT ((k:Int) ≥ 0),dT ((k:Int) ≥ 0),dT ((k:Int) ≥ 0),dT ((k:Int) ≥ 0)] [(pb,0,1)] [.code [1,1]] ⟨[(4,.bool (decide ((k:Int) < (n:Int))))],(phf_b1 n a c lb mb pb off),[],w.heap.size⟩ ?_
  refine hrt [] [.bool (decide ((k:Int) < (n:Int)))] [] ?_
  intro wx hm
  exact ⟨ret_bool (decide_eq_false (by omega)),hm.kept⟩
def pwx_v1 (n:Nat) (a:Int) (c:Int) (lb:Nat) (mb:Nat):List Value:=[.slice (some ⟨lb,0,none⟩) n n,.map (some mb),.bool (decide (c = 1)),i6 (a + 1),i6 (dn c)]
@[simp] def pwx_b1 (n:Nat) (a:Int) (c:Int) (lb:Nat) (mb:Nat) (pb:Nat):List Bk:=[⟨pb,90,true,[.slice (some ⟨lb,0,none⟩) n n,.map (some mb),.bool false,i6 a,i6 c]⟩]
set_option maxRecDepth 100000 in
set_option maxHeartbeats 4000000 in
theorem write_out (n lb mb pb:Nat) (a c:Int) (ha:0 ≤ a ∧ a < 4611686018427387904) (hc:0 ≤ c ∧ c < 4611686018427387904) (hc1:decide (c = 1) = false) (k:Int) (s:ByteArray) (hk:¬ (0 ≤ k ∧ k < (n:Int))) (w:World) (hs:Blk w pb 90 [.slice (some ⟨lb,0,none⟩) n n,.map (some mb),.bool false,.int .i64 a,.int .i64 c]) :
  Calls Try.prog 22 #[.pointer (some ⟨pb,0,none⟩),.int .i64 k,.string s] w (fun e w'=>e = .returned (.int .i64 1) ∧ Blk w' pb 90 [.slice (some ⟨lb,0,none⟩) n n,.map (some mb),.bool (decide (c = 1)),.int .i64 (a + 1),.int .i64 (dn c)] ∧ Kept (fun x=>x = pb) w w'):=by
 refine calls_of_holds (S:=(fun x=>x = pb)) (l:=[(pt pb 0),.int .i64 k,.string s]) (n:=28) Try.func22 (body_of (by kernel_rfl)) rfl (by simp) (MemOk.start (bk:=(pwx_b1 n a c lb mb pb)) (wn:=[]) (by simpa using hs) (by simp) (by simp) (by simp)) ?_
 refine hgE 11 [oh0,oh0] [0,1,2,6,7] [] [] [.ops [1,0,0] [1,2],.code [1,0,1],.code [1,1]] ⟨[(0,(pt pb 0)),(1,i6 k),(2,sT s),(6,i6 0),(7,(pt pb 0))],(pwx_b1 n a c lb mb pb),[],w.heap.size⟩ ?_
 refine holds_callM (.bool (!decide (c = 1))) [⟨pb,90,true,(pwx_v1 n a c lb mb)⟩] (show _ = some (56,[(pt pb 0)],some 8,[]) by kernel_rfl) tI rfl (fun wx hm=>?_) fun z2 hz2=>?_
 ·refine (act_live n lb mb pb a c ha hc wx (hm.at_ 0 rfl)).mono fun e w' he=>?_
  obtain ⟨h7,h8,h9⟩:=he
  exact ⟨h7,hm.set1 0 rfl rfl h9 h8⟩
 replace hz2:w.heap.size ≤ z2:=hz2
 refine hgE 12 [oh0,oh0,oh0,oh0] [0,1,2,6,10,11] [oE ((!(!decide (c = 1))) = false) (by rw [show (!decide (c = 1)) = true from (by rw [hc1]; rfl)]; rfl)] [] [.ops [1,1,0,0] [2,3,4,5,6,7,8],.code [1,1,0,1],.code [1,1,1]] ⟨[(0,(pt pb 0)),(1,i6 k),(2,sT s),(6,i6 0),(10,(pt pb 0)),(11,i6 k)],[⟨pb,90,true,(pwx_v1 n a c lb mb)⟩],[],z2⟩ ?_
 refine hcp (.bool false) 57 [(pt pb 0),i6 k] (some 12) [] tI rfl (fun wx hm=>has_false n lb mb pb (decide (c = 1)) (a + 1) (dn c) k hk wx (hm.at_ 0 rfl)) fun z4 hz4=>?_
 replace hz4:z2 ≤ z4:=hz4
 refine hgE 15 [oh0,oh0,oh1,oh1,oh1,oh3,oh1,oh0] [0,1,2,6] [tT,tT,tT,tT,tT] [] [.code [1,1,0,1,0,1],.code [1,1,1]] ⟨[(0,(pt pb 0)),(1,i6 k),(2,sT s),(6,i6 1)],[⟨pb,90,true,(pwx_v1 n a c lb mb)⟩],[],z4⟩ ?_
 refine hrt [] [i6 1] [] ?_
 intro wx hm
 exact ⟨rfl,hm.at_ 0 rfl,hm.kept⟩
theorem writeG_pl (M:Pl) (pb:Nat) (k:Int) (s:ByteArray) (ha:M.acts < 4611686018427387904) (hs:s.size = 64) (w:World) (hP:PlatAt 90 94 w pb M) :
  Calls Try.prog 22 #[.pointer (some ⟨pb,0,none⟩),.int .i64 k,.string s] w (fun e w'=>e = .returned (.int .i64 (wrE M k)) ∧ PlatAt 90 94 w' pb (wrPl M k (intsOf s)) ∧ Kept (minePl pb M) w w'):=by
 by_cases hk:inP M k
 ·rw [show wrPl M k (intsOf s) = writePl M k (intsOf s) from if_pos hk,show wrE M k = goesE M by unfold wrE goesE; rw [if_pos hk]; cases M.goes <;> rfl]
  exact write_pl M pb k s ha hk hs w hP
 ·rw [show wrPl M k (intsOf s) = actPl M from if_neg hk]
  have hok:=hP.ok.act
  have ha2:=hP.ok.a0
  have hc2:=hP.ok.c0
  obtain ⟨h1,h2,h3,h4⟩:=hP
  obtain ⟨lb,mb,n,last,cs,ck,off,a,c⟩:=M
  cases off with
  | true=>exact (write_off n lb mb pb a c k s w h1).mono fun e w' ⟨he,hk⟩=>⟨he,⟨h1.kept hk id,h2.kept hk id,h3.kept hk id,h4⟩,hk.mono (fun _ _ h=>h.elim)⟩
  | false=>
   have e2:actPl ⟨lb,mb,n,last,cs,ck,false,a,c⟩ = ⟨lb,mb,n,last,cs,ck,decide (c = 1),a + 1,dn c⟩:=rfl
   rw [e2] at hok ⊢
   cases hc1:decide (c = 1) with
   | true=>
    have e1:wrE ⟨lb,mb,n,last,cs,ck,false,a,c⟩ k = 70:=by simp [wrE,Pl.goes,hc1]
    rw [e1]
    rw [hc1] at hok
    refine (write_cut n lb mb pb a c ⟨ha2,ha⟩ hc2 hc1 k s w h1).mono fun e w' ⟨he,hB,hk⟩=>⟨he,⟨by rw [hc1] at hB; exact hB,h2.kept hk (fun e=>h4.ne2 e.symm),h3.kept hk (fun e=>h4.ne1 e.symm),hok⟩,hk.mono (fun _ _ h=>.inl h)⟩
   | false=>
    have e1:wrE ⟨lb,mb,n,last,cs,ck,false,a,c⟩ k = 1:=by simp [wrE,Pl.goes,hc1,hk]
    rw [e1]
    rw [hc1] at hok
    refine (write_out n lb mb pb a c ⟨ha2,ha⟩ hc2 hc1 k s hk w h1).mono fun e w' ⟨he,hB,hk⟩=>⟨he,⟨by rw [hc1] at hB; exact hB,h2.kept hk (fun e=>h4.ne2 e.symm),h3.kept hk (fun e=>h4.ne1 e.symm),hok⟩,hk.mono (fun _ _ h=>.inl h)⟩
def sfg_v1:List Value:=((sgo_v1.set 0 (.bool true)).set 4 (.string zeros16))
@[simp] def sfg_b1 (n:Nat) (pb:Nat) (sb:Nat) (z2:Nat):List Bk:=[⟨sb,92,false,[(pt pb 0),i6 (n:Int)]⟩,⟨z2,25,true,(sfg_v1)⟩]
def FormGI (n:Nat) (M:Pl) (pb:Nat) (sb:Nat) (z2:Nat)  (m:Nat) (st:St) (W1:World):Prop:=
 ∃ (i:Nat) (M2:Pl) (z:Nat),m + i = n ∧ fmtG M 0 n = fmtG M2 i m ∧ minePl pb M2 = minePl pb M ∧ M2.n = M.n ∧ M2.acts ≤ M.acts + 2 * (i:Int) ∧ PlatAt 90 94 W1 pb M2 ∧ st = ⟨[(0,(pt sb 0)),(2,.int .i64 0),(3,(pt z2 0)),(11,.int .i64 (n:Int)),(12,.int .i64 (i:Int))],(sfg_b1 n pb sb z2),[],z⟩
set_option maxRecDepth 100000 in
set_option maxHeartbeats 4000000 in
theorem formatG_pl (M:Pl) (pb sb n:Nat) (ha:M.acts < 4611686018427380000) (hn8:n ≤ 8) (hnM:n ≤ M.n) (hsb:¬ minePl pb M sb) (w:World) (hP:PlatAt 90 94 w pb M) (hs:Blk w sb 92 [.pointer (some ⟨pb,0,none⟩),.int .i64 (n:Int)]) :
  Calls Try.prog 25 #[.pointer (some ⟨sb,0,none⟩)] w (fun e w'=>e = .returned (.int .i64 (fmtG M 0 n).1) ∧ PlatAt 90 94 w' pb (fmtG M 0 n).2 ∧ Kept (minePl pb M) w w'):=by
 refine calls_of_holds (S:=(fun _=>False)) (l:=[(pt sb 0)]) (n:=23) Try.func25 (body_of (by kernel_rfl)) rfl (by simp) (MemOk.start (bk:=[⟨sb,92,false,[(pt pb 0),.int .i64 (n:Int)]⟩]) (wn:=[]) (by simpa using hs) (by simp) (by simp) (by simp)) ?_
 refine hgE 9 [oh0] [0,2] [] [] [.ops [1,0] [0,1,2,3],.code [1,1]] ⟨[(0,(pt sb 0)),(2,i6 0)],[⟨sb,92,false,[(pt pb 0),i6 (n:Int)]⟩],[],w.heap.size⟩ ?_
 refine hcp (sT zeros16) 51 [sT ⟨#[0]⟩,i6 16] (some 6) [] tI rfl (fun wx hm=>zeros16_any wx) fun z2 hz2=>?_
 replace hz2:w.heap.size ≤ z2:=hz2
 refine hgE 17 [oh0,oh0,(oA 1 0 10),oh0,oh0,oh0,(oA 0 1 1),oh0] [0,2,3,11,12] [] [(z2,0,10),(sb,1,1)] [.code [1,1,0,1,0],.blk 0,.code [1,1,1]] ⟨[(0,(pt sb 0)),(2,i6 0),(3,(pt z2 0)),(11,i6 (n:Int)),(12,i6 0)],(sfg_b1 n pb sb z2),[],z2 + 1⟩ ?_
 refine holds_loopW (w:=w) (S':=minePl pb M) (FormGI n M pb sb z2) n (by kernel_rfl) (fun W3 hm=>⟨⟨0,M,_,rfl,rfl,rfl,rfl,by omega,hP.kept hm.kept (fun _ _ h=>h),rfl⟩,?_⟩) ?_
 ·have h:=hm.off (S':=minePl pb M) (fun _ h=>h.elim) (Kept.refl (fun _=>False) W3) (fun _ h=>h.elim) (fun _ _ h=>h)
  rwa [hm.size] at h
 rintro m _ W1 ⟨i,M2,z,hmi,hfm,hmn,hnn,hac,hP1,rfl⟩ hm1 J hJ
 have hPl:=hP.lt
 have hw1:=hm1.kept.size
 have hrl:z2 < W1.heap.size:=(hm1.at_ 1 rfl).lt
 have hrw:w.heap.size ≤ z2:=by omega
 have hmine:∀ x,minePl pb M x → x < w.heap.size:=fun x hx=>by
  obtain ⟨h1,h2,h3⟩:=hPl
  rcases hx with rfl | rfl | rfl <;> assumption
 have hnT:∀ x,minePl pb M2 x → ¬ Turned (sfg_b1 n pb sb z2) x:=by
  rw [hmn]
  rintro x hx ⟨b,hb,hr,he⟩
  have hx2:=hmine x hx
  simp at hb
  rcases hb with rfl | rfl <;> simp at he hr <;> omega
 have hnB:∀ b ∈ ((sfg_b1 n pb sb z2):List Bk),¬ minePl pb M2 b.g:=by
  rw [hmn]
  intro b hb h
  have hx2:=hmine _ h
  simp at hb
  rcases hb with rfl | rfl
  ·exact hsb h
  ·simp at hx2
   omega
 by_cases h1:i < n
 rotate_left
 ·skip
  refine hgE 14 [oh0,oh0,oh0] [2] [dF (((i:Int):Int) < (n:Int))] [] [.code [1,1,1,1]] ⟨[(2,i6 0)],(sfg_b1 n pb sb z2),[],W1.heap.size⟩ ?_
  refine hrt [] [i6 0] [] ?_
  intro wx hm
  have hm0:m = 0:=by omega
  rw [hm0] at hfm
  rw [hfm]
  exact ⟨rfl,hP1.kept hm.kept hnT,(hm1.back hm).kept⟩
 obtain ⟨m',rfl⟩:∃ m',m = m' + 1:=⟨m - 1,by omega⟩
 rw [show fmtG M2 i (m' + 1) = (bif setE M2 i fmtR == 0 then fmtG (setPl M2 i fmtR) (i + 1) m' else (setE M2 i fmtR,setPl M2 i fmtR)) from rfl] at hfm
 refine hgE 22 [oh0,oh1,oh0,oh0,oh0,oh0,(oA 1 0 10)] [0,2,3,11,12,15,16,17] [dT (((i:Int):Int) < (n:Int))] [(z2,0,10)] [.ops [1,1,0,1,0,0,1,1,0,0,1,0] [3,4],.code [1,1,0,1,0,0,1,1,0,0,1,1],.blk 1,.code [1,1,0,1,0,0,1,1,1],.inv J,.blk 0,.code [1,1,1]] ⟨[(0,(pt sb 0)),(2,i6 0),(3,(pt z2 0)),(11,i6 (n:Int)),(12,i6 (i:Int)),(15,(pt sb 0)),(16,i6 (i:Int)),(17,.agg (List.toArray (sfg_v1)))],(sfg_b1 n pb sb z2),[],W1.heap.size⟩ ?_
 refine holds_callW (w:=w) (S':=(minePl pb M)) (Y:=Nat) (fun _=>i6 (setE M2 (i:Int) fmtR)) (fun _=>(sfg_b1 n pb sb z2)) (fun _ W_=>PlatAt 90 94 W_ pb (setPl M2 (i:Int) fmtR)) (fun _=>[(18,i6 (setE M2 (i:Int) fmtR)),(0,(pt sb 0)),(2,i6 0),(3,(pt z2 0)),(11,i6 (n:Int)),(12,i6 (i:Int)),(15,(pt sb 0)),(16,i6 (i:Int)),(17,.agg (List.toArray (sfg_v1)))]) (show _ = some (24,[(pt sb 0),i6 (i:Int),.agg (List.toArray (sfg_v1))],some 18,[]) by kernel_rfl) tI (fun _=>rfl) (fun wx hm=>?_) (fun _ W2 hP2 hm2=>?_)
 ·refine (set_pl M2 sb pb (n:Int) (i:Int) fmtR fmtR_ok (by omega) (by omega) (by rw [hnn]; omega) (by omega) (by rw [hmn]; exact hsb) wx (hP1.kept hm.kept hnT) (hm.at_ 0 rfl)).mono fun e w' ⟨h1,h2,h3⟩=>?_
  exact ⟨0,h1,h2,(hm1.back hm).off (fun _ h=>h) h3 (fun x h=>.inl (by rw [hmn] at h; exact h)) hnB⟩
 refine hgE 10 [oh0,oh0,oh0] [0,2,3,5,11,12,20] [] [] [.code [1,1,0,1,0,0,1,1,0,0,1,1,1],.blk 1,.code [1,1,0,1,0,0,1,1,1],.inv J,.blk 0,.code [1,1,1]] ⟨[(0,(pt sb 0)),(2,i6 0),(3,(pt z2 0)),(5,i6 (setE M2 (i:Int) fmtR)),(11,i6 (n:Int)),(12,i6 (i:Int)),(20,.bool ((setE M2 (i:Int) fmtR) != 0))],(sfg_b1 n pb sb z2),[],W2.heap.size⟩ ?_
 by_cases d0:setE M2 (i:Int) fmtR = 0
 rotate_left
 ·skip
  refine hgE 9 [oh1,oh0,oh0] [0,2,3,11,12] [oE (((setE M2 (i:Int) fmtR) != 0) = true) (by simpa using d0)] [] [.code [1,1,0,1,0,0,1,1,0,0,1,1,1,0,1],.blk 1,.code [1,1,0,1,0,0,1,1,1],.inv J,.blk 0,.code [1,1,1]] ⟨[(0,(pt sb 0)),(2,i6 (setE M2 (i:Int) fmtR)),(3,(pt z2 0)),(11,i6 (n:Int)),(12,i6 (i:Int))],(sfg_b1 n pb sb z2),[],W2.heap.size⟩ ?_
  refine hrt [] [i6 (setE M2 (i:Int) fmtR)] [] ?_
  intro wx hm
  rw [show (setE M2 (i:Int) fmtR == 0) = false by simpa using d0,cond_false] at hfm
  rw [hfm]
  exact ⟨rfl,hP2.kept hm.kept (by rw [mine_set]; exact hnT),(hm2.back hm).kept⟩
 refine hgE 10 [oh0,oh2,oh0] [0,2,3,11,12] [oE (((setE M2 (i:Int) fmtR) != 0) = false) (by rw [d0]; rfl),n64 (((i:Int) + 1))] [] [.inv J,.blk 0,.code [1,1,1]] ⟨[(0,(pt sb 0)),(2,i6 0),(3,(pt z2 0)),(11,i6 (n:Int)),(12,i6 ((i:Int) + 1))],(sfg_b1 n pb sb z2),[],W2.heap.size⟩ ?_
 refine holds_prune [0,2,3,11,12] [] ?_
 rw [show (setE M2 (i:Int) fmtR == 0) = true by rw [d0]; rfl,cond_true] at hfm
 have hac2:=acts_set M2 (i:Int) fmtR
 intro a w4 hf hm
 exact hJ m' _ a w4 (by omega) ⟨i + 1,setPl M2 (i:Int) fmtR,W2.heap.size,by omega,hfm,by rw [mine_set,hmn],by rw [set_n,hnn],by omega,hP2.kept hm.kept (by rw [mine_set]; exact hnT),by rw [← cast_succ i]; rfl⟩ hf (hm2.back hm)
end Go.Proofs.Ytpilmccjjbgmiaa
