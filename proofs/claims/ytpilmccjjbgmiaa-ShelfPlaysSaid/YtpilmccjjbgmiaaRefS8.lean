import Derived.Test.YtpilmccjjbgmiaaRefF7
import Derived.Test.YtpilmccjjbgmiaaShelfG
import Derived.Test.YtpilmccjjbgmiaaUnpackR8
namespace Go.Proofs.Ytpilmccjjbgmiaa
open Go.RowKit
def RefAt (tR tS tB:TypeId) (w:World) (g:G7) (M:Pl):Prop:=∃ R,RfAt tR tS tB w g R ∧ Sim7 M g.n R
theorem RefAt.kept {tR tS tB:TypeId} {w w':World} {g:G7} {M:Pl} {T:Nat → Prop} (h:RefAt tR tS tB w g M) (hk:Kept T w w') (hT:∀ x,g.mine x → ¬ T x):RefAt tR tS tB w' g M:=by
 obtain ⟨R,h1,h2⟩:=h
 exact ⟨R,h1.kept hk hT,h2⟩
theorem RefAt.lt {tR tS tB:TypeId} {w:World} {g:G7} {M:Pl} (h:RefAt tR tS tB w g M):∀ x,g.mine x → x < w.heap.size:=by
 obtain ⟨R,h1,_⟩:=h
 exact h1.lt
theorem RefAt.n {tR tS tB:TypeId} {w:World} {g:G7} {M:Pl} (h:RefAt tR tS tB w g M):M.n = g.n:=by
 obtain ⟨R,_,h2⟩:=h
 exact h2.hn
set_option maxRecDepth 100000 in
set_option maxHeartbeats 4000000 in
theorem rshelfNew_bad (M:Pl) (g:G7) (st:Int) (hst:¬ (1 ≤ st ∧ st ≤ 8 ∧ st ≤ (M.n:Int))) (w:World) (hF:RefAt 99 9 4 w g M) :
  Calls Try.prog 30 #[.pointer (some ⟨g.qb,0,none⟩),.int .i64 st] w (RetK (.tuple #[.pointer none,.int .i64 1]) w):=by
 refine calls_of_holds (S:=(fun _=>False)) (l:=[(pt g.qb 0),.int .i64 st]) (n:=26) Try.func30 (body_of (by kernel_rfl)) rfl (by simp) (MemOk.none w _) ?_
 have hgn:=hF.n
 by_cases h1:st < 1
 ·skip
  refine hgE 34 [oh0,oh0,oh0,oh0,oh0,oh0,oh0,⟨false,3,[]⟩,oh0,oh1,oh1,oh3,oh0,oh1,oh1,oh1,oh1,oh3,oh1,oh0,oh0] [0,1,4,5] [fF,fF,fF,dT ((st:Int) < 1),dT ((st:Int) < 1),dT ((st:Int) < 1),tT,tT,tT,tT,tT,tT] [] [.code [1,0,1,0,1],.code [1,1]] ⟨[(0,(pt g.qb 0)),(1,i6 st),(4,.pointer none),(5,i6 1)],[],[],w.heap.size⟩ ?_
  refine hrt [] [.pointer none,i6 1] [] ?_
  intro wx hm
  exact ⟨rfl,hm.kept⟩
 by_cases h2:8 < st
 ·skip
  refine hgE 34 [oh0,oh0,oh0,oh0,oh0,oh0,oh0,⟨false,3,[]⟩,oh0,oh0,oh0,⟨false,3,[]⟩,oh0,oh1,oh1,oh1,oh1,oh3,oh1,oh0,oh0] [0,1,4,5] [fF,fF,fF,dF ((st:Int) < 1),dF ((st:Int) < 1),dF ((st:Int) < 1),dT ((st:Int) > 8),dT ((st:Int) > 8),dT ((st:Int) > 8),dT ((st:Int) > 8),dT ((st:Int) > 8),tT] [] [.code [1,0,1,0,1],.code [1,1]] ⟨[(0,(pt g.qb 0)),(1,i6 st),(4,.pointer none),(5,i6 1)],[],[],w.heap.size⟩ ?_
  refine hrt [] [.pointer none,i6 1] [] ?_
  intro wx hm
  exact ⟨rfl,hm.kept⟩
 have h3:(g.n:Int) < st:=by omega
 ·skip
  refine hgE 23 [oh0,oh0,oh0,oh0,oh0,oh0,oh0,⟨false,3,[]⟩,oh0,oh0,oh0,⟨false,3,[]⟩,oh0,oh0] [0,1,4,5,16,17] [fF,fF,fF,dF ((st:Int) < 1),dF ((st:Int) < 1),dF ((st:Int) < 1),dF ((st:Int) > 8)] [] [.ops [1,0,0] [12,13,14,15],.code [1,0,1],.code [1,1]] ⟨[(0,(pt g.qb 0)),(1,i6 st),(4,.pointer none),(5,i6 0),(16,.bool (decide ((st:Int) > 8))),(17,(pt g.qb 0))],[],[],w.heap.size⟩ ?_
  refine hcp (i6 (g.n:Int)) 63 [(pt g.qb 0)] (some 18) [(decide ((st:Int) > 8)) = false] ⟨decide_eq_false (by omega),tI⟩ rfl (fun wx hm=>rsectors_pl g (Classical.choose hF) wx ((Classical.choose_spec hF).1.kept hm.kept (fun _ _ h=>h))) fun z6 hz6=>?_
  replace hz6:w.heap.size ≤ z6:=hz6
  refine hgE 13 [oh0,oh0,⟨false,3,[]⟩,oh1,oh0,oh0] [0,1,4,5] [dF ((st:Int) > 8),dF ((st:Int) > 8),dF ((st:Int) > 8),dT (((g.n:Int):Int) < st)] [] [.code [1,0,1,0,1],.code [1,1]] ⟨[(0,(pt g.qb 0)),(1,i6 st),(4,.pointer none),(5,i6 1)],[],[],z6⟩ ?_
  refine hrt [] [.pointer none,i6 1] [] ?_
  intro wx hm
  exact ⟨rfl,hm.kept⟩
set_option maxRecDepth 100000 in
set_option maxHeartbeats 4000000 in
theorem rshelfNew_st (M:Pl) (g:G7) (st:Int) (hst:1 ≤ st ∧ st ≤ 8 ∧ st ≤ (M.n:Int)) (w:World) (hF:RefAt 99 9 4 w g M) :
  Calls Try.prog 30 #[.pointer (some ⟨g.qb,0,none⟩),.int .i64 st] w (fun e w'=>∃ sr,e = .returned (.tuple #[.pointer (some ⟨sr,0,none⟩),.int .i64 0]) ∧ w.heap.size ≤ sr ∧ Blk w' sr 102 [.pointer (some ⟨g.qb,0,none⟩),.int .i64 st] ∧ Kept (fun _=>False) w w'):=by
 refine calls_of_holds (S:=(fun _=>False)) (l:=[(pt g.qb 0),.int .i64 st]) (n:=26) Try.func30 (body_of (by kernel_rfl)) rfl (by simp) (MemOk.none w _) ?_
 have hgn:=hF.n
 refine hgE 23 [oh0,oh0,oh0,oh0,oh0,oh0,oh0,⟨false,3,[]⟩,oh0,oh0,oh0,⟨false,3,[]⟩,oh0,oh0] [0,1,4,5,16,17] [fF,fF,fF,dF ((st:Int) < 1),dF ((st:Int) < 1),dF ((st:Int) < 1),dF ((st:Int) > 8)] [] [.ops [1,0,0] [12,13,14,15],.code [1,0,1],.code [1,1]] ⟨[(0,(pt g.qb 0)),(1,i6 st),(4,.pointer none),(5,i6 0),(16,.bool (decide ((st:Int) > 8))),(17,(pt g.qb 0))],[],[],w.heap.size⟩ ?_
 refine hcp (i6 (g.n:Int)) 63 [(pt g.qb 0)] (some 18) [(decide ((st:Int) > 8)) = false] ⟨decide_eq_false (by omega),tI⟩ rfl (fun wx hm=>rsectors_pl g (Classical.choose hF) wx ((Classical.choose_spec hF).1.kept hm.kept (fun _ _ h=>h))) fun z2 hz2=>?_
 replace hz2:w.heap.size ≤ z2:=hz2
 refine hgE 18 [oh0,oh0,⟨false,3,[]⟩,oh0,oh0,oh0,oh0,oh0,oh0,oh0] [4,5] [dF ((st:Int) > 8),dF ((st:Int) > 8),dF ((st:Int) > 8),dF (((g.n:Int):Int) < st)] [] [.code [1,1,1]] ⟨[(4,(pt z2 0)),(5,i6 0)],[⟨z2,102,true,[(pt g.qb 0),i6 st]⟩],[],z2 + 1⟩ ?_
 refine hrt [] [(pt z2 0),i6 0] [] ?_
 intro wx hm
 exact ⟨z2,rfl,by omega,hm.at_ 0 rfl,hm.kept⟩
def rgo_v1:List Value:=[.bool false] ++ rp 3 (.int .i64 0) ++ [.string ⟨#[]⟩,.bool false] ++ rp 3 (.int .i64 0) ++ [.string ⟨#[]⟩]
set_option maxRecDepth 100000 in
set_option maxHeartbeats 4000000 in
theorem rget_out (M:Pl) (g:G7) (sr:Nat) (st k:Int) (hk:¬ (0 ≤ k ∧ k < st)) (w:World) (hs:Blk w sr 102 [.pointer (some ⟨g.qb,0,none⟩),.int .i64 st]) :
  Calls Try.prog 39 #[.pointer (some ⟨sr,0,none⟩),.int .i64 k] w (RetK (.tuple #[.agg (getGR st M k).cells.toArray,.int .i64 (getGE st M k)]) w):=by
 refine calls_of_holds (S:=(fun _=>False)) (l:=[(pt sr 0),.int .i64 k]) (n:=41) Try.func39 (body_of (by kernel_rfl)) rfl (by simp) (MemOk.start (bk:=[⟨sr,102,false,[(pt g.qb 0),.int .i64 st]⟩]) (wn:=[]) (by simpa using hs) (by simp) (by simp) (by simp)) ?_
 have e1:inS st k = false:=by
  cases e:inS st k
  ·rfl
  ·exact absurd (inS_iff.1 e) hk
 have e2:getGR st M k = blankR 0:=by unfold getGR; rw [e1]; rfl
 have e3:getGE st M k = 80:=by unfold getGE; rw [e1]; rfl
 by_cases h1:k < 0
 ·skip
  refine hgE 29 [oh0,oh0,oh0,oh0,oh0,oh1,oh1,oh1,oh1,oh1,oh1,oh3,oh1,oh0,(oA 1 0 10),oh0] [0,1,4,5] [dT ((k:Int) < 0),dT ((k:Int) < 0),dT ((k:Int) < 0),dT ((k:Int) < 0),dT ((k:Int) < 0),dT ((k:Int) < 0),dT ((k:Int) < 0),tT] [(w.heap.size,0,10)] [.code [1,0,1,0,1],.code [1,1]] ⟨[(0,(pt sr 0)),(1,i6 k),(4,(pt w.heap.size 0)),(5,i6 80)],[⟨sr,102,false,[(pt g.qb 0),i6 st]⟩,⟨w.heap.size,25,true,(rgo_v1)⟩],[],w.heap.size + 1⟩ ?_
  refine hrt [[⟨false,1,0,10⟩]] [.agg (List.toArray (rgo_v1)),i6 80] [(w.heap.size,0,10)] ?_
  intro wx hm
  exact ⟨by rw [e2,e3]; rfl,hm.kept⟩
 ·skip
  refine hgE 29 [oh0,oh0,oh0,oh0,oh0,oh0,oh0,oh0,oh0,(oA 0 1 1),oh0,⟨false,3,[]⟩,oh1,oh0,(oA 1 0 10),oh0] [0,1,4,5] [dF ((k:Int) < 0),dF ((k:Int) < 0),dF ((k:Int) < 0),dF ((k:Int) < 0),dF ((k:Int) < 0),dF ((k:Int) < 0),dF ((k:Int) < 0),dT ((k:Int) ≥ st)] [(sr,1,1),(w.heap.size,0,10)] [.code [1,0,1,0,1],.code [1,1]] ⟨[(0,(pt sr 0)),(1,i6 k),(4,(pt w.heap.size 0)),(5,i6 80)],[⟨sr,102,false,[(pt g.qb 0),i6 st]⟩,⟨w.heap.size,25,true,(rgo_v1)⟩],[],w.heap.size + 1⟩ ?_
  refine hrt [[⟨false,1,0,10⟩]] [.agg (List.toArray (rgo_v1)),i6 80] [(w.heap.size,0,10)] ?_
  intro wx hm
  exact ⟨by rw [e2,e3]; rfl,hm.kept⟩
def rgf_v1:List Value:=rgo_v1
set_option maxRecDepth 100000 in
set_option maxHeartbeats 4000000 in
theorem rget_off (M:Pl) (g:G7) (hk7:g.Ok) (sr kk:Nat) (st:Int) (hk:0 ≤ (kk:Int) ∧ (kk:Int) < st) (hst:st ≤ (g.n:Int)) (hoff:M.off = true) (w:World) (hF:RefAt 99 9 4 w g M) (hs:Blk w sr 102 [.pointer (some ⟨g.qb,0,none⟩),.int .i64 st]) :
  Calls Try.prog 39 #[.pointer (some ⟨sr,0,none⟩),.int .i64 (kk:Int)] w (RetK (.tuple #[.agg (getGR st M (kk:Int)).cells.toArray,.int .i64 (getGE st M (kk:Int))]) w):=by
 refine calls_of_holds (S:=(fun _=>False)) (l:=[(pt sr 0),.int .i64 (kk:Int)]) (n:=41) Try.func39 (body_of (by kernel_rfl)) rfl (by simp) (MemOk.start (bk:=[⟨sr,102,false,[(pt g.qb 0),.int .i64 st]⟩]) (wn:=[]) (by simpa using hs) (by simp) (by simp) (by simp)) ?_
 obtain ⟨R,hR,hS⟩:=hF
 have hgn:=hS.hn
 have e1:=inS_iff.2 hk
 have e2:getGR st M (kk:Int) = blankR 0:=by unfold getGR; rw [e1,hoff]; rfl
 have e3:getGE st M (kk:Int) = 70:=by unfold getGE; rw [e1,hoff]; rfl
 have e4:rdV M kk = .tuple #[.string ⟨#[]⟩,.int .i64 70]:=by unfold rdV; rw [hoff]; rfl
 refine hgE 31 [oh0,oh0,oh0,oh0,oh0,oh0,oh0,oh0,oh0,(oA 0 1 1),oh0,⟨false,3,[]⟩,oh0,oh0,oh0,oh0,(oA 0 0 1),oh0] [1,4,5,25,26] [dF (((kk:Int):Int) < 0),dF (((kk:Int):Int) < 0),dF (((kk:Int):Int) < 0),dF (((kk:Int):Int) < 0),dF (((kk:Int):Int) < 0),dF (((kk:Int):Int) < 0),dF (((kk:Int):Int) < 0),dF (((kk:Int):Int) ≥ st)] [(sr,1,1),(sr,0,1)] [.ops [1,1,0] [5,6,7,8,9,10],.code [1,1,1]] ⟨[(1,i6 (kk:Int)),(4,(pt w.heap.size 0)),(5,i6 0),(25,(pt g.qb 0)),(26,i6 (kk:Int))],[⟨sr,102,false,[(pt g.qb 0),i6 st]⟩,⟨w.heap.size,25,true,(rgf_v1)⟩],[],w.heap.size + 1⟩ ?_
 refine hcp (.tuple #[sT (⟨#[]⟩),i6 70]) 67 [(pt g.qb 0),i6 (kk:Int)] (some 27) [] tI rfl (fun wx hm=>by have h:=rread_pl g hk7 M R hS kk (by omega) wx (hR.kept hm.kept (fun _ _ h=>h)); rw [e4] at h; exact h) fun z2 hz2=>?_
 replace hz2:w.heap.size + 1 ≤ z2:=hz2
 refine hgE 23 [oh0,oh0,oh0,oh0,oh0,oh0,oh0,oh1,oh0,oh0,(oA 1 0 10),oh0] [1,4,5,6] [tT] [(w.heap.size,0,10)] [.code [1,1,1,0,1,0,1],.code [1,1,1,1]] ⟨[(1,i6 (kk:Int)),(4,(pt w.heap.size 0)),(5,i6 70),(6,sT (⟨#[]⟩))],[⟨sr,102,false,[(pt g.qb 0),i6 st]⟩,⟨w.heap.size,25,true,(rgf_v1)⟩],[],z2⟩ ?_
 refine hrt [[⟨false,1,0,10⟩]] [.agg (List.toArray (rgf_v1)),i6 70] [(w.heap.size,0,10)] ?_
 intro wx hm
 exact ⟨by rw [e2,e3]; rfl,hm.kept⟩
def rgn_v1:List Value:=rgo_v1
def rgn_v2 (kk:Nat) (M:Pl):List Value:=[.bool ((unpackR (kk:Int) (bytesI (readPl M (kk:Int)))).used),i6 ((unpackR (kk:Int) (bytesI (readPl M (kk:Int)))).fence),i6 ((unpackR (kk:Int) (bytesI (readPl M (kk:Int)))).de),i6 ((unpackR (kk:Int) (bytesI (readPl M (kk:Int)))).ds),sT ((unpackR (kk:Int) (bytesI (readPl M (kk:Int)))).block),.bool ((unpackR (kk:Int) (bytesI (readPl M (kk:Int)))).op),i6 ((unpackR (kk:Int) (bytesI (readPl M (kk:Int)))).ie),i6 ((unpackR (kk:Int) (bytesI (readPl M (kk:Int)))).is),i6 ((unpackR (kk:Int) (bytesI (readPl M (kk:Int)))).mask),sT ((unpackR (kk:Int) (bytesI (readPl M (kk:Int)))).staged)]
set_option maxRecDepth 100000 in
set_option maxHeartbeats 4000000 in
theorem rget_on (M:Pl) (g:G7) (hk7:g.Ok) (sr kk:Nat) (st:Int) (hk:0 ≤ (kk:Int) ∧ (kk:Int) < st) (hst:st ≤ (g.n:Int)) (hoff:M.off = false) (w:World) (hF:RefAt 99 9 4 w g M) (hs:Blk w sr 102 [.pointer (some ⟨g.qb,0,none⟩),.int .i64 st]) :
  Calls Try.prog 39 #[.pointer (some ⟨sr,0,none⟩),.int .i64 (kk:Int)] w (RetK (.tuple #[.agg (getGR st M (kk:Int)).cells.toArray,.int .i64 (getGE st M (kk:Int))]) w):=by
 refine calls_of_holds (S:=(fun _=>False)) (l:=[(pt sr 0),.int .i64 (kk:Int)]) (n:=41) Try.func39 (body_of (by kernel_rfl)) rfl (by simp) (MemOk.start (bk:=[⟨sr,102,false,[(pt g.qb 0),.int .i64 st]⟩]) (wn:=[]) (by simpa using hs) (by simp) (by simp) (by simp)) ?_
 obtain ⟨R,hR,hS⟩:=hF
 have hgn:=hS.hn
 have e1:=inS_iff.2 hk
 have e2:getGR st M (kk:Int) = gotM M (kk:Int):=by unfold getGR; rw [e1,hoff]; rfl
 have e3:getGE st M (kk:Int) = 0:=by unfold getGE; rw [e1,hoff]; rfl
 have e4:rdV M kk = (.tuple #[.string (bytesI (readPl M (kk:Int))),.int .i64 0]):=by unfold rdV; rw [hoff]; rfl
 refine hgE 31 [oh0,oh0,oh0,oh0,oh0,oh0,oh0,oh0,oh0,(oA 0 1 1),oh0,⟨false,3,[]⟩,oh0,oh0,oh0,oh0,(oA 0 0 1),oh0] [1,4,5,25,26] [dF (((kk:Int):Int) < 0),dF (((kk:Int):Int) < 0),dF (((kk:Int):Int) < 0),dF (((kk:Int):Int) < 0),dF (((kk:Int):Int) < 0),dF (((kk:Int):Int) < 0),dF (((kk:Int):Int) < 0),dF (((kk:Int):Int) ≥ st)] [(sr,1,1),(sr,0,1)] [.ops [1,1,0] [5,6,7,8,9,10],.code [1,1,1]] ⟨[(1,i6 (kk:Int)),(4,(pt w.heap.size 0)),(5,i6 0),(25,(pt g.qb 0)),(26,i6 (kk:Int))],[⟨sr,102,false,[(pt g.qb 0),i6 st]⟩,⟨w.heap.size,25,true,(rgn_v1)⟩],[],w.heap.size + 1⟩ ?_
 refine hcp (.tuple #[sT (bytesI (readPl M (kk:Int))),i6 0]) 67 [(pt g.qb 0),i6 (kk:Int)] (some 27) [] tI rfl (fun wx hm=>by have h:=rread_pl g hk7 M R hS kk (by omega) wx (hR.kept hm.kept (fun _ _ h=>h)); rw [e4] at h; exact h) fun z2 hz2=>?_
 replace hz2:w.heap.size + 1 ≤ z2:=hz2
 refine hgE 21 [oh0,oh0,oh0,oh0,oh0,oh0,oh0,oh0,oh0,oh0] [4,5,35,36] [fF] [] [.ops [1,1,1,1,0] [2,3,4,5,6,7,8],.code [1,1,1,1,1]] ⟨[(4,(pt w.heap.size 0)),(5,i6 0),(35,i6 (kk:Int)),(36,sT (bytesI (readPl M (kk:Int))))],[⟨sr,102,false,[(pt g.qb 0),i6 st]⟩,⟨w.heap.size,25,true,(rgn_v1)⟩],[],z2⟩ ?_
 refine hcp (.tuple #[.agg (List.toArray (rgn_v2 kk M)),i6 (unpackE (kk:Int) (bytesI (readPl M (kk:Int))))]) 15 [i6 (kk:Int),sT (bytesI (readPl M (kk:Int)))] (some 37) [] tI rfl (fun wx hm=>refUnpack_any (kk:Int) (bytesI (readPl M (kk:Int))) wx) fun z4 hz4=>?_
 replace hz4:z2 ≤ z4:=hz4
 refine hgE 16 [oh0,oh0,oh0,oh0,(oA 2 0 10),oh0,(oA 2 0 10),(oA 1 0 10),oh0] [4,5] [] [(z4,0,10),(z4,0,10),(w.heap.size,0,10)] [.code [1,1,1,1,1,1]] ⟨[(4,(pt w.heap.size 0)),(5,i6 0)],[⟨sr,102,false,[(pt g.qb 0),i6 st]⟩,⟨w.heap.size,25,true,(rgn_v2 kk M)⟩,⟨z4,25,true,(rgn_v2 kk M)⟩],[],z4 + 1⟩ ?_
 refine hrt [[⟨false,1,0,10⟩]] [.agg (List.toArray (rgn_v2 kk M)),i6 0] [(w.heap.size,0,10)] ?_
 intro wx hm
 exact ⟨by rw [e2,e3]; rfl,hm.kept⟩
theorem rgetG_pl (M:Pl) (g:G7) (hk7:g.Ok) (sr:Nat) (st k:Int) (hst:st ≤ (M.n:Int)) (w:World) (hF:RefAt 99 9 4 w g M) (hs:Blk w sr 102 [.pointer (some ⟨g.qb,0,none⟩),.int .i64 st]) :
  Calls Try.prog 39 #[.pointer (some ⟨sr,0,none⟩),.int .i64 k] w (RetK (.tuple #[.agg (getGR st M k).cells.toArray,.int .i64 (getGE st M k)]) w):=by
 have hgn:=hF.n
 by_cases hk:0 ≤ k ∧ k < st
 ·obtain ⟨kk,rfl⟩:∃ kk:Nat,k = (kk:Int):=⟨k.toNat,by omega⟩
  cases hoff:M.off with
  | true=>exact rget_off M g hk7 sr kk st hk (by omega) hoff w hF hs
  | false=>exact rget_on M g hk7 sr kk st hk (by omega) hoff w hF hs
 ·exact rget_out M g sr st k hk w hs
def rsx_v1 (r:RecM):List Value:=[.bool r.used,i6 r.fence,i6 r.de,i6 r.ds,sT r.block,.bool r.op,i6 r.ie,i6 r.is,i6 r.mask,sT r.staged]
@[simp] def rsx_b1 (st:Int) (g:G7) (r:RecM) (sr:Nat) (w:World):List Bk:=[⟨sr,102,false,[(pt g.qb 0),i6 st]⟩,⟨w.heap.size,25,true,(rsx_v1 r)⟩]
set_option maxRecDepth 100000 in
set_option maxHeartbeats 4000000 in
theorem rset_bad (sr:Nat) (g:G7) (st k:Int) (r:RecM) (hb:setOkB st k r = false) (w:World) (hs:Blk w sr 102 [.pointer (some ⟨g.qb,0,none⟩),.int .i64 st]) :
  Calls Try.prog 31 #[.pointer (some ⟨sr,0,none⟩),.int .i64 k,.agg #[.bool r.used,.int .i64 r.fence,.int .i64 r.de,.int .i64 r.ds,.string r.block,.bool r.op,.int .i64 r.ie,.int .i64 r.is,.int .i64 r.mask,.string r.staged]] w (RetK (.int .i64 80) w):=by
 refine calls_of_holds (S:=(fun _=>False)) (l:=[(pt sr 0),.int .i64 k,.agg (List.toArray (rsx_v1 r))]) (n:=40) Try.func31 (body_of (by kernel_rfl)) rfl (by simp) (MemOk.start (bk:=[⟨sr,102,false,[(pt g.qb 0),.int .i64 st]⟩]) (wn:=[]) (by simpa using hs) (by simp) (by simp) (by simp)) ?_
 refine hgE 12 [oh0,oh0,oh0,(oA 1 0 10)] [0,1,6,10,11] [] [(w.heap.size,0,10)] [.ops [1,0] [2,3,4,5,6,7],.code [1,1]] ⟨[(0,(pt sr 0)),(1,i6 k),(6,i6 0),(10,i6 k),(11,.agg (List.toArray (rsx_v1 r)))],(rsx_b1 st g r sr w),[],w.heap.size + 1⟩ ?_
 cases hg:packGood k r with
 | false=>
  refine hcp (.tuple #[sT (packT k r),i6 80]) 13 [i6 k,.agg (List.toArray (rsx_v1 r))] (some 12) [] tI rfl (fun wx hm=>by have h:=refPack_any k r wx; rw [show packE k r = 80 by unfold packE; rw [hg]; rfl] at h; exact h) fun z2 hz2=>?_
  replace hz2:w.heap.size + 1 ≤ z2:=hz2
  refine hgE 28 [oh0,oh0,oh0,oh0,oh0,oh0,oh0,oh0,oh1,oh1,oh1,oh1,oh1,oh1,oh3,oh1,oh0] [0,1,6,7,8] [tT,tT,tT,tT,tT,tT,tT,tT] [] [.code [1,1,0,1,0,1],.code [1,1,1]] ⟨[(0,(pt sr 0)),(1,i6 k),(6,i6 80),(7,sT (packT k r)),(8,i6 80)],(rsx_b1 st g r sr w),[],z2⟩ ?_
  refine hrt [] [i6 80] [] ?_
  intro wx hm
  exact ⟨rfl,hm.kept⟩
 | true=>
  have hks:st ≤ k:=by
   unfold packGood at hg
   unfold setOkB inS at hb
   simp at hg hb
   by_cases h:k < st
   ·have:=hb hg.1.1 h
    rw [hg.2] at this
    cases this
   ·omega
  refine hcp (.tuple #[sT (packT k r),i6 0]) 13 [i6 k,.agg (List.toArray (rsx_v1 r))] (some 12) [] tI rfl (fun wx hm=>by have h:=refPack_any k r wx; rw [show packE k r = 0 by unfold packE; rw [hg]; rfl] at h; exact h) fun z5 hz5=>?_
  replace hz5:w.heap.size + 1 ≤ z5:=hz5
  refine hgE 28 [oh0,oh0,oh0,oh0,oh0,oh0,oh0,oh0,oh0,oh0,oh0,oh0,(oA 0 1 1),oh0,⟨false,3,[]⟩,oh1,oh0] [0,1,6,7,8] [fF,fF,fF,fF,fF,fF,fF,dT ((k:Int) ≥ st)] [(sr,1,1)] [.code [1,1,0,1,0,1],.code [1,1,1]] ⟨[(0,(pt sr 0)),(1,i6 k),(6,i6 80),(7,sT (packT k r)),(8,i6 0)],(rsx_b1 st g r sr w),[],z5⟩ ?_
  refine hrt [] [i6 80] [] ?_
  intro wx hm
  exact ⟨rfl,hm.kept⟩
def rst_v1 (r:RecM):List Value:=(rsx_v1 r)
@[simp] def rst_b1 (st:Int) (g:G7) (r:RecM) (sr:Nat) (w:World):List Bk:=[⟨sr,102,false,[(pt g.qb 0),i6 st]⟩,⟨w.heap.size,25,true,(rst_v1 r)⟩]
set_option maxRecDepth 100000 in
set_option maxHeartbeats 4000000 in
theorem rset_ok (M:Pl) (g:G7) (hk7:g.Ok) (pb sr:Nat) (hp:PlOk pb M) (st k:Int) (r:RecM) (hrk:RecOk r) (hkb:0 ≤ k ∧ k ≤ 7) (hk:0 ≤ k ∧ k < st) (hk2:0 ≤ k ∧ k < (M.n:Int)) (ha:M.acts < 4611686018427387900) (hsb:¬ g.mine sr) (w:World) (hF:RefAt 99 9 4 w g M) (hs:Blk w sr 102 [.pointer (some ⟨g.qb,0,none⟩),.int .i64 st]) :
  Calls Try.prog 31 #[.pointer (some ⟨sr,0,none⟩),.int .i64 k,.agg #[.bool r.used,.int .i64 r.fence,.int .i64 r.de,.int .i64 r.ds,.string r.block,.bool r.op,.int .i64 r.ie,.int .i64 r.is,.int .i64 r.mask,.string r.staged]] w (fun e w'=>e = .returned (.int .i64 (setE M k r)) ∧ RefAt 99 9 4 w' g (setPl M k r) ∧ Kept g.mine w w'):=by
 refine calls_of_holds (S:=(fun _=>False)) (l:=[(pt sr 0),.int .i64 k,.agg (List.toArray (rst_v1 r))]) (n:=40) Try.func31 (body_of (by kernel_rfl)) rfl (by simp) (MemOk.start (bk:=[⟨sr,102,false,[(pt g.qb 0),.int .i64 st]⟩]) (wn:=[]) (by simpa using hs) (by simp) (by simp) (by simp)) ?_
 obtain ⟨R,hR,hS⟩:=hF
 have hgn:=hS.hn
 have hmine:=hR.lt
 refine hgE 12 [oh0,oh0,oh0,(oA 1 0 10)] [0,1,6,10,11] [] [(w.heap.size,0,10)] [.ops [1,0] [2,3,4,5,6,7],.code [1,1]] ⟨[(0,(pt sr 0)),(1,i6 k),(6,i6 0),(10,i6 k),(11,.agg (List.toArray (rst_v1 r)))],(rst_b1 st g r sr w),[],w.heap.size + 1⟩ ?_
 refine hcp (.tuple #[sT (packS k r),i6 0]) 13 [i6 k,.agg (List.toArray (rst_v1 r))] (some 12) [] tI rfl (fun wx hm=>by have h:=refPack_any k r wx; rw [packT_ok hkb hrk,packE_ok hkb hrk] at h; exact h) fun z2 hz2=>?_
 replace hz2:w.heap.size + 1 ≤ z2:=hz2
 refine hgE 33 [oh0,oh0,oh0,oh0,oh0,oh0,oh0,oh0,oh0,oh0,oh0,oh0,(oA 0 1 1),oh0,⟨false,3,[]⟩,oh0,oh0,oh0,oh0,(oA 0 0 1),oh0,oh0] [0,6,8,28,29,30] [fF,fF,fF,fF,fF,fF,fF,dF ((k:Int) ≥ st)] [(sr,1,1),(sr,0,1)] [.ops [1,1,1,0] [6,7],.code [1,1,1,1]] ⟨[(0,(pt sr 0)),(6,i6 0),(8,i6 0),(28,(pt g.qb 0)),(29,i6 k),(30,sT (packS k r))],(rst_b1 st g r sr w),[],z2⟩ ?_
 have hbx:w.heap.size ≤ w.heap.size:=by omega
 have hnT:∀ x,g.mine x → ¬ Turned (rst_b1 st g r sr w) x:=by
  rintro x hx ⟨b,hb,hr,he⟩
  have hx2:=hmine x hx
  simp at hb
  rcases hb with rfl | rfl <;> simp at he hr <;> omega
 have hnB:∀ b ∈ ((rst_b1 st g r sr w):List Bk),¬ g.mine b.g:=by
  intro b hb h
  have hx2:=hmine _ h
  simp at hb
  rcases hb with rfl | rfl
  ·exact hsb h
  ·exact absurd hx2 (Nat.lt_irrefl _)
 have hin:inP M k:=by unfold inP; omega
 have e1:wrE M k = goesE M:=by
  unfold wrE goesE
  rw [if_pos hin]
  cases M.goes <;> rfl
 have e2:wrPl M k (intsOf (packS k r)) = (writePl M k (secOf k r)):=if_pos hin
 refine holds_callW (w:=w) (S':=g.mine) (Y:=Nat) (fun _=>i6 (goesE M)) (fun _=>(rst_b1 st g r sr w)) (fun _ W_=>RefAt 99 9 4 W_ g (writePl M k (secOf k r))) (fun _=>[(31,i6 (goesE M)),(0,(pt sr 0)),(6,i6 0),(8,i6 0),(28,(pt g.qb 0)),(29,i6 k),(30,sT (packS k r))]) (show _ = some (38,[(pt g.qb 0),i6 k,sT (packS k r)],some 31,[]) by kernel_rfl) tI (fun _=>rfl) (fun wx hm=>?_) (fun _ W1 hX1 hm1=>?_)
 ·refine (rwrite_pl g hk7 M pb R hp hS (by omega) k (packS k r) (by rw [size_packS]) wx (hR.kept hm.kept (fun _ _ h=>h))).mono fun e w' ⟨h1,h2,h3⟩=>?_
  rw [e1] at h1
  rw [e2] at h2
  exact ⟨0,h1,h2,hm.off (fun _ h=>h.elim) h3 (fun _ h=>.inl h) hnB⟩
 refine hgE 11 [oh0,oh0,oh0] [0,6,8,33] [] [] [.code [1,1,1,1,0,1],.code [1,1,1,1,1]] ⟨[(0,(pt sr 0)),(6,i6 0),(8,i6 (goesE M)),(33,.bool ((goesE M) == 0))],(rst_b1 st g r sr w),[],W1.heap.size⟩ ?_
 cases hg:M.goes with
 | false=>
  have hge:goesE M = 70:=by simp [goesE,hg]
  have hsE:setE M k r = goesE M:=by simp [setE,hg,hge]
  have hsP:setPl M k r = (writePl M k (secOf k r)):=by simp [setPl,hg]
  refine hgE 10 [oh0,oh0,oh0] [6] [oE (((goesE M) == 0) = false) (by rw [hge]; rfl)] [] [.code [1,1,1,1,1,1]] ⟨[(6,i6 (goesE M))],(rst_b1 st g r sr w),[],W1.heap.size⟩ ?_
  refine hrt [] [i6 (goesE M)] [] ?_
  intro wx hm
  rw [hsE,hsP]
  exact ⟨rfl,hX1.kept hm.kept hnT,(hm1.back hm).kept⟩
 | true=>
  have hge:goesE M = 0:=by simp [goesE,hg]
  have hsE:setE M k r = goesE (writePl M k (secOf k r)):=by simp [setE,hg]
  have hsP:setPl M k r = flushPl (writePl M k (secOf k r)):=by simp [setPl,hg]
  obtain ⟨R1,hR1,hS1⟩:=hX1
  refine hgE 9 [oh1,oh0,oh0,oh0,(oA 0 0 1)] [6,8,37] [oE (((goesE M) == 0) = true) (by rw [hge]; rfl)] [(sr,0,1)] [.ops [1,1,1,1,0,1,0] [4,5],.code [1,1,1,1,1]] ⟨[(6,i6 0),(8,i6 (goesE M)),(37,(pt g.qb 0))],(rst_b1 st g r sr w),[],W1.heap.size⟩ ?_
  refine holds_callW (w:=w) (S':=g.mine) (Y:=Nat) (fun _=>i6 (goesE (writePl M k (secOf k r)))) (fun _=>(rst_b1 st g r sr w)) (fun _ W_=>RefAt 99 9 4 W_ g (flushPl (writePl M k (secOf k r)))) (fun _=>[(38,i6 (goesE (writePl M k (secOf k r)))),(6,i6 0),(8,i6 (goesE M)),(37,(pt g.qb 0))]) (show _ = some (64,[(pt g.qb 0)],some 38,[]) by kernel_rfl) tI (fun _=>rfl) (fun wx hm=>?_) (fun _ W2 hX2 hm2=>?_)
  ·refine (rflush_pl g hk7 (writePl M k (secOf k r)) pb R1 (hp.write (by omega) (secOk_of (by rw [size_packS]))) hS1 (by have:=acts_write M k (secOf k r); omega) wx (hR1.kept hm.kept hnT)).mono fun e w' ⟨h1,h2,h3⟩=>?_
   exact ⟨0,h1,h2,(hm1.back hm).off (fun _ h=>h) h3 (fun _ h=>.inl h) hnB⟩
  refine hgE 10 [oh0,oh0,oh0] [6] [] [] [.code [1,1,1,1,1,1]] ⟨[(6,i6 (goesE (writePl M k (secOf k r))))],(rst_b1 st g r sr w),[],W2.heap.size⟩ ?_
  refine hrt [] [i6 (goesE (writePl M k (secOf k r)))] [] ?_
  intro wx hm
  rw [hsE,hsP]
  exact ⟨rfl,hX2.kept hm.kept hnT,(hm2.back hm).kept⟩
theorem rsetG_pl (M:Pl) (g:G7) (hk7:g.Ok) (pb sr:Nat) (hp:PlOk pb M) (st k:Int) (r:RecM) (h8:st ≤ 8) (hst:st ≤ (M.n:Int)) (ha:M.acts < 4611686018427387900) (hsb:¬ g.mine sr) (w:World) (hF:RefAt 99 9 4 w g M) (hs:Blk w sr 102 [.pointer (some ⟨g.qb,0,none⟩),.int .i64 st]) :
  Calls Try.prog 31 #[.pointer (some ⟨sr,0,none⟩),.int .i64 k,.agg #[.bool r.used,.int .i64 r.fence,.int .i64 r.de,.int .i64 r.ds,.string r.block,.bool r.op,.int .i64 r.ie,.int .i64 r.is,.int .i64 r.mask,.string r.staged]] w (fun e w'=>e = .returned (.int .i64 (setGE st M k r)) ∧ RefAt 99 9 4 w' g (setGP st M k r) ∧ Kept g.mine w w'):=by
 cases e0:setOkB st k r with
 | false=>
  rw [show setGE st M k r = 80 by unfold setGE; rw [e0]; rfl,show setGP st M k r = M by unfold setGP; rw [e0]; rfl]
  exact (rset_bad sr g st k r e0 w hs).mono fun e w' ⟨h1,h2⟩=>⟨h1,hF.kept h2 (fun _ _ h=>h),h2.mono (fun _ _ h=>h.elim)⟩
 | true=>
  rw [show setGE st M k r = setE M k r by unfold setGE; rw [e0]; rfl,show setGP st M k r = setPl M k r by unfold setGP; rw [e0]; rfl]
  have h1:inS st k = true ∧ okB r = true:=by unfold setOkB at e0; simpa using e0
  have h2:=inS_iff.1 h1.1
  exact rset_ok M g hk7 pb sr hp st k r ((okB_iff r).1 h1.2) (by omega) h2 (by omega) ha hsb w hF hs
def rfm_v1:List Value:=rp 16 (.int .u8 0)
def rfm_v2:List Value:=((rgo_v1.set 0 (.bool true)).set 4 (.string zeros16))
@[simp] def rfm_b1 (n:Nat) (g:G7) (sr:Nat):List Bk:=[⟨sr,102,false,[(pt g.qb 0),i6 (n:Int)]⟩]
@[simp] def rfm_b2 (n:Nat) (g:G7) (sr:Nat) (W1:World):List Bk:=[⟨sr,102,false,[(pt g.qb 0),i6 (n:Int)]⟩,⟨W1.heap.size,5,true,(rfm_v1)⟩]
def RFormI (n:Nat) (g:G7) (M:Pl) (pb:Nat) (sr:Nat)  (m:Nat) (st:St) (W1:World):Prop:=∃ (i:Nat) (M2:Pl) (z:Nat),m + i = n ∧ fmtG M 0 n = fmtG M2 i m ∧ M2.n = M.n ∧ M2.acts ≤ M.acts + 2 * (i:Int) ∧ PlOk pb M2 ∧ RefAt 99 9 4 W1 g M2 ∧ st = ⟨[(0,(pt sr 0)),(2,i6 0),(3,i6 (i:Int))],(rfm_b1 n g sr),[],z⟩
set_option maxRecDepth 100000 in
set_option maxHeartbeats 4000000 in
theorem rformatG_pl (M:Pl) (g:G7) (hk7:g.Ok) (pb sr n:Nat) (hp:PlOk pb M) (ha:M.acts < 4611686018427380000) (hn8:n ≤ 8) (hnM:n ≤ M.n) (hsb:¬ g.mine sr) (w:World) (hF:RefAt 99 9 4 w g M) (hs:Blk w sr 102 [.pointer (some ⟨g.qb,0,none⟩),.int .i64 (n:Int)]) :
  Calls Try.prog 32 #[.pointer (some ⟨sr,0,none⟩)] w (fun e w'=>e = .returned (.int .i64 (fmtG M 0 n).1) ∧ RefAt 99 9 4 w' g (fmtG M 0 n).2 ∧ Kept g.mine w w'):=by
 refine calls_of_holds (S:=(fun _=>False)) (l:=[(pt sr 0)]) (n:=22) Try.func32 (body_of (by kernel_rfl)) rfl (by simp) (MemOk.start (bk:=(rfm_b1 n g sr)) (wn:=[]) (by simpa using hs) (by simp) (by simp) (by simp)) ?_
 refine hgE 13 [oh0,oh0] [0,2,3] [] [] [.code [1,0,1,0],.blk 0,.code [1,1]] ⟨[(0,(pt sr 0)),(2,i6 0),(3,i6 0)],(rfm_b1 n g sr),[],w.heap.size⟩ ?_
 refine holds_loopW (w:=w) (S':=g.mine) (RFormI n g M pb sr) n (by kernel_rfl) (fun W3 hm=>⟨⟨0,M,_,rfl,rfl,rfl,by omega,hp,hF.kept hm.kept (fun _ _ h=>h),rfl⟩,?_⟩) ?_
 ·have h:=hm.off (S':=g.mine) (fun _ h=>h.elim) (Kept.refl (fun _=>False) W3) (fun _ h=>h.elim) (fun _ _ h=>h)
  rwa [hm.size] at h
 rintro m _ W1 ⟨i,M2,z,hmi,hfm,hnn,hac,hp2,hF1,rfl⟩ hm1 J hJ
 have hmine:=hF.lt
 have hw1:=hm1.kept.size
 by_cases h1:i < n
 rotate_left
 ·skip
  refine hgE 19 [oh0,oh0,oh0,oh0,(oA 0 1 1),oh0,oh0,oh0] [2] [dF (((i:Int):Int) < (n:Int))] [(sr,1,1)] [.code [1,1,1]] ⟨[(2,i6 0)],(rfm_b1 n g sr),[],W1.heap.size⟩ ?_
  refine hrt [] [i6 0] [] ?_
  intro wx hm
  have hm0:m = 0:=by omega
  rw [hm0] at hfm
  rw [hfm]
  exact ⟨rfl,hF1.kept hm.kept (by rintro x _ ⟨b,hb,hr,he⟩; simp at hb; subst hb; simp at hr),(hm1.back hm).kept⟩
 obtain ⟨m',rfl⟩:∃ m',m = m' + 1:=⟨m - 1,by omega⟩
 rw [show fmtG M2 i (m' + 1) = (bif setE M2 i fmtR == 0 then fmtG (setPl M2 i fmtR) (i + 1) m' else (setE M2 i fmtR,setPl M2 i fmtR)) from rfl] at hfm
 refine hgE 22 [oh0,oh0,oh0,oh0,(oA 0 1 1),oh0,oh1,oh0,oh0,oh0] [0,2,3,13,14,15] [dT (((i:Int):Int) < (n:Int))] [(sr,1,1)] [.ops [1,0,1,0,0,1,0,0,0] [3,4,5,6],.code [1,0,1,0,0,1,0,0,1],.blk 1,.code [1,0,1,0,0,1,1],.inv J,.blk 0,.code [1,1]] ⟨[(0,(pt sr 0)),(2,i6 0),(3,i6 (i:Int)),(13,(pt sr 0)),(14,i6 (i:Int)),(15,.slice (some ⟨W1.heap.size,0,none⟩) 16 16)],(rfm_b2 n g sr W1),[],W1.heap.size + 1⟩ ?_
 refine holds_opR (dst:=(some 16)) (x:=convert 40 9 (.slice (some ⟨W1.heap.size,0,none⟩) 16 16)) (.string zeros16) (by kernel_rfl) (by kernel_rfl) rfl (fun wx hm=>?_) ?_
 ·exact run_bytesAt (P:=Try.prog) wx 40 9 5 _ _ _ _ _ (List.replicate 16 0) [] [] (by kernel_rfl) (by kernel_rfl) (by kernel_rfl) (hm.at_ 1 rfl) rfl rfl byts16
 refine hgE 4 [oh0] [0,2,3,13,14,17] [] [] [.ops [1,0,1,0,0,1,0,0,0] [5,6],.code [1,0,1,0,0,1,0,0,1],.blk 1,.code [1,0,1,0,0,1,1],.inv J,.blk 0,.code [1,1]] ⟨[(0,(pt sr 0)),(2,i6 0),(3,i6 (i:Int)),(13,(pt sr 0)),(14,i6 (i:Int)),(17,.agg (List.toArray (rfm_v2)))],(rfm_b2 n g sr W1),[],W1.heap.size + 1⟩ ?_
 have hnT:∀ x,g.mine x → ¬ Turned (rfm_b2 n g sr W1) x:=by
  rintro x hx ⟨b,hb,hr,he⟩
  have hx2:=hmine x hx
  simp at hb
  rcases hb with rfl | rfl <;> simp at he hr <;> omega
 have hnB:∀ b ∈ ((rfm_b2 n g sr W1):List Bk),¬ g.mine b.g:=by
  intro b hb h
  have hx2:=hmine _ h
  simp at hb
  rcases hb with rfl | rfl
  ·exact hsb h
  ·simp at hx2; omega
 have hok:setOkB (n:Int) (i:Int) fmtR = true:=by
  unfold setOkB
  rw [inS_iff.2 (by omega),(okB_iff fmtR).2 fmtR_ok]
  rfl
 have hsE:setGE (n:Int) M2 (i:Int) fmtR = setE M2 (i:Int) fmtR:=by unfold setGE; rw [hok]; rfl
 have hsP:setGP (n:Int) M2 (i:Int) fmtR = setPl M2 (i:Int) fmtR:=by unfold setGP; rw [hok]; rfl
 refine holds_callW (w:=w) (S':=g.mine) (Y:=Nat) (fun _=>i6 (setE M2 (i:Int) fmtR)) (fun _=>(rfm_b2 n g sr W1)) (fun _ W_=>RefAt 99 9 4 W_ g (setPl M2 (i:Int) fmtR)) (fun _=>[(18,i6 (setE M2 (i:Int) fmtR)),(0,(pt sr 0)),(2,i6 0),(3,i6 (i:Int)),(13,(pt sr 0)),(14,i6 (i:Int)),(17,.agg (List.toArray (rfm_v2)))]) (show _ = some (31,[(pt sr 0),i6 (i:Int),.agg (List.toArray (rfm_v2))],some 18,[]) by kernel_rfl) tI (fun _=>rfl) (fun wx hm=>?_) (fun _ W2 hF2 hm2=>?_)
 ·refine (rsetG_pl M2 g hk7 pb sr hp2 (n:Int) (i:Int) fmtR (by omega) (by rw [hnn]; omega) (by omega) hsb wx (hF1.kept hm.kept (by rintro x _ ⟨b,hb,hr,he⟩; simp at hb; subst hb; simp at hr)) (hm.at_ 0 rfl)).mono fun e w' ⟨h1,h2,h3⟩=>?_
  rw [hsE] at h1
  rw [hsP] at h2
  exact ⟨0,h1,h2,(hm1.back2 hm).off (fun _ h=>h) h3 (fun x h=>.inl h) hnB⟩
 refine hgE 10 [oh0,oh0,oh0] [0,2,3,4,20] [] [] [.code [1,0,1,0,0,1,0,0,1,1],.blk 1,.code [1,0,1,0,0,1,1],.inv J,.blk 0,.code [1,1]] ⟨[(0,(pt sr 0)),(2,i6 0),(3,i6 (i:Int)),(4,i6 (setE M2 (i:Int) fmtR)),(20,.bool ((setE M2 (i:Int) fmtR) != 0))],(rfm_b2 n g sr W1),[],W2.heap.size⟩ ?_
 by_cases d0:setE M2 (i:Int) fmtR = 0
 rotate_left
 ·skip
  refine hgE 9 [oh1,oh0,oh0] [0,2,3] [oE (((setE M2 (i:Int) fmtR) != 0) = true) (by simpa using d0)] [] [.code [1,0,1,0,0,1,0,0,1,1,0,1],.blk 1,.code [1,0,1,0,0,1,1],.inv J,.blk 0,.code [1,1]] ⟨[(0,(pt sr 0)),(2,i6 (setE M2 (i:Int) fmtR)),(3,i6 (i:Int))],(rfm_b2 n g sr W1),[],W2.heap.size⟩ ?_
  refine hrt [] [i6 (setE M2 (i:Int) fmtR)] [] ?_
  intro wx hm
  rw [show (setE M2 (i:Int) fmtR == 0) = false by simpa using d0,cond_false] at hfm
  rw [hfm]
  exact ⟨rfl,hF2.kept hm.kept hnT,(hm2.back hm).kept⟩
 refine hgE 11 [oh0,oh0,oh2,oh0] [0,2,3] [oE (((setE M2 (i:Int) fmtR) != 0) = false) (by rw [d0]; rfl),n64 (((i:Int) + 1))] [] [.inv J,.blk 0,.code [1,1]] ⟨[(0,(pt sr 0)),(2,i6 0),(3,i6 ((i:Int) + 1))],(rfm_b2 n g sr W1),[],W2.heap.size⟩ ?_
 refine holds_prune [0,2,3] [true,false] ?_
 rw [show (setE M2 (i:Int) fmtR == 0) = true by rw [d0]; rfl,cond_true] at hfm
 have hac2:=acts_set M2 (i:Int) fmtR
 intro a w4 hf hm
 exact hJ m' _ a w4 (by omega) ⟨i + 1,setPl M2 (i:Int) fmtR,W2.heap.size,by omega,hfm,by rw [set_n,hnn],by omega,ok_set hp2 (by rw [hnn]; omega),hF2.kept hm.kept hnT,by rw [← cast_succ i]; rfl⟩ hf (hm2.back2 hm)
end Go.Proofs.Ytpilmccjjbgmiaa
