import Derived.Test.YtpilmccjjbgmiaaRef7
import Derived.Test.YtpilmccjjbgmiaaProg
namespace Go.Proofs.Ytpilmccjjbgmiaa
open Go.RowKit
theorem rfAct_on {R:Rf} (h:R.off = false):rfAct R = ⟨R.sure,R.last,R.has,R.acts + 1,R.armed,R.hits⟩:=by
 unfold rfAct
 rw [h]
 rfl
theorem rfAct_eta (R:Rf):(⟨R.sure,R.last,R.has,(rfAct R).acts,(rfAct R).armed,(rfAct R).off⟩:Rf) = rfAct R:=by
 unfold rfAct
 cases R.off <;> rfl
def qa_v1 (g:G7) (R:Rf):List Value:=[.slice (some ⟨g.sg,0,none⟩) g.n g.sc,.slice (some ⟨g.lg,0,none⟩) g.n g.n,.slice (some ⟨g.hg,0,none⟩) g.n g.n,i6 (R.acts + 1),i6 R.armed,.bool R.off]
def qa_v2 (g:G7) (R:Rf):List Value:=((qa_v1 g R).set 3 (i6 R.acts))
def qa_v3 (g:G7) (R:Rf):List Value:=((qa_v1 g R).set 5 (.bool true))
theorem qa_q5 (g:G7) (R:Rf) (w:World):Out.prune [0,2,22] (qListG Try.prog 26 w (fun x=>x = g.qb) (opsOf (getCode (bodyOf Try.f66) [1,1,1,0,0])) (opsOf (getCode (bodyOf Try.f66) [1,1,1,0,0])).toList ⟨[(0,(pt g.qb 0)),(2,i6 0)],[⟨g.qb,99,true,(qa_v1 g R)⟩],[],w.heap.size⟩ [(false,.op oh0),(false,.op oh0),(false,.op oh0),(false,.op (oA 0 3 1)),(false,.op oh0),(false,.op oh0),(false,.op oh0),(false,.op (oA 0 4 1)),(false,.op oh0)]) = some ⟨[],dupR [(g.qb,3,1),(g.qb,4,1)],⟨[(0,(pt g.qb 0)),(2,i6 0),(22,.bool ((R.acts + 1) == R.armed))],[⟨g.qb,99,true,(qa_v1 g R)⟩],[],w.heap.size⟩⟩:=by kernel_rfl
set_option maxRecDepth 100000 in
set_option maxHeartbeats 4000000 in
theorem ract_any (g:G7) (R:Rf) (ha:0 ≤ R.acts ∧ R.acts < 4611686018427387904) (w:World) (hR:RfAt 99 9 4 w g R) :
  Calls Try.prog 66 #[.pointer (some ⟨g.qb,0,none⟩)] w (fun e w'=>e = .returned (.int .i64 (rfE R)) ∧ Blk w' g.qb 99 (rfCells g (rfAct R)) ∧ Kept (fun x=>x = g.qb) w w'):=by
 refine calls_of_holds (S:=(fun x=>x = g.qb)) (l:=[(pt g.qb 0)]) (n:=26) Try.func66 (body_of (by kernel_rfl)) rfl (by simp) (MemOk.start (bk:=[⟨g.qb,99,true,(qa_v2 g R)⟩]) (wn:=[]) (fun b hb=>by obtain rfl:=List.mem_singleton.1 hb; exact hR.p) (by simp) (by simp) (by simp)) ?_
 refine hgE 15 [oh0,oh0,oh0,oh0,(oA 0 5 1)] [0,2,6] [] [(g.qb,5,1)] [.code [1,0,1],.code [1,1]] ⟨[(0,(pt g.qb 0)),(2,i6 0),(6,.bool R.off)],[⟨g.qb,99,true,(qa_v2 g R)⟩],[],w.heap.size⟩ ?_
 rcases Bool.eq_false_or_eq_true (R.off) with d1 | d1
 ·skip
  refine hgE 8 [oh1,oh0] [0,2] [eD d1] [] [.code [1,0,1,0,1],.code [1,1]] ⟨[(0,(pt g.qb 0)),(2,i6 70)],[⟨g.qb,99,true,(qa_v2 g R)⟩],[],w.heap.size⟩ ?_
  refine hrt [] [i6 70] [] ?_
  intro wx hm
  have e1:rfE R = 70:=by
   unfold rfE
   rw [d1]
   rfl
  have e2:rfAct R = R:=by
   unfold rfAct
   rw [d1]
   rfl
  exact ⟨by rw [e1]; rfl,by rw [e2]; exact hm.at_ 0 rfl,hm.kept⟩
 ·skip
  refine hgE 18 [oh0,oh0,oh0,oh0,(oA 0 3 1),oh2,oh0,oh0,(oA 0 3 1)] [0,2] [eD d1,n64 ((R.acts + 1))] [(g.qb,3,1),(g.qb,3,1)] [.code [1,1,1,0,0],.code [1,1,1,0,1],.code [1,1,1,1]] ⟨[(0,(pt g.qb 0)),(2,i6 0)],[⟨g.qb,99,true,(qa_v1 g R)⟩],[],w.heap.size⟩ ?_
  refine holds_quietG _ _ (by kernel_rfl) (by kernel_rfl) (by kernel_rfl) (qa_q5 g R w) trivial fun z5 hz5=>?_
  replace hz5:w.heap.size ≤ z5:=hz5
  refine hgE 3 [] [0,2,22] [] [] [.code [1,1,1,0,1],.code [1,1,1,1]] ⟨[(0,(pt g.qb 0)),(2,i6 0),(22,.bool ((R.acts + 1) == R.armed))],[⟨g.qb,99,true,(qa_v1 g R)⟩],[],z5⟩ ?_
  rcases Bool.eq_false_or_eq_true ((R.acts + 1) == R.armed) with d2 | d2
  ·skip
   refine hgE 15 [oh1,oh0,oh0,oh0,(oA 0 5 1),oh0] [2] [eD d2] [(g.qb,5,1)] [.code [1,1,1,0,1,0,1,1],.code [1,1,1,1]] ⟨[(2,i6 70)],[⟨g.qb,99,true,(qa_v3 g R)⟩],[],z5⟩ ?_
   refine hrt [] [i6 70] [] ?_
   intro wx hm
   have e1:rfE R = 70:=by
    unfold rfE Rf.hits
    rw [d1,d2]
    rfl
   have e3:R.hits = true:=by
    unfold Rf.hits
    rw [d2]
   have e2:rfCells g (rfAct R) = (qa_v3 g R):=by
    rw [rfAct_on d1]
    unfold rfCells
    dsimp only
    rw [e3]
    rfl
   exact ⟨by rw [e1]; rfl,by rw [e2]; exact hm.at_ 0 rfl,hm.kept⟩
  ·skip
   refine hgE 9 [oh0,oh0] [2] [eD d2] [] [.code [1,1,1,1,1]] ⟨[(2,i6 0)],[⟨g.qb,99,true,(qa_v1 g R)⟩],[],z5⟩ ?_
   refine hrt [] [i6 0] [] ?_
   intro wx hm
   have e1:rfE R = 0:=by
    unfold rfE Rf.hits
    rw [d1,d2]
    rfl
   have e3:R.hits = R.off:=by
    unfold Rf.hits
    rw [d2,d1]
   have e2:rfCells g (rfAct R) = (qa_v1 g R):=by
    rw [rfAct_on d1]
    unfold rfCells
    dsimp only
    rw [e3]
    rfl
   exact ⟨by rw [e1]; rfl,by rw [e2]; exact hm.at_ 0 rfl,hm.kept⟩
def qw_v1 (g:G7) (R:Rf):List Value:=(qa_v2 g R)
def qw_v2 (g:G7) (R:Rf):List Value:=((((qa_v1 g R).set 3 (i6 ((rfAct R).acts))).set 4 (i6 ((rfAct R).armed))).set 5 (.bool ((rfAct R).off)))
@[simp] def qw_b1 (g:G7) (R:Rf):List Bk:=[⟨g.qb,99,true,(qw_v1 g R)⟩,⟨g.sg,9,true,(strsR R.sure g.r)⟩,⟨g.lg,9,true,(strsV R.last)⟩,⟨g.hg,4,true,(boolsV R.has)⟩]
@[simp] def qw_b2 (g:G7) (R:Rf):List Bk:=[⟨g.qb,99,true,(qw_v2 g R)⟩,⟨g.sg,9,true,(strsR R.sure g.r)⟩,⟨g.lg,9,true,(strsV R.last)⟩,⟨g.hg,4,true,(boolsV R.has)⟩]
@[simp] def qw_b3 (g:G7) (R:Rf) (k:Int) (s:ByteArray):List Bk:=[⟨g.qb,99,true,(qw_v2 g R)⟩,⟨g.sg,9,true,(strsR R.sure g.r)⟩,⟨g.lg,9,true,(strsV (List.set R.last (Int.toNat k) s))⟩,⟨g.hg,4,true,(boolsV R.has)⟩]
@[simp] def qw_b4 (g:G7) (R:Rf) (k:Int) (s:ByteArray):List Bk:=[⟨g.qb,99,true,(qw_v2 g R)⟩,⟨g.sg,9,true,(strsR R.sure g.r)⟩,⟨g.lg,9,true,(strsV (List.set R.last (Int.toNat k) s))⟩,⟨g.hg,4,true,(boolsV (List.set R.has (Int.toNat k) true))⟩]
set_option maxRecDepth 100000 in
set_option maxHeartbeats 4000000 in
theorem rwrite_pl (g:G7) (hk:g.Ok) (M:Pl) (pb:Nat) (R:Rf) (hp:PlOk pb M) (hS:Sim7 M g.n R) (ha:M.acts < 4611686018427387904) (k:Int) (s:ByteArray) (hs:s.size = 64) (w:World) (hR:RfAt 99 9 4 w g R) :
  Calls Try.prog 38 #[.pointer (some ⟨g.qb,0,none⟩),.int .i64 k,.string s] w (fun e w'=>e = .returned (.int .i64 (wrE M k)) ∧ (∃ R',RfAt 99 9 4 w' g R' ∧ Sim7 (wrPl M k (intsOf s)) g.n R') ∧ Kept g.mine w w'):=by
 refine calls_of_holds (S:=(fun x=>g.mine x)) (l:=[(pt g.qb 0),.int .i64 k,.string s]) (n:=42) Try.func38 (body_of (by kernel_rfl)) rfl (by simp) (MemOk.start (bk:=(qw_b1 g R)) (wn:=[]) (by simpa using ⟨hR.p,hR.s,hR.l,hR.h⟩) (by intro b hb hr; simp at hb; rcases hb with rfl | rfl | rfl | rfl <;> simp [G7.mine]) (by simpa using hk.nd) (by simp)) ?_
 refine hgE 10 [oh0,oh0] [0,1,2,6,8] [] [] [.ops [1,0] [1,2],.code [1,1]] ⟨[(0,(pt g.qb 0)),(1,i6 k),(2,sT s),(6,i6 0),(8,(pt g.qb 0))],(qw_b1 g R),[],w.heap.size⟩ ?_
 cases hg:M.goes with
 | false=>
  have hE:rfE R = 70:=by rw [hS.e]; unfold goesE; rw [hg]; rfl
  refine holds_callM (i6 70) (qw_b2 g R) (show _ = some (66,[(pt g.qb 0)],some 9,[]) by kernel_rfl) tI rfl (fun wx hm=>?_) fun z2 hz2=>?_
  ·refine (ract_any g R ⟨by rw [hS.acts]; exact hp.a0,by rw [hS.acts]; exact ha⟩ wx ⟨hm.at_ 0 rfl,hm.at_ 1 rfl,hm.at_ 2 rfl,hm.at_ 3 rfl,hR.ls,hR.ll,hR.lh⟩).mono fun e w' ⟨h1,h2,h3⟩=>?_
   rw [hE] at h1
   exact ⟨h1,hm.set1 0 rfl rfl h3 h2⟩
  replace hz2:w.heap.size ≤ z2:=hz2
  refine hgE 17 [oh0,oh0,oh0,oh1,oh0,oh0] [0,1,2,6] [tT] [] [.code [1,1,0,1,0,1],.code [1,1,1]] ⟨[(0,(pt g.qb 0)),(1,i6 k),(2,sT s),(6,i6 70)],(qw_b2 g R),[],z2⟩ ?_
  refine hrt [] [i6 70] [] ?_
  intro wx hm
  have e1:wrE M k = 70:=by unfold wrE; rw [hg]; rfl
  exact ⟨by rw [e1]; rfl,⟨⟨R.sure,R.last,R.has,(rfAct R).acts,(rfAct R).armed,(rfAct R).off⟩,⟨hm.at_ 0 rfl,hm.at_ 1 rfl,hm.at_ 2 rfl,hm.at_ 3 rfl,hR.ls,hR.ll,hR.lh⟩,by rw [wr_off hg,rfAct_eta]; exact hS.act⟩,hm.kept⟩
 | true=>
  have hE:rfE R = 0:=by rw [hS.e]; unfold goesE; rw [hg]; rfl
  refine holds_callM (i6 0) (qw_b2 g R) (show _ = some (66,[(pt g.qb 0)],some 9,[]) by kernel_rfl) tI rfl (fun wx hm=>?_) fun z5 hz5=>?_
  ·refine (ract_any g R ⟨by rw [hS.acts]; exact hp.a0,by rw [hS.acts]; exact ha⟩ wx ⟨hm.at_ 0 rfl,hm.at_ 1 rfl,hm.at_ 2 rfl,hm.at_ 3 rfl,hR.ls,hR.ll,hR.lh⟩).mono fun e w' ⟨h1,h2,h3⟩=>?_
   rw [hE] at h1
   exact ⟨h1,hm.set1 0 rfl rfl h3 h2⟩
  replace hz5:w.heap.size ≤ z5:=hz5
  by_cases hin:inP M k
  rotate_left
  ·skip
   have hn:=hS.hn
   have hout:k < 0 ∨ (g.n:Int) ≤ k:=by unfold inP at hin; omega
   rcases hout with hout | hout
   ·skip
    refine hgE 38 [oh0,oh0,oh0,oh0,oh0,oh0,oh0,oh1,oh1,oh1,oh1,oh1,oh1,oh1,oh3,oh0,oh1,oh1,oh1,oh3,oh1,oh0] [0,1,2,6] [fF,dT ((k:Int) < 0),dT ((k:Int) < 0),dT ((k:Int) < 0),dT ((k:Int) < 0),dT ((k:Int) < 0),dT ((k:Int) < 0),dT ((k:Int) < 0),dT ((k:Int) < 0),tT,tT,tT,tT,tT] [] [.code [1,1,1,0,1,0,1],.code [1,1,1,1]] ⟨[(0,(pt g.qb 0)),(1,i6 k),(2,sT s),(6,i6 1)],(qw_b2 g R),[],z5⟩ ?_
    refine hrt [] [i6 1] [] ?_
    intro wx hm
    have e1:wrE M k = 1:=by unfold wrE; rw [hg,if_neg hin]; rfl
    have e2:wrPl M k (intsOf s) = actPl M:=if_neg hin
    exact ⟨by rw [e1]; rfl,⟨⟨R.sure,R.last,R.has,(rfAct R).acts,(rfAct R).armed,(rfAct R).off⟩,⟨hm.at_ 0 rfl,hm.at_ 1 rfl,hm.at_ 2 rfl,hm.at_ 3 rfl,hR.ls,hR.ll,hR.lh⟩,by rw [e2,rfAct_eta]; exact hS.act⟩,hm.kept⟩
   ·skip
    refine hgE 38 [oh0,oh0,oh0,oh0,oh0,oh0,oh0,oh0,oh0,oh0,oh0,(oA 0 0 1),oh0,oh0,⟨false,3,[]⟩,oh0,oh1,oh1,oh1,oh3,oh1,oh0] [0,1,2,6] [fF,dF ((k:Int) < 0),dF ((k:Int) < 0),dF ((k:Int) < 0),dF ((k:Int) < 0),dF ((k:Int) < 0),dF ((k:Int) < 0),dF ((k:Int) < 0),dF ((k:Int) < 0),dT ((k:Int) ≥ ((g.n:Nat):Int)),dT ((k:Int) ≥ ((g.n:Nat):Int)),dT ((k:Int) ≥ ((g.n:Nat):Int)),dT ((k:Int) ≥ ((g.n:Nat):Int)),tT] [(g.qb,0,1)] [.code [1,1,1,0,1,0,1],.code [1,1,1,1]] ⟨[(0,(pt g.qb 0)),(1,i6 k),(2,sT s),(6,i6 1)],(qw_b2 g R),[],z5⟩ ?_
    refine hrt [] [i6 1] [] ?_
    intro wx hm
    have e1:wrE M k = 1:=by unfold wrE; rw [hg,if_neg hin]; rfl
    have e2:wrPl M k (intsOf s) = actPl M:=if_neg hin
    exact ⟨by rw [e1]; rfl,⟨⟨R.sure,R.last,R.has,(rfAct R).acts,(rfAct R).armed,(rfAct R).off⟩,⟨hm.at_ 0 rfl,hm.at_ 1 rfl,hm.at_ 2 rfl,hm.at_ 3 rfl,hR.ls,hR.ll,hR.lh⟩,by rw [e2,rfAct_eta]; exact hS.act⟩,hm.kept⟩
  have hn:=hS.hn
  have hin2:0 ≤ k ∧ k < (g.n:Int):=by unfold inP at hin; omega
  refine hgE 44 [oh0,oh0,oh0,oh0,oh0,oh0,oh0,oh0,oh0,oh0,oh0,(oA 0 0 1),oh0,oh0,⟨false,3,[]⟩,oh0,oh0,oh0,oh0,⟨false,3,[]⟩,oh0,oh0,oh0,oh0,(oA 0 1 1),oh0,oh0,oh2] [0,1,6,34,35] [fF,dF ((k:Int) < 0),dF ((k:Int) < 0),dF ((k:Int) < 0),dF ((k:Int) < 0),dF ((k:Int) < 0),dF ((k:Int) < 0),dF ((k:Int) < 0),dF ((k:Int) < 0),dF ((k:Int) ≥ ((g.n:Nat):Int)),dF ((k:Int) ≥ ((g.n:Nat):Int)),dF ((k:Int) ≥ ((g.n:Nat):Int)),dF ((k:Int) ≥ ((g.n:Nat):Int)),oE (((s.size:Int) != 64) = false) (by rw [hs]; rfl),oE ((0:Int) ≤ k ∧ k < ((g.n:Nat):Int))] [(g.qb,0,1),(g.qb,1,1)] [.ops [1,1,1,1,0] [7],.code [1,1,1,1,1]] ⟨[(0,(pt g.qb 0)),(1,i6 k),(6,i6 0),(34,sT s),(35,.pointer (some ⟨g.lg,0 + (Int.toNat k) * 1,none⟩))],(qw_b2 g R),[],z5⟩ ?_
  refine holds_opS (x:=Instr.storeAt 9 (.pointer (some ⟨g.lg,0 + (Int.toNat k) * 1,none⟩)) (.string s)) (qw_b3 g R k s) (by kernel_rfl) (by kernel_rfl) rfl (fun wx hm=>?_) (fun z11 hz11=>?_)
  ·exact store_str (P:=Try.prog) (t:=9) (s:=s) hm (i:=2) (k:=Int.toNat k) rfl (by rw [hR.ll]; omega) (by kernel_rfl)
  replace hz11:z5 ≤ z11:=hz11
  refine hgE 12 [oh0,oh0,oh0,(oA 0 2 1),oh0,oh2] [6,41] [oE ((0:Int) ≤ k ∧ k < ((g.n:Nat):Int))] [(g.qb,2,1)] [.ops [1,1,1,1,1,0] [6],.code [1,1,1,1,1,1]] ⟨[(6,i6 0),(41,.pointer (some ⟨g.hg,0 + (Int.toNat k) * 1,none⟩))],(qw_b3 g R k s),[],z11⟩ ?_
  refine holds_opS (x:=Instr.storeAt 4 (.pointer (some ⟨g.hg,0 + (Int.toNat k) * 1,none⟩)) (.bool true)) (qw_b4 g R k s) (by kernel_rfl) (by kernel_rfl) rfl (fun wx hm=>?_) (fun z13 hz13=>?_)
  ·exact store_bool (P:=Try.prog) (t:=4) (s:=true) hm (i:=3) (k:=Int.toNat k) rfl (by rw [hR.lh]; omega) (by kernel_rfl)
  replace hz13:z11 ≤ z13:=hz13
  refine hgE 8 [oh0] [6] [] [] [.code [1,1,1,1,1,1,1]] ⟨[(6,i6 0)],(qw_b4 g R k s),[],z13⟩ ?_
  refine hrt [] [i6 0] [] ?_
  intro wx hm
  have e1:wrE M k = 0:=by unfold wrE; rw [hg,if_pos hin]; rfl
  have e2:wrPl M k (intsOf s) = writePl M k (intsOf s):=if_pos hin
  have hsb:bytesI (intsOf s) = s:=bytesI_intsOf s
  exact ⟨by rw [e1]; rfl,⟨⟨R.sure,List.set R.last (Int.toNat k) s,List.set R.has (Int.toNat k) true,(rfAct R).acts,(rfAct R).armed,(rfAct R).off⟩,⟨hm.at_ 0 rfl,hm.at_ 1 rfl,hm.at_ 2 rfl,hm.at_ 3 rfl,hR.ls,by rw [List.length_set]; exact hR.ll,by rw [List.length_set]; exact hR.lh⟩,by
   rw [e2]
   exact hS.write hp hin2 hg rfl (by rw [hsb]) rfl hR.ll hR.lh rfl rfl rfl⟩,hm.kept⟩
def rdV (M:Pl) (kk:Nat):Value:=bif M.off then .tuple #[sT ⟨#[]⟩,i6 70] else .tuple #[sT (bytesI (readPl M (kk:Int))),i6 0]
def qr_v1 (g:G7) (R:Rf):List Value:=(qa_v2 g R)
@[simp] def qr_b1 (g:G7) (R:Rf):List Bk:=[⟨g.qb,99,false,(qr_v1 g R)⟩,⟨g.sg,9,false,(strsR R.sure g.r)⟩,⟨g.lg,9,false,(strsV R.last)⟩,⟨g.hg,4,false,(boolsV R.has)⟩]
set_option maxRecDepth 100000 in
set_option maxHeartbeats 4000000 in
theorem rread_pl (g:G7) (hk:g.Ok) (M:Pl) (R:Rf) (hS:Sim7 M g.n R) (kk:Nat) (hkk:kk < g.n) (w:World) (hR:RfAt 99 9 4 w g R) :
  Calls Try.prog 67 #[.pointer (some ⟨g.qb,0,none⟩),.int .i64 (kk:Int)] w (RetK (rdV M kk) w):=by
 refine calls_of_holds (S:=(fun _=>False)) (l:=[(pt g.qb 0),.int .i64 (kk:Int)]) (n:=42) Try.func67 (body_of (by kernel_rfl)) rfl (by simp) (MemOk.start (bk:=(qr_b1 g R)) (wn:=[]) (by simpa using ⟨hR.p,hR.s,hR.l,hR.h⟩) (by simp) (by simpa using hk.nd) (by simp)) ?_
 have hn:=hS.hn
 cases ho:M.off with
 | true=>
  have hro:R.off = true:=hS.off.trans ho
  refine hgE 22 [oh0,oh0,oh0,oh0,oh0,(oA 0 5 1),oh1,oh0,oh0] [0,1,4,5] [oE (R.off = true) hro] [(g.qb,5,1)] [.code [1,0,1,0,1],.code [1,1]] ⟨[(0,(pt g.qb 0)),(1,i6 (kk:Int)),(4,sT ⟨#[]⟩),(5,i6 70)],(qr_b1 g R),[],w.heap.size⟩ ?_
  refine hrt [] [sT ⟨#[]⟩,i6 70] [] ?_
  intro wx hm
  have e:rdV M kk = .tuple #[.string ⟨#[]⟩,.int .i64 70]:=by unfold rdV; rw [ho]; rfl
  exact ⟨by rw [e]; rfl,hm.kept⟩
 | false=>
  have hro:R.off = false:=hS.off.trans ho
  have e:rdV M kk = .tuple #[.string (bytesI (readPl M (kk:Int))),.int .i64 0]:=by unfold rdV; rw [ho]; rfl
  refine hgE 44 [oh0,oh0,oh0,oh0,oh0,(oA 0 5 1),oh0,oh0,oh0,oh0,oh0,oh0,oh0,oh0,(oA 0 0 1),oh0,oh0,⟨false,3,[]⟩,oh0,oh0,oh0,oh0,(oA 0 2 1),oh0,oh2] [0,1,4,5,26] [oE (R.off = false) hro,dF (((kk:Int):Int) < 0),dF (((kk:Int):Int) < 0),dF (((kk:Int):Int) < 0),dF (((kk:Int):Int) < 0),dF (((kk:Int):Int) < 0),dF (((kk:Int):Int) < 0),dF (((kk:Int):Int) < 0),dF (((kk:Int):Int) < 0),dF (((kk:Int):Int) ≥ ((g.n:Nat):Int)),oE ((0:Int) ≤ (kk:Int) ∧ (kk:Int) < ((g.n:Nat):Int))] [(g.qb,5,1),(g.qb,0,1),(g.qb,2,1)] [.ops [1,1,1,0,0] [6],.code [1,1,1,0,1],.code [1,1,1,1]] ⟨[(0,(pt g.qb 0)),(1,i6 (kk:Int)),(4,sT ⟨#[]⟩),(5,i6 0),(26,.pointer (some ⟨g.hg,0 + kk * 1,none⟩))],(qr_b1 g R),[],w.heap.size⟩ ?_
  refine holds_opR (dst:=(some 27)) (x:=Instr.loadAt 4 (.pointer (some ⟨g.hg,0 + kk * 1,none⟩))) (.bool (getO R.has kk)) (by kernel_rfl) (by kernel_rfl) rfl (fun wx hm=>?_) ?_
  ·exact load_bool (P:=Try.prog) (t:=4) hm (i:=3) (k:=kk) rfl (by rw [hR.lh]; omega) (by kernel_rfl)
  refine hgE 4 [] [0,1,4,5,27] [] [] [.code [1,1,1,0,1],.code [1,1,1,1]] ⟨[(0,(pt g.qb 0)),(1,i6 (kk:Int)),(4,sT ⟨#[]⟩),(5,i6 0),(27,.bool (getO R.has kk))],(qr_b1 g R),[],w.heap.size⟩ ?_
  rcases Bool.eq_false_or_eq_true (getO R.has kk) with d1 | d1
  ·skip
   refine hgE 12 [oh1,oh0,oh0,oh0,(oA 0 1 1),oh0,oh2] [0,1,4,5,33] [eD d1,oE ((0:Int) ≤ (kk:Int) ∧ (kk:Int) < ((g.n:Nat):Int))] [(g.qb,1,1)] [.ops [1,1,1,0,1,0,0] [6,7,8],.code [1,1,1,0,1,0,1],.code [1,1,1,1]] ⟨[(0,(pt g.qb 0)),(1,i6 (kk:Int)),(4,sT ⟨#[]⟩),(5,i6 0),(33,.pointer (some ⟨g.lg,0 + kk * 1,none⟩))],(qr_b1 g R),[],w.heap.size⟩ ?_
   refine holds_opR (dst:=(some 34)) (x:=Instr.loadAt 9 (.pointer (some ⟨g.lg,0 + kk * 1,none⟩))) (.string (getB R.last kk)) (by kernel_rfl) (by kernel_rfl) rfl (fun wx hm=>?_) ?_
   ·exact load_str (P:=Try.prog) (t:=9) hm (i:=2) (k:=kk) rfl (by have:=hR.ll; omega) (by kernel_rfl)
   refine hgE 6 [oh0,oh0] [0,1,4,5] [] [] [.code [1,1,1,0,1,0,1],.code [1,1,1,1]] ⟨[(0,(pt g.qb 0)),(1,i6 (kk:Int)),(4,sT (getB R.last kk)),(5,i6 0)],(qr_b1 g R),[],w.heap.size⟩ ?_
   refine hrt [] [sT (getB R.last kk),i6 0] [] ?_
   intro wx hm
   exact ⟨by rw [e,hS.read hkk,d1]; rfl,hm.kept⟩
  ·skip
   refine hgE 13 [oh0,oh0,oh0,oh0,(oA 0 0 1),oh0,oh2] [4,5,40] [eD d1,oE ((0:Int) ≤ (kk:Int) ∧ (kk:Int) < ((g.n:Nat):Int))] [(g.qb,0,1)] [.ops [1,1,1,1,0] [6,7,8],.code [1,1,1,1,1]] ⟨[(4,sT ⟨#[]⟩),(5,i6 0),(40,.pointer (some ⟨g.sg,0 + kk * 1,none⟩))],(qr_b1 g R),[],w.heap.size⟩ ?_
   refine holds_opR (dst:=(some 41)) (x:=Instr.loadAt 9 (.pointer (some ⟨g.sg,0 + kk * 1,none⟩))) (.string (getB R.sure kk)) (by kernel_rfl) (by kernel_rfl) rfl (fun wx hm=>?_) ?_
   ·exact load_strR (P:=Try.prog) (t:=9) hm (i:=1) (k:=kk) rfl (by have:=hR.ls; omega) (by kernel_rfl)
   refine hgE 6 [oh0,oh0] [4,5] [] [] [.code [1,1,1,1,1]] ⟨[(4,sT (getB R.sure kk)),(5,i6 0)],(qr_b1 g R),[],w.heap.size⟩ ?_
   refine hrt [] [sT (getB R.sure kk),i6 0] [] ?_
   intro wx hm
   exact ⟨by rw [e,hS.read hkk,d1]; rfl,hm.kept⟩
def qm_v1 (g:G7) (R:Rf):List Value:=(qa_v2 g R)
@[simp] def qm_b1 (g:G7) (R:Rf):List Bk:=[⟨g.qb,99,true,(qm_v1 g R)⟩,⟨g.sg,9,true,(strsR R.sure g.r)⟩,⟨g.lg,9,true,(strsV R.last)⟩,⟨g.hg,4,true,(boolsV R.has)⟩]
set_option maxRecDepth 100000 in
set_option maxHeartbeats 4000000 in
theorem rarm_pl (g:G7) (hk:g.Ok) (M:Pl) (pb:Nat) (R:Rf) (hp:PlOk pb M) (hS:Sim7 M g.n R) (ha:M.acts < 4611686018427387904) (d:Int) (w:World) (hR:RfAt 99 9 4 w g R) :
  Calls Try.prog 33 #[.pointer (some ⟨g.qb,0,none⟩),.int .i64 d] w (fun e w'=>e = .returned (.int .i64 (armE d)) ∧ (∃ R',RfAt 99 9 4 w' g R' ∧ Sim7 (armPl M d) g.n R') ∧ Kept g.mine w w'):=by
 refine calls_of_holds (S:=(fun x=>g.mine x)) (l:=[(pt g.qb 0),.int .i64 d]) (n:=25) Try.func33 (body_of (by kernel_rfl)) rfl (by simp) (MemOk.start (bk:=(qm_b1 g R)) (wn:=[]) (by simpa using ⟨hR.p,hR.s,hR.l,hR.h⟩) (by intro b hb hr; simp at hb; rcases hb with rfl | rfl | rfl | rfl <;> simp [G7.mine]) (by simpa using hk.nd) (by simp)) ?_
 by_cases h0:d < 0
 ·skip
  refine hgE 22 [oh0,oh0,oh0,oh0,oh1,oh1,oh3,oh1,oh0] [0,1,4] [dT ((d:Int) < 0),dT ((d:Int) < 0),dT ((d:Int) < 0),tT] [] [.code [1,0,1,0,1],.code [1,1]] ⟨[(0,(pt g.qb 0)),(1,i6 d),(4,i6 1)],(qm_b1 g R),[],w.heap.size⟩ ?_
  refine hrt [] [i6 1] [] ?_
  intro wx hm
  have e1:armE d = 1:=if_neg (by omega)
  exact ⟨by rw [e1]; rfl,⟨R,⟨hm.at_ 0 rfl,hm.at_ 1 rfl,hm.at_ 2 rfl,hm.at_ 3 rfl,hR.ls,hR.ll,hR.lh⟩,hS.arm_ hp.a0 d (by rw [if_neg (by omega)])⟩,hm.kept⟩
 by_cases h1:1099511627776 < d
 ·skip
  refine hgE 22 [oh0,oh0,oh0,oh0,oh0,oh0,⟨false,3,[]⟩,oh1,oh0] [0,1,4] [dF ((d:Int) < 0),dF ((d:Int) < 0),dF ((d:Int) < 0),dT ((d:Int) > 1099511627776)] [] [.code [1,0,1,0,1],.code [1,1]] ⟨[(0,(pt g.qb 0)),(1,i6 d),(4,i6 1)],(qm_b1 g R),[],w.heap.size⟩ ?_
  refine hrt [] [i6 1] [] ?_
  intro wx hm
  have e1:armE d = 1:=if_neg (by omega)
  exact ⟨by rw [e1]; rfl,⟨R,⟨hm.at_ 0 rfl,hm.at_ 1 rfl,hm.at_ 2 rfl,hm.at_ 3 rfl,hR.ls,hR.ll,hR.lh⟩,hS.arm_ hp.a0 d (by rw [if_neg (by omega)])⟩,hm.kept⟩
 by_cases h2:0 < d
 ·skip
  have hac:=hS.acts
  have ha0:=hp.a0
  refine hgE 49 [oh0,oh0,oh0,oh0,oh0,oh0,⟨false,3,[]⟩,oh0,oh0,oh0,oh0,(oA 0 4 1),oh0,oh0,oh1,oh0,oh0,oh0,oh0,(oA 0 3 1),oh0,oh2,oh0,oh0,(oA 0 4 1),oh0] [4] [dF ((d:Int) < 0),dF ((d:Int) < 0),dF ((d:Int) < 0),dF ((d:Int) > 1099511627776),dT ((d:Int) > 0),n64 ((R.acts + d))] [(g.qb,4,1),(g.qb,3,1),(g.qb,4,1)] [.code [1,1,1,1,1]] ⟨[(4,i6 0)],[⟨g.qb,99,true,[.slice (some ⟨g.sg,0,none⟩) g.n g.sc,.slice (some ⟨g.lg,0,none⟩) g.n g.n,.slice (some ⟨g.hg,0,none⟩) g.n g.n,i6 R.acts,i6 (R.acts + d),.bool R.off]⟩,⟨g.sg,9,true,(strsR R.sure g.r)⟩,⟨g.lg,9,true,(strsV R.last)⟩,⟨g.hg,4,true,(boolsV R.has)⟩],[],w.heap.size⟩ ?_
  refine hrt [] [i6 0] [] ?_
  intro wx hm
  have e1:armE d = 0:=if_pos (by omega)
  exact ⟨by rw [e1]; rfl,⟨{ R with armed:=R.acts + d },⟨hm.at_ 0 rfl,hm.at_ 1 rfl,hm.at_ 2 rfl,hm.at_ 3 rfl,hR.ls,hR.ll,hR.lh⟩,hS.arm_ hp.a0 d (by rw [if_pos (by omega)]; rw [if_pos (by omega)])⟩,hm.kept⟩
 refine hgE 38 [oh0,oh0,oh0,oh0,oh0,oh0,⟨false,3,[]⟩,oh0,oh0,oh0,oh0,(oA 0 4 1),oh0,oh0,oh0,oh0] [4] [dF ((d:Int) < 0),dF ((d:Int) < 0),dF ((d:Int) < 0),dF ((d:Int) > 1099511627776),dF ((d:Int) > 0)] [(g.qb,4,1)] [.code [1,1,1,1,1]] ⟨[(4,i6 0)],[⟨g.qb,99,true,[.slice (some ⟨g.sg,0,none⟩) g.n g.sc,.slice (some ⟨g.lg,0,none⟩) g.n g.n,.slice (some ⟨g.hg,0,none⟩) g.n g.n,i6 R.acts,i6 0,.bool R.off]⟩,⟨g.sg,9,true,(strsR R.sure g.r)⟩,⟨g.lg,9,true,(strsV R.last)⟩,⟨g.hg,4,true,(boolsV R.has)⟩],[],w.heap.size⟩ ?_
 refine hrt [] [i6 0] [] ?_
 intro wx hm
 have e1:armE d = 0:=if_pos (by omega)
 exact ⟨by rw [e1]; rfl,⟨{ R with armed:=0 },⟨hm.at_ 0 rfl,hm.at_ 1 rfl,hm.at_ 2 rfl,hm.at_ 3 rfl,hR.ls,hR.ll,hR.lh⟩,hS.arm_ hp.a0 d (by rw [if_pos (by omega)]; rw [if_neg (by omega)])⟩,hm.kept⟩
def qoof_v1 (g:G7) (R:Rf):List Value:=(qa_v2 g R)
set_option maxRecDepth 100000 in
set_option maxHeartbeats 4000000 in
theorem roff_pl (g:G7) (M:Pl) (R:Rf) (hS:Sim7 M g.n R) (w:World) (hR:RfAt 99 9 4 w g R) :
  Calls Try.prog 42 #[.pointer (some ⟨g.qb,0,none⟩)] w (RetK (.bool M.off) w):=by
 refine calls_of_holds (S:=(fun _=>False)) (l:=[(pt g.qb 0)]) (n:=7) Try.func42 (body_of (by kernel_rfl)) rfl (by simp) (MemOk.start (bk:=[⟨g.qb,99,false,(qoof_v1 g R)⟩]) (wn:=[]) (fun b hb=>by obtain rfl:=List.mem_singleton.1 hb; exact hR.p) (by simp) (by simp) (by simp)) ?_
 refine hgE 15 [oh0,oh0,oh0,oh0,(oA 0 5 1),oh0] [2] [] [(g.qb,5,1)] [.code [1,1]] ⟨[(2,.bool R.off)],[⟨g.qb,99,false,(qoof_v1 g R)⟩],[],w.heap.size⟩ ?_
 refine hrt [] [.bool R.off] [] ?_
 intro wx hm
 exact ⟨by rw [← hS.off]; rfl,hm.kept⟩
def qoac_v1 (g:G7) (R:Rf):List Value:=(qa_v2 g R)
set_option maxRecDepth 100000 in
set_option maxHeartbeats 4000000 in
theorem racts_pl (g:G7) (M:Pl) (R:Rf) (hS:Sim7 M g.n R) (w:World) (hR:RfAt 99 9 4 w g R) :
  Calls Try.prog 41 #[.pointer (some ⟨g.qb,0,none⟩)] w (RetK (.int .i64 M.acts) w):=by
 refine calls_of_holds (S:=(fun _=>False)) (l:=[(pt g.qb 0)]) (n:=7) Try.func41 (body_of (by kernel_rfl)) rfl (by simp) (MemOk.start (bk:=[⟨g.qb,99,false,(qoac_v1 g R)⟩]) (wn:=[]) (fun b hb=>by obtain rfl:=List.mem_singleton.1 hb; exact hR.p) (by simp) (by simp) (by simp)) ?_
 refine hgE 15 [oh0,oh0,oh0,oh0,(oA 0 3 1),oh0] [2] [] [(g.qb,3,1)] [.code [1,1]] ⟨[(2,i6 R.acts)],[⟨g.qb,99,false,(qoac_v1 g R)⟩],[],w.heap.size⟩ ?_
 refine hrt [] [i6 R.acts] [] ?_
 intro wx hm
 exact ⟨by rw [← hS.acts]; rfl,hm.kept⟩
def qose_v1 (g:G7) (R:Rf):List Value:=(qa_v2 g R)
set_option maxRecDepth 100000 in
set_option maxHeartbeats 4000000 in
theorem rsectors_pl (g:G7) (R:Rf) (w:World) (hR:RfAt 99 9 4 w g R) :
  Calls Try.prog 63 #[.pointer (some ⟨g.qb,0,none⟩)] w (RetK (.int .i64 (g.n:Int)) w):=by
 refine calls_of_holds (S:=(fun _=>False)) (l:=[(pt g.qb 0)]) (n:=8) Try.func63 (body_of (by kernel_rfl)) rfl (by simp) (MemOk.start (bk:=[⟨g.qb,99,false,(qose_v1 g R)⟩]) (wn:=[]) (fun b hb=>by obtain rfl:=List.mem_singleton.1 hb; exact hR.p) (by simp) (by simp) (by simp)) ?_
 refine hgE 16 [oh0,oh0,oh0,oh0,(oA 0 0 1),oh0,oh0] [2] [] [(g.qb,0,1)] [.code [1,1]] ⟨[(2,i6 ((g.n:Nat):Int))],[⟨g.qb,99,false,(qose_v1 g R)⟩],[],w.heap.size⟩ ?_
 refine hrt [] [i6 ((g.n:Nat):Int)] [] ?_
 intro wx hm
 exact ⟨rfl,hm.kept⟩
end Go.Proofs.Ytpilmccjjbgmiaa
