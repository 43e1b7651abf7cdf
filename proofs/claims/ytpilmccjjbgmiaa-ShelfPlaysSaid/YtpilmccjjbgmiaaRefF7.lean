import Derived.Test.YtpilmccjjbgmiaaRefP7
import Derived.Test.YtpilmccjjbgmiaaEngZ
namespace Go.Proofs.Ytpilmccjjbgmiaa
open Go.RowKit
def qf_v1 (g:G7) (R:Rf):List Value:=[.slice (some ⟨g.sg,0,none⟩) g.n g.sc,.slice (some ⟨g.lg,0,none⟩) g.n g.n,.slice (some ⟨g.hg,0,none⟩) g.n g.n,i6 ((rfAct R).acts),i6 ((rfAct R).armed),.bool ((rfAct R).off)]
def qf_v2 (g:G7) (R:Rf):List Value:=((((qf_v1 g R).set 3 (i6 R.acts)).set 4 (i6 R.armed)).set 5 (.bool R.off))
def qf_n1:List Nat:=[1,1,1,0,1,0,0,1,0,0,0,1,0]
def qf_n2:List Nat:=[1,1,1,0,1,0,0,1,0,0,1]
def qf_n3:List Nat:=[1,1,1,0,1,0,0,1,1]
@[simp] def qf_b1 (g:G7) (R:Rf) (sure:List ByteArray) (has:List Bool):List Bk:=[⟨g.qb,99,true,(qf_v1 g R)⟩,⟨g.sg,9,true,(strsR sure g.r)⟩,⟨g.lg,9,true,(strsV R.last)⟩,⟨g.hg,4,true,(boolsV has)⟩]
@[simp] def qf_b2 (g:G7) (R:Rf) (i:Nat) (sure:List ByteArray) (has:List Bool):List Bk:=[⟨g.qb,99,true,(qf_v1 g R)⟩,⟨g.sg,9,true,(strsR (List.set sure i (getB R.last i)) g.r)⟩,⟨g.lg,9,true,(strsV R.last)⟩,⟨g.hg,4,true,(boolsV has)⟩]
@[simp] def qf_b3 (g:G7) (R:Rf):List Bk:=[⟨g.qb,99,true,(qf_v2 g R)⟩,⟨g.sg,9,true,(strsR R.sure g.r)⟩,⟨g.lg,9,true,(strsV R.last)⟩,⟨g.hg,4,true,(boolsV R.has)⟩]
@[simp] def qf_b4 (g:G7) (R:Rf):List Bk:=[⟨g.qb,99,true,(qf_v1 g R)⟩,⟨g.sg,9,true,(strsR R.sure g.r)⟩,⟨g.lg,9,true,(strsV R.last)⟩,⟨g.hg,4,true,(boolsV R.has)⟩]
@[simp] def qf_b5 (g:G7) (R:Rf) (i:Nat) (sure:List ByteArray) (has:List Bool):List Bk:=[⟨g.qb,99,true,(qf_v1 g R)⟩,⟨g.sg,9,true,(strsR (List.set sure i (getB R.last i)) g.r)⟩,⟨g.lg,9,true,(strsV R.last)⟩,⟨g.hg,4,true,(boolsV (List.set has i false))⟩]
@[simp] def qf_b6 (g:G7) (R:Rf) (i:Nat) (sure:List ByteArray) (has:List Bool):List Bk:=[⟨g.qb,99,true,(qf_v1 g R)⟩,⟨g.sg,9,true,(strsR sure g.r)⟩,⟨g.lg,9,true,(strsV R.last)⟩,⟨g.hg,4,true,(boolsV (List.set has i false))⟩]
def RFlushI (g:G7) (R:Rf) (z5:Nat)  (m:Nat) (st:St):Prop:=∃ (i:Nat) (sure:List ByteArray) (has:List Bool) (z:Nat),m + i = g.n ∧ z5 ≤ z ∧ sure.length = R.sure.length ∧ has.length = g.n ∧ (∀ j_:Nat,j_ < g.n → getB sure j_ = if j_ < i then (bif getO R.has j_ then getB R.last j_ else getB R.sure j_) else getB R.sure j_) ∧ (∀ j_:Nat,j_ < g.n → getO has j_ = if j_ < i then false else getO R.has j_) ∧ st = ⟨[(0,(pt g.qb 0)),(2,i6 0),(4,i6 (i:Int))],(qf_b1 g R sure has),[],z⟩
def qf_g13s (g:G7) (i:Nat):List (Nat × Value):=[(0,(pt g.qb 0)),(2,i6 0),(4,i6 (i:Int))]
def qf_g13v (g:G7) (R:Rf) (i:Nat):List (Option Value):=[some ((pt g.qb 0)),some ((pt g.qb 0)),some ((pt g.qb 0)),some (.slice (some ⟨g.sg,0,none⟩) g.n g.sc),some (i6 (i:Int)),some ((pt g.qb 0)),some ((pt g.qb 0)),some ((pt g.qb 1)),some (.slice (some ⟨g.lg,0,none⟩) g.n g.n),some (i6 (i:Int)),some (.pointer (some ⟨g.lg,0 + i * 1,none⟩)),some (sT (getB R.last i)),some (.pointer (some ⟨g.sg,0 + i * 1,none⟩)),some (.tuple #[])]
def qf_g13m (g:G7) (R:Rf) (i:Nat) (sure:List ByteArray) (has:List Bool):List (List Bk):=[(qf_b1 g R sure has),(qf_b2 g R i sure has)]
def qf_g13t:List (Option Nat):=[none,none,none,none,none,none,none,none,none,none,none,none,none,some 0]
def qf_g13C (g:G7) (M:Pl) (R:Rf) (i:Nat) (z:Nat) (sure:List ByteArray) (has:List Bool) (w:World) (J:Act → World → Prop) (i_:Nat):Prop:=CertG (wpOp Try.prog (opsOf (getCode (bodyOf Try.f64) qf_n1)) (sem Try.prog (bodyOf Try.f64) (bodyPost Try.prog Try.f64 (fun e w'=>e = .returned (i6 (goesE M)) ∧ (∃ R',RfAt 99 9 4 w' g R' ∧ Sim7 (flushPl M) g.n R') ∧ Kept g.mine w w')) [.code qf_n2,.blk 1,.code qf_n3,.inv J,.blk 0,.code [1,1,1,1]])) [] 45 (opsOf (getCode (bodyOf Try.f64) qf_n1)) (slI (opsOf (getCode (bodyOf Try.f64) qf_n1)) (qf_g13s g i) i_) (qf_g13t) 1 (MG w (fun x=>g.mine x) (qf_g13m g R i sure has) [] z) (Turned (qf_b1 g R sure has)) (PvG (qf_g13v g R i) (fun _ _ _=>False)) i_
set_option maxRecDepth 100000 in
set_option maxHeartbeats 4000000 in
theorem rflush_pl (g:G7) (hk:g.Ok) (M:Pl) (pb:Nat) (R:Rf) (hp:PlOk pb M) (hS:Sim7 M g.n R) (ha:M.acts < 4611686018427387904) (w:World) (hR:RfAt 99 9 4 w g R) :
  Calls Try.prog 64 #[.pointer (some ⟨g.qb,0,none⟩)] w (fun e w'=>e = .returned (.int .i64 (goesE M)) ∧ (∃ R',RfAt 99 9 4 w' g R' ∧ Sim7 (flushPl M) g.n R') ∧ Kept g.mine w w'):=by
 refine calls_of_holds (S:=(fun x=>g.mine x)) (l:=[(pt g.qb 0)]) (n:=45) Try.func64 (body_of (by kernel_rfl)) rfl (by simp) (MemOk.start (bk:=(qf_b3 g R)) (wn:=[]) (by simpa using ⟨hR.p,hR.s,hR.l,hR.h⟩) (by intro b hb hr; simp at hb; rcases hb with rfl | rfl | rfl | rfl <;> simp [G7.mine]) (by simpa using hk.nd) (by simp)) ?_
 refine hgE 10 [oh0,oh0] [0,2,5] [] [] [.ops [1,0] [1,2],.code [1,1]] ⟨[(0,(pt g.qb 0)),(2,i6 0),(5,(pt g.qb 0))],(qf_b3 g R),[],w.heap.size⟩ ?_
 cases hg:M.goes with
 | false=>
  have hE:rfE R = 70:=by rw [hS.e]; unfold goesE; rw [hg]; rfl
  refine holds_callM (i6 70) (qf_b4 g R) (show _ = some (66,[(pt g.qb 0)],some 6,[]) by kernel_rfl) tI rfl (fun wx hm=>?_) fun z2 hz2=>?_
  ·refine (ract_any g R ⟨by rw [hS.acts]; exact hp.a0,by rw [hS.acts]; exact ha⟩ wx ⟨hm.at_ 0 rfl,hm.at_ 1 rfl,hm.at_ 2 rfl,hm.at_ 3 rfl,hR.ls,hR.ll,hR.lh⟩).mono fun e w' ⟨h1,h2,h3⟩=>?_
   rw [hE] at h1
   exact ⟨h1,hm.set1 0 rfl rfl h3 h2⟩
  replace hz2:w.heap.size ≤ z2:=hz2
  refine hgE 17 [oh0,oh0,oh0,oh1,oh0,oh0] [0,2] [tT] [] [.code [1,1,0,1,0,1],.code [1,1,1]] ⟨[(0,(pt g.qb 0)),(2,i6 70)],(qf_b4 g R),[],z2⟩ ?_
  refine hrt [] [i6 70] [] ?_
  intro wx hm
  have e1:goesE M = 70:=by unfold goesE; rw [hg]; rfl
  have e2:flushPl M = actPl M:=if_neg (by rw [hg]; decide)
  exact ⟨by rw [e1]; rfl,⟨⟨R.sure,R.last,R.has,(rfAct R).acts,(rfAct R).armed,(rfAct R).off⟩,⟨hm.at_ 0 rfl,hm.at_ 1 rfl,hm.at_ 2 rfl,hm.at_ 3 rfl,hR.ls,hR.ll,hR.lh⟩,by rw [e2,rfAct_eta]; exact hS.act⟩,hm.kept⟩
 | true=>
  have hE:rfE R = 0:=by rw [hS.e]; unfold goesE; rw [hg]; rfl
  refine holds_callM (i6 0) (qf_b4 g R) (show _ = some (66,[(pt g.qb 0)],some 6,[]) by kernel_rfl) tI rfl (fun wx hm=>?_) fun z5 hz5=>?_
  ·refine (ract_any g R ⟨by rw [hS.acts]; exact hp.a0,by rw [hS.acts]; exact ha⟩ wx ⟨hm.at_ 0 rfl,hm.at_ 1 rfl,hm.at_ 2 rfl,hm.at_ 3 rfl,hR.ls,hR.ll,hR.lh⟩).mono fun e w' ⟨h1,h2,h3⟩=>?_
   rw [hE] at h1
   exact ⟨h1,hm.set1 0 rfl rfl h3 h2⟩
  replace hz5:w.heap.size ≤ z5:=hz5
  refine hgE 19 [oh0,oh0,oh0,oh0,oh0] [0,2,4] [fF] [] [.code [1,1,1,0,1,0],.blk 0,.code [1,1,1,1]] ⟨[(0,(pt g.qb 0)),(2,i6 0),(4,i6 0)],(qf_b4 g R),[],z5⟩ ?_
  have hn1:=hk.n1
  refine holds_loop (RFlushI g R z5) g.n (by kernel_rfl) ⟨0,R.sure,R.has,_,rfl,Nat.le_refl _,rfl,hR.lh,fun _ _=>rfl,fun _ _=>rfl,rfl⟩ ?_
  rintro m' _ ⟨i,sure,has,z,hmi,hz,hls,hlh,hsu,hha,rfl⟩ J hJ
  have hlsR:=hR.ls
  by_cases hi:i < g.n
  rotate_left
  ·skip
   refine hgE 20 [oh0,oh0,oh0,oh0,(oA 0 0 1),oh0,oh0,oh0,oh0] [2] [dF (((i:Int):Int) < ((g.n:Nat):Int))] [(g.qb,0,1)] [.code [1,1,1,1,1]] ⟨[(2,i6 0)],(qf_b1 g R sure has),[],z⟩ ?_
   refine hrt [] [i6 0] [] ?_
   intro wx hm
   have hin:i = g.n:=by omega
   have e1:goesE M = 0:=by unfold goesE; rw [hg]; rfl
   exact ⟨by rw [e1]; rfl,⟨⟨sure,R.last,has,(rfAct R).acts,(rfAct R).armed,(rfAct R).off⟩,⟨hm.at_ 0 rfl,hm.at_ 1 rfl,hm.at_ 2 rfl,hm.at_ 3 rfl,by rw [hls]; exact hlsR,hR.ll,hlh⟩,hS.flush hp hg (fun j hj=>by rw [hsu j hj,if_pos (by omega)]) (fun j hj=>by rw [hha j hj,if_pos (by omega)]) rfl rfl rfl⟩,hm.kept⟩
  refine hgE 27 [oh0,oh0,oh0,oh0,(oA 0 0 1),oh0,oh0,oh1,oh0,oh0,oh0,(oA 0 2 1),oh0,oh2] [0,2,4,24] [dT (((i:Int):Int) < ((g.n:Nat):Int)),oE ((0:Int) ≤ (i:Int) ∧ (i:Int) < ((g.n:Nat):Int))] [(g.qb,0,1),(g.qb,2,1)] [.ops [1,1,1,0,1,0,0,1,0,0,0,0] [6],.code [1,1,1,0,1,0,0,1,0,0,0,1],.code qf_n2,.blk 1,.code qf_n3,.inv J,.blk 0,.code [1,1,1,1]] ⟨[(0,(pt g.qb 0)),(2,i6 0),(4,i6 (i:Int)),(24,.pointer (some ⟨g.hg,0 + i * 1,none⟩))],(qf_b1 g R sure has),[],z⟩ ?_
  refine holds_opR (dst:=(some 25)) (x:=Instr.loadAt 4 (.pointer (some ⟨g.hg,0 + i * 1,none⟩))) (.bool (getO has i)) (by kernel_rfl) (by kernel_rfl) rfl (fun wx hm=>?_) ?_
  ·exact load_bool (P:=Try.prog) (t:=4) hm (i:=3) (k:=i) rfl (by rw [hlh]; exact hi) (by kernel_rfl)
  refine hgE 4 [] [0,2,4,25] [] [] [.code [1,1,1,0,1,0,0,1,0,0,0,1],.code qf_n2,.blk 1,.code qf_n3,.inv J,.blk 0,.code [1,1,1,1]] ⟨[(0,(pt g.qb 0)),(2,i6 0),(4,i6 (i:Int)),(25,.bool (getO has i))],(qf_b1 g R sure has),[],z⟩ ?_
  have hhi:getO has i = getO R.has i:=by rw [hha i hi,if_neg (by omega)]
  rcases Bool.eq_false_or_eq_true (getO has i) with d1 | d1
  ·skip
   have hRi:getO R.has i = true:=hhi.symm.trans d1
   refine hgE 4 [oh1] [0,2,4] [eD d1] [] [.code qf_n1,.code qf_n2,.blk 1,.code qf_n3,.inv J,.blk 0,.code [1,1,1,1]] ⟨[(0,(pt g.qb 0)),(2,i6 0),(4,i6 (i:Int))],(qf_b1 g R sure has),[],z⟩ ?_
   have qf_g13_c11:qf_g13C g M R i z sure has w J 11:=cert_op (by
     intro j a_ wx hj hjs hcap hf hk_ hm
     have hm0:=hm
     obtain ⟨bk,hb,hz,hM⟩:=hm
     have hj0:j = 0:=by have:=hcap 13 0 (by kernel_rfl) (List.mem_of_getElem? (i:=1) (by kernel_rfl)); omega
     subst hj0
     have hb':some (qf_b1 g R sure has) = some bk:=hb
     cases hb'
     exact ⟨_,Instr.loadAt 9 (.pointer (some ⟨g.lg,0 + i * 1,none⟩)),_,wx,hf,by kernel_rfl,by kernel_rfl,load_str (P:=Try.prog) (t:=9) hM (i:=2) (k:=i) rfl (by rw [hR.ll]; exact hi) (by kernel_rfl),rfl,Kept.refl _ _,hm0⟩)
   have qf_g13_c13:qf_g13C g M R i z sure has w J 13:=cert_opS (by
     intro j a_ wx hj hjs hf hk_ hm
     obtain ⟨rfl,_⟩:=hjs 0 (by kernel_rfl)
     obtain ⟨bk,hb,hz,hM⟩:=hm
     have hb':some (qf_b1 g R sure has) = some bk:=hb
     cases hb'
     obtain ⟨w',h1,h2,h3,h4⟩:=store_strR (P:=Try.prog) (t:=9) (s:=getB R.last i) hM (i:=1) (k:=i) rfl (by rw [hls]; omega) (by kernel_rfl)
     exact ⟨_,_,_,hf,by kernel_rfl,by kernel_rfl,h1,(rfl:undef = _),h2.mono (fun k _ e=>⟨⟨g.sg,9,true,strsR sure g.r⟩,List.mem_of_getElem? (i:=1) (by kernel_rfl),rfl,e.symm⟩),_,by kernel_rfl,Nat.le_trans hz h3,h4⟩)
   have qf_g13_R:∀ e_ ∈ (rZs [0,1,2,4,5,6,7,9] ++ [⟨3,⟨false,0,[⟨false,0,0,1⟩]⟩,[],[(g.qb,0,1)]⟩,⟨8,⟨false,0,[⟨false,0,1,1⟩]⟩,[],[(g.qb,1,1)]⟩,⟨10,oh2,[oE ((0:Int) ≤ (i:Int) ∧ (i:Int) < ((g.n:Nat):Int))],[]⟩,⟨12,oh2,[oE ((0:Int) ≤ (i:Int) ∧ (i:Int) < ((g.n:Nat):Int))],[]⟩]:List RegE),qf_g13C g M R i z sure has w J e_.i:=certs_reg (by kernel_rfl) _ (fun sz=>by kernel_rfl)
   refine holds_mixG (vs:=(qf_g13v g R i)) (ms:=(qf_g13m g R i sure has)) (stg:=(qf_g13t)) (J:=1) (sl':=[(0,(pt g.qb 0)),(2,i6 0),(4,i6 (i:Int))]) (bk':=(qf_b2 g R i sure has)) (fun _ _ _=>False) [0,2,4] (by kernel_rfl) (by kernel_rfl) (by kernel_rfl) (fun _ _ _ _ h=>h.elim) (certs_mix qf_g13_R [11,13] ⟨qf_g13_c11,qf_g13_c13,tI⟩ (by kernel_rfl)) (by kernel_rfl) (by kernel_rfl) (by kernel_rfl) (fun z13 hz13=>?_)
   replace hz13:z ≤ z13:=hz13
   refine hgE 10 [oh0,oh0,oh0,(oA 0 2 1),oh0,oh2] [0,2,4,44] [oE ((0:Int) ≤ (i:Int) ∧ (i:Int) < ((g.n:Nat):Int))] [(g.qb,2,1)] [.ops qf_n2 [6],.blk 1,.code qf_n3,.inv J,.blk 0,.code [1,1,1,1]] ⟨[(0,(pt g.qb 0)),(2,i6 0),(4,i6 (i:Int)),(44,.pointer (some ⟨g.hg,0 + i * 1,none⟩))],(qf_b2 g R i sure has),[],z13⟩ ?_
   refine holds_opS (x:=Instr.storeAt 4 (.pointer (some ⟨g.hg,0 + i * 1,none⟩)) (.bool false)) (qf_b5 g R i sure has) (by kernel_rfl) (by kernel_rfl) rfl (fun wx hm=>?_) (fun z15 hz15=>?_)
   ·exact store_bool (P:=Try.prog) (t:=4) (s:=false) hm (i:=3) (k:=i) rfl (by rw [hlh]; exact hi) (by kernel_rfl)
   replace hz15:z13 ≤ z15:=hz15
   refine hgE 10 [oh0,oh2,oh0] [0,2,4] [n64 (((i:Int) + 1))] [] [.inv J,.blk 0,.code [1,1,1,1]] ⟨[(0,(pt g.qb 0)),(2,i6 0),(4,i6 ((i:Int) + 1))],(qf_b5 g R i sure has),[],z15⟩ ?_
   refine hJ (m' - 1) _ (by omega) ⟨i + 1,(List.set sure i (getB R.last i)),List.set has i false,z15,by omega,by omega,by rw [List.length_set]; exact hls,by rw [List.length_set]; exact hlh,fun j hj=>?_,fun j hj=>?_,by rw [cast_succ]; rfl⟩
   ·rw [getB_set (by rw [hls]; omega),hsu j hj]
    by_cases e:j = i
    ·rw [if_pos e,if_pos (by omega),e,hRi]
     rfl
    ·rw [if_neg e]
     by_cases e2:j < i
     ·rw [if_pos e2,if_pos (by omega)]
     ·rw [if_neg e2,if_neg (by omega)]
   ·rw [getO_set (by rw [hlh]; exact hi),hha j hj]
    by_cases e:j = i
    ·rw [if_pos e,if_pos (by omega)]
    ·rw [if_neg e]
     by_cases e2:j < i
     ·rw [if_pos e2,if_pos (by omega)]
     ·rw [if_neg e2,if_neg (by omega)]
  ·skip
   have hRi:getO R.has i = false:=hhi.symm.trans d1
   refine hgE 12 [oh0,oh0,oh0,oh0,(oA 0 2 1),oh0,oh2] [0,2,4,44] [eD d1,oE ((0:Int) ≤ (i:Int) ∧ (i:Int) < ((g.n:Nat):Int))] [(g.qb,2,1)] [.ops qf_n2 [6],.blk 1,.code qf_n3,.inv J,.blk 0,.code [1,1,1,1]] ⟨[(0,(pt g.qb 0)),(2,i6 0),(4,i6 (i:Int)),(44,.pointer (some ⟨g.hg,0 + i * 1,none⟩))],(qf_b1 g R sure has),[],z⟩ ?_
   refine holds_opS (x:=Instr.storeAt 4 (.pointer (some ⟨g.hg,0 + i * 1,none⟩)) (.bool false)) (qf_b6 g R i sure has) (by kernel_rfl) (by kernel_rfl) rfl (fun wx hm=>?_) (fun z18 hz18=>?_)
   ·exact store_bool (P:=Try.prog) (t:=4) (s:=false) hm (i:=3) (k:=i) rfl (by rw [hlh]; exact hi) (by kernel_rfl)
   replace hz18:z ≤ z18:=hz18
   refine hgE 10 [oh0,oh2,oh0] [0,2,4] [n64 (((i:Int) + 1))] [] [.inv J,.blk 0,.code [1,1,1,1]] ⟨[(0,(pt g.qb 0)),(2,i6 0),(4,i6 ((i:Int) + 1))],(qf_b6 g R i sure has),[],z18⟩ ?_
   refine hJ (m' - 1) _ (by omega) ⟨i + 1,sure,List.set has i false,z18,by omega,by omega,hls,by rw [List.length_set]; exact hlh,fun j hj=>?_,fun j hj=>?_,by rw [cast_succ]; rfl⟩
   ·rw [hsu j hj]
    by_cases e:j = i
    ·rw [if_neg (by omega),if_pos (by omega),e,hRi]
     rfl
    ·by_cases e2:j < i
     ·rw [if_pos e2,if_pos (by omega)]
     ·rw [if_neg e2,if_neg (by omega)]
   ·rw [getO_set (by rw [hlh]; exact hi),hha j hj]
    by_cases e:j = i
    ·rw [if_pos e,if_pos (by omega)]
    ·rw [if_neg e]
     by_cases e2:j < i
     ·rw [if_pos e2,if_pos (by omega)]
     ·rw [if_neg e2,if_neg (by omega)]
end Go.Proofs.Ytpilmccjjbgmiaa
