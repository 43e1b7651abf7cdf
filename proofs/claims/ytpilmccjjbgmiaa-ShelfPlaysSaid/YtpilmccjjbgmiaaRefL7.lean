import Derived.Test.YtpilmccjjbgmiaaRefF7
import Derived.Test.YtpilmccjjbgmiaaLawM
namespace Go.Proofs.Ytpilmccjjbgmiaa
open Go.RowKit
def qnz_v1:List Value:=rp 64 (.int .u8 0)
set_option maxRecDepth 100000 in
set_option maxHeartbeats 4000000 in
theorem rnought_any  (w:World) :
  Calls Try.prog 62 #[] w (RetK (.string (bytesI zeroSec)) w):=by
 refine calls_of_holds (S:=(fun _=>False)) (l:=[]) (n:=3) Try.func62 (body_of (by kernel_rfl)) rfl (by simp) (MemOk.none w _) ?_
 refine hgE 10 [oh0,oh0] [0,1] [] [] [.ops [1,0] [1,2],.code [1,1]] ⟨[(0,sT ⟨#[]⟩),(1,.slice (some ⟨w.heap.size,0,none⟩) 64 64)],[⟨w.heap.size,5,true,(qnz_v1)⟩],[],w.heap.size + 1⟩ ?_
 refine holds_opR (dst:=(some 2)) (x:=convert 40 9 (.slice (some ⟨w.heap.size,0,none⟩) 64 64)) (.string (bytesI zeroSec)) (by kernel_rfl) (by kernel_rfl) rfl (fun wx hm=>?_) ?_
 ·exact run_bytesAt (P:=Try.prog) wx 40 9 5 _ _ _ _ _ zeroSec [] [] (by kernel_rfl) (by kernel_rfl) (by kernel_rfl) (hm.at_ 0 rfl) rfl rfl secOk_zero.2
 refine hgE 5 [oh0] [0] [] [] [.code [1,1]] ⟨[(0,sT (bytesI zeroSec))],[⟨w.heap.size,5,true,(qnz_v1)⟩],[],w.heap.size + 1⟩ ?_
 refine hrt [] [sT (bytesI zeroSec)] [] ?_
 intro wx hm
 exact ⟨rfl,hm.kept⟩
def ql_v1 (g:G7) (R:Rf):List Value:=[.slice (some ⟨g.sg,0,none⟩) g.n g.sc,.slice (some ⟨g.lg,0,none⟩) g.n g.n,.slice (some ⟨g.hg,0,none⟩) g.n g.n,i6 R.acts,i6 R.armed,.bool R.off]
def ql_n1:List Nat:=[0,1,0,0,1,0,0,0]
@[simp] def ql_b1 (g:G7) (R:Rf) (sure:List ByteArray) (has:List Bool):List Bk:=[⟨g.qb,99,true,(ql_v1 g R)⟩,⟨g.sg,9,true,(strsR sure g.r)⟩,⟨g.lg,9,true,(strsV R.last)⟩,⟨g.hg,4,true,(boolsV has)⟩]
@[simp] def ql_b2 (g:G7) (R:Rf) (i:Nat) (sure:List ByteArray) (has:List Bool):List Bk:=[⟨g.qb,99,true,(ql_v1 g R)⟩,⟨g.sg,9,true,(strsR (List.set sure i (bytesI zeroSec)) g.r)⟩,⟨g.lg,9,true,(strsV R.last)⟩,⟨g.hg,4,true,(boolsV has)⟩]
@[simp] def ql_b3 (g:G7) (R:Rf):List Bk:=[⟨g.qb,99,true,(ql_v1 g R)⟩,⟨g.sg,9,true,(strsR R.sure g.r)⟩,⟨g.lg,9,true,(strsV R.last)⟩,⟨g.hg,4,true,(boolsV R.has)⟩]
@[simp] def ql_b4 (g:G7) (R:Rf) (i:Nat) (sure:List ByteArray) (has:List Bool):List Bk:=[⟨g.qb,99,true,(ql_v1 g R)⟩,⟨g.sg,9,true,(strsR (List.set sure i (bytesI zeroSec)) g.r)⟩,⟨g.lg,9,true,(strsV R.last)⟩,⟨g.hg,4,true,(boolsV (List.set has i false))⟩]
def RLoseI (g:G7) (R:Rf) (w:World)  (m:Nat) (st:St):Prop:=∃ (i:Nat) (sure:List ByteArray) (has:List Bool) (z:Nat),m + i = g.n ∧ w.heap.size ≤ z ∧ sure.length = R.sure.length ∧ has.length = g.n ∧ (∀ j_:Nat,j_ < i → getB sure j_ = bytesI zeroSec) ∧ (∀ j_:Nat,j_ < i → getO has j_ = false) ∧ st = ⟨[(0,(pt g.qb 0)),(2,i6 (i:Int))],(ql_b1 g R sure has),[],z⟩
def ql_g5s (g:G7) (i:Nat):List (Nat × Value):=[(0,(pt g.qb 0)),(2,i6 (i:Int))]
def ql_g5v (g:G7) (i:Nat):List (Option Value):=[some ((pt g.qb 0)),some ((pt g.qb 0)),some ((pt g.qb 0)),some (.slice (some ⟨g.sg,0,none⟩) g.n g.sc),some (i6 (i:Int)),some (sT (bytesI zeroSec)),some (.pointer (some ⟨g.sg,0 + i * 1,none⟩)),some (.tuple #[])]
def ql_g5m (g:G7) (R:Rf) (i:Nat) (sure:List ByteArray) (has:List Bool):List (List Bk):=[(ql_b1 g R sure has),(ql_b2 g R i sure has)]
def ql_g5t:List (Option Nat):=[none,none,none,none,none,none,none,some 0]
theorem ql_g5_5 (g:G7) (i:Nat):callAt Try.prog (opsOf (getCode (bodyOf Try.f36) ql_n1)) (slG (opsOf (getCode (bodyOf Try.f36) ql_n1)) (ql_g5v g i) (slI (opsOf (getCode (bodyOf Try.f36) ql_n1)) (ql_g5s g i) 5) (needsOf (opsOf (getCode (bodyOf Try.f36) ql_n1)) 5)) 5 = some (62,[],dstOf (opsOf (getCode (bodyOf Try.f36) ql_n1)) 5,[]):=by kernel_rfl
def ql_g5C (g:G7) (M:Pl) (R:Rf) (i:Nat) (z:Nat) (sure:List ByteArray) (has:List Bool) (w:World) (J:Act → World → Prop) (i_:Nat):Prop:=CertG (wpOp Try.prog (opsOf (getCode (bodyOf Try.f36) ql_n1)) (sem Try.prog (bodyOf Try.f36) (bodyPost Try.prog Try.f36 (fun e w'=>e = .returned (.tuple #[]) ∧ (∃ R',RfAt 99 9 4 w' g R' ∧ Sim7 (losePl M) g.n R') ∧ Kept g.mine w w')) [.code [0,1,0,0,1,0,0,1],.blk 1,.code [0,1,0,0,1,1],.inv J,.blk 0,.code [1]])) [] 31 (opsOf (getCode (bodyOf Try.f36) ql_n1)) (slI (opsOf (getCode (bodyOf Try.f36) ql_n1)) (ql_g5s g i) i_) (ql_g5t) 1 (MG w (fun x=>g.mine x) (ql_g5m g R i sure has) [] z) (Turned (ql_b1 g R sure has)) (PvG (ql_g5v g i) (fun _ _ _=>False)) i_
set_option maxRecDepth 100000 in
set_option maxHeartbeats 4000000 in
theorem rlose_pl (g:G7) (hk:g.Ok) (M:Pl) (pb:Nat) (R:Rf) (hp:PlOk pb M) (hS:Sim7 M g.n R) (w:World) (hR:RfAt 99 9 4 w g R) :
  Calls Try.prog 36 #[.pointer (some ⟨g.qb,0,none⟩)] w (fun e w'=>e = .returned (.tuple #[]) ∧ (∃ R',RfAt 99 9 4 w' g R' ∧ Sim7 (losePl M) g.n R') ∧ Kept g.mine w w'):=by
 refine calls_of_holds (S:=(fun x=>g.mine x)) (l:=[(pt g.qb 0)]) (n:=31) Try.func36 (body_of (by kernel_rfl)) rfl (by simp) (MemOk.start (bk:=(ql_b3 g R)) (wn:=[]) (by simpa using ⟨hR.p,hR.s,hR.l,hR.h⟩) (by intro b hb hr; simp at hb; rcases hb with rfl | rfl | rfl | rfl <;> simp [G7.mine]) (by simpa using hk.nd) (by simp)) ?_
 refine hgE 9 [oh0] [0,2] [] [] [.code [0,1,0],.blk 0,.code [1]] ⟨[(0,(pt g.qb 0)),(2,i6 0)],(ql_b3 g R),[],w.heap.size⟩ ?_
 have hn1:=hk.n1
 have hlsR:=hR.ls
 refine holds_loop (RLoseI g R w) g.n (by kernel_rfl) ⟨0,R.sure,R.has,_,rfl,Nat.le_refl _,rfl,hR.lh,fun _ h=>absurd h (Nat.not_lt_zero _),fun _ h=>absurd h (Nat.not_lt_zero _),rfl⟩ ?_
 rintro m' _ ⟨i,sure,has,z,hmi,hz,hls,hlh,hsu,hha,rfl⟩ J hJ
 by_cases hi:i < g.n
 rotate_left
 ·skip
  refine hgE 29 [oh0,oh0,oh0,oh0,(oA 0 0 1),oh0,oh0,oh0,oh0,oh0,oh0,(oA 0 5 1),oh0,oh0,oh0,(oA 0 4 1)] [] [dF (((i:Int):Int) < ((g.n:Nat):Int))] [(g.qb,0,1),(g.qb,5,1),(g.qb,4,1)] [] ⟨[],[⟨g.qb,99,true,[.slice (some ⟨g.sg,0,none⟩) g.n g.sc,.slice (some ⟨g.lg,0,none⟩) g.n g.n,.slice (some ⟨g.hg,0,none⟩) g.n g.n,i6 R.acts,i6 0,.bool false]⟩,⟨g.sg,9,true,(strsR sure g.r)⟩,⟨g.lg,9,true,(strsV R.last)⟩,⟨g.hg,4,true,(boolsV has)⟩],[],z⟩ ?_
  refine holds_end [] (show _ = some ([],dupR []) by kernel_rfl) ?_
  intro wx hm
  exact ⟨rfl,⟨⟨sure,R.last,has,R.acts,0,false⟩,⟨hm.at_ 0 rfl,hm.at_ 1 rfl,hm.at_ 2 rfl,hm.at_ 3 rfl,by rw [hls]; exact hlsR,hR.ll,hlh⟩,hS.lose (fun j hj=>hsu j (by omega)) (fun j hj=>hha j (by omega)) rfl rfl rfl hp.a0⟩,hm.kept⟩
 refine hgE 19 [oh0,oh0,oh0,oh0,(oA 0 0 1),oh0,oh0,oh1] [0,2] [dT (((i:Int):Int) < ((g.n:Nat):Int))] [(g.qb,0,1)] [.code ql_n1,.code [0,1,0,0,1,0,0,1],.blk 1,.code [0,1,0,0,1,1],.inv J,.blk 0,.code [1]] ⟨[(0,(pt g.qb 0)),(2,i6 (i:Int))],(ql_b1 g R sure has),[],z⟩ ?_
 have ql_g5_c5:ql_g5C g M R i z sure has w J 5:=cert_call (v:=.string (bytesI zeroSec)) (by kernel_rfl) (by kernel_rfl) (ql_g5_5 g i) trivial (fun j wx _ hm=>rnought_any wx)
 have ql_g5_c7:ql_g5C g M R i z sure has w J 7:=cert_opS (by
   intro j a_ wx hj hjs hf hk_ hm
   obtain ⟨rfl,_⟩:=hjs 0 (by kernel_rfl)
   obtain ⟨bk,hb,hz,hM⟩:=hm
   have hb':some (ql_b1 g R sure has) = some bk:=hb
   cases hb'
   obtain ⟨w',h1,h2,h3,h4⟩:=store_strR (P:=Try.prog) (t:=9) (s:=bytesI zeroSec) hM (i:=1) (k:=i) rfl (by rw [hls]; omega) (by kernel_rfl)
   exact ⟨_,_,_,hf,by kernel_rfl,by kernel_rfl,h1,(rfl:undef = _),h2.mono (fun k _ e=>⟨⟨g.sg,9,true,strsR sure g.r⟩,List.mem_of_getElem? (i:=1) (by kernel_rfl),rfl,e.symm⟩),_,by kernel_rfl,Nat.le_trans hz h3,h4⟩)
 have ql_g5_R:∀ e_ ∈ (rZs [0,1,2,4] ++ [⟨3,⟨false,0,[⟨false,0,0,1⟩]⟩,[],[(g.qb,0,1)]⟩,⟨6,oh2,[oE ((0:Int) ≤ (i:Int) ∧ (i:Int) < ((g.n:Nat):Int))],[]⟩]:List RegE),ql_g5C g M R i z sure has w J e_.i:=certs_reg (by kernel_rfl) _ (fun sz=>by kernel_rfl)
 refine holds_mixG (vs:=(ql_g5v g i)) (ms:=(ql_g5m g R i sure has)) (stg:=(ql_g5t)) (J:=1) (sl':=[(0,(pt g.qb 0)),(2,i6 (i:Int))]) (bk':=(ql_b2 g R i sure has)) (fun _ _ _=>False) [0,2] (by kernel_rfl) (by kernel_rfl) (by kernel_rfl) (fun _ _ _ _ h=>h.elim) (certs_mix ql_g5_R [5,7] ⟨ql_g5_c5,ql_g5_c7,tI⟩ (by kernel_rfl)) (by kernel_rfl) (by kernel_rfl) (by kernel_rfl) (fun z5 hz5=>?_)
 replace hz5:z ≤ z5:=hz5
 refine hgE 10 [oh0,oh0,oh0,(oA 0 2 1),oh0,oh2] [0,2,24] [oE ((0:Int) ≤ (i:Int) ∧ (i:Int) < ((g.n:Nat):Int))] [(g.qb,2,1)] [.ops [0,1,0,0,1,0,0,1] [6],.blk 1,.code [0,1,0,0,1,1],.inv J,.blk 0,.code [1]] ⟨[(0,(pt g.qb 0)),(2,i6 (i:Int)),(24,.pointer (some ⟨g.hg,0 + i * 1,none⟩))],(ql_b2 g R i sure has),[],z5⟩ ?_
 refine holds_opS (x:=Instr.storeAt 4 (.pointer (some ⟨g.hg,0 + i * 1,none⟩)) (.bool false)) (ql_b4 g R i sure has) (by kernel_rfl) (by kernel_rfl) rfl (fun wx hm=>?_) (fun z7 hz7=>?_)
 ·exact store_bool (P:=Try.prog) (t:=4) (s:=false) hm (i:=3) (k:=i) rfl (by rw [hlh]; exact hi) (by kernel_rfl)
 replace hz7:z5 ≤ z7:=hz7
 refine hgE 10 [oh0,oh2,oh0] [0,2] [n64 (((i:Int) + 1))] [] [.inv J,.blk 0,.code [1]] ⟨[(0,(pt g.qb 0)),(2,i6 ((i:Int) + 1))],(ql_b4 g R i sure has),[],z7⟩ ?_
 refine hJ (m' - 1) _ (by omega) ⟨i + 1,List.set sure i (bytesI zeroSec),List.set has i false,z7,by omega,by omega,by rw [List.length_set]; exact hls,by rw [List.length_set]; exact hlh,fun j hj=>?_,fun j hj=>?_,by rw [cast_succ]; rfl⟩
 ·rw [getB_set (by rw [hls]; omega)]
  by_cases e:j = i
  ·rw [if_pos e]
  ·rw [if_neg e]
   exact hsu j (by omega)
 ·rw [getO_set (by rw [hlh]; exact hi)]
  by_cases e:j = i
  ·rw [if_pos e]
  ·rw [if_neg e]
   exact hha j (by omega)
def qc_v1 (g:G7) (R:Rf):List Value:=(ql_v1 g R)
@[simp] def qc_b1 (g:G7) (R:Rf):List Bk:=[⟨g.qb,99,false,(qc_v1 g R)⟩,⟨g.hg,4,false,(boolsV R.has)⟩]
@[simp] def qc_b2 (g:G7) (R:Rf) (i:Nat) (W1:World):List Bk:=[⟨g.qb,99,false,(qc_v1 g R)⟩,⟨g.hg,4,false,(boolsV R.has)⟩,⟨W1.heap.size,3,true,[i6 (i:Int)]⟩]
def RCachedI (g:G7) (R:Rf) (w:World)  (m:Nat) (st:St) (W1:World):Prop:=∃ (i:Nat) (A:Option Addr) (nn cp z:Nat),m + i = g.n ∧ (nn = 0 → A = none) ∧ nn = ((List.range i).filter (getO R.has)).length ∧ OwnI W1 w.heap.size 3 A nn cp (((List.range i).filter (getO R.has)).map fun k:Nat=>(k:Int)) ∧ st = ⟨[(0,(pt g.qb 0)),(2,.slice none 0 0),(3,.slice A nn cp),(4,i6 (i:Int))],(qc_b1 g R),[],z⟩
set_option maxRecDepth 100000 in
set_option maxHeartbeats 4000000 in
theorem rcached_any (g:G7) (hk:g.Ok) (R:Rf) (w:World) (hR:RfAt 99 9 4 w g R) :
  Calls Try.prog 65 #[.pointer (some ⟨g.qb,0,none⟩)] w (fun e w'=>∃ A cp,e = .returned (.slice A (cachedR g.n R.has).length cp) ∧ OwnI w' w.heap.size 3 A (cachedR g.n R.has).length cp ((cachedR g.n R.has).map fun k:Nat=>(k:Int)) ∧ Kept (fun _=>False) w w'):=by
 refine calls_of_holds (S:=(fun _=>False)) (l:=[(pt g.qb 0)]) (n:=26) Try.func65 (body_of (by kernel_rfl)) rfl (by simp) (MemOk.start (bk:=(qc_b1 g R)) (wn:=[]) (by simpa using ⟨hR.p,hR.h⟩) (by simp) (by simpa using hk.c) (by simp)) ?_
 refine hgE 17 [oh0,oh0,oh0] [0,2,3,4] [] [] [.code [1,1,0,1,0],.blk 0,.code [1,1,1]] ⟨[(0,(pt g.qb 0)),(2,.slice none 0 0),(3,.slice none 0 0),(4,i6 0)],(qc_b1 g R),[],w.heap.size⟩ ?_
 have hn1:=hk.n1
 have hlh:=hR.lh
 refine holds_loopW (w:=w) (S':=fun _=>False) (RCachedI g R w) g.n (by kernel_rfl) (fun W1 hm=>⟨⟨0,none,0,0,_,rfl,fun _=>rfl,rfl,OwnI.nil _ _ _,rfl⟩,hm⟩) ?_
 rintro m _ W1 ⟨i,A,nn,cp,z,hmi,hn0,hnn,hO,rfl⟩ hm1 J hJ
 have hown:=hO.own
 have hw1:=hm1.kept.size
 have hTn:∀ x,¬ Turned (qc_b1 g R) x:=by
  rintro x ⟨b,hb,hr,he⟩
  simp at hb
  rcases hb with rfl | rfl <;> simp at hr
 by_cases hi:i < g.n
 rotate_left
 ·skip
  refine hgE 21 [oh0,oh0,oh0,oh0,(oA 0 2 1),oh0,oh0,oh0,oh0,oh0] [2] [dF (((i:Int):Int) < ((g.n:Nat):Int))] [(g.qb,2,1)] [.code [1,1,1,1]] ⟨[(2,.slice A nn cp)],(qc_b1 g R),[],W1.heap.size⟩ ?_
  refine hrt [] [.slice A nn cp] [] ?_
  intro wx hm
  have hin:i = g.n:=by omega
  rw [hin] at hnn hO
  subst hnn
  exact ⟨A,cp,rfl,hO.kept hm.kept (fun x _=>hTn x),(MemOk.back2 hm1 hm).kept⟩
 refine hgE 26 [oh0,oh0,oh0,oh0,(oA 0 2 1),oh0,oh0,oh1,oh0,oh0,oh0,(oA 0 2 1),oh0,oh2] [0,2,3,4,19] [dT (((i:Int):Int) < ((g.n:Nat):Int)),oE ((0:Int) ≤ (i:Int) ∧ (i:Int) < ((g.n:Nat):Int))] [(g.qb,2,1),(g.qb,2,1)] [.ops [1,1,0,1,0,0,1,0,0,0] [6],.code [1,1,0,1,0,0,1,0,0,1],.blk 1,.code [1,1,0,1,0,0,1,1],.inv J,.blk 0,.code [1,1,1]] ⟨[(0,(pt g.qb 0)),(2,.slice none 0 0),(3,.slice A nn cp),(4,i6 (i:Int)),(19,.pointer (some ⟨g.hg,0 + i * 1,none⟩))],(qc_b1 g R),[],W1.heap.size⟩ ?_
 refine holds_opR (dst:=(some 20)) (x:=Instr.loadAt 4 (.pointer (some ⟨g.hg,0 + i * 1,none⟩))) (.bool (getO R.has i)) (by kernel_rfl) (by kernel_rfl) rfl (fun wx hm=>?_) ?_
 ·exact load_bool (P:=Try.prog) (t:=4) hm (i:=1) (k:=i) rfl (by rw [hlh]; exact hi) (by kernel_rfl)
 refine hgE 4 [] [0,2,3,4,20] [] [] [.code [1,1,0,1,0,0,1,0,0,1],.blk 1,.code [1,1,0,1,0,0,1,1],.inv J,.blk 0,.code [1,1,1]] ⟨[(0,(pt g.qb 0)),(2,.slice none 0 0),(3,.slice A nn cp),(4,i6 (i:Int)),(20,.bool (getO R.has i))],(qc_b1 g R),[],W1.heap.size⟩ ?_
 have hstep:(List.range (i + 1)).filter (getO R.has) = (List.range i).filter (getO R.has) ++ (bif getO R.has i then [i] else []):=by
  rw [List.range_succ,List.filter_append]
  congr 1
 rcases Bool.eq_false_or_eq_true (getO R.has i) with d1 | d1
 ·skip
  have hnn64:nn ≤ 64:=by
   rw [hnn]
   exact Nat.le_trans (List.length_filter_le _ _) (by rw [List.length_range]; omega)
  refine hgE 8 [oh1,oh0,oh0,oh0] [0,2,3,4,21,23] [eD d1] [] [.ops [1,1,0,1,0,0,1,0,0,1,0] [3,4],.blk 1,.code [1,1,0,1,0,0,1,1],.inv J,.blk 0,.code [1,1,1]] ⟨[(0,(pt g.qb 0)),(2,.slice none 0 0),(3,.slice A nn cp),(4,i6 (i:Int)),(21,.slice A nn cp),(23,.slice (some ⟨W1.heap.size,0,none⟩) 1 1)],(qc_b2 g R i W1),[],W1.heap.size + 1⟩ ?_
  refine holds_opY (w:=w) (S':=fun _=>False) (dst:=(some 24)) (x:=Builtin.append_ #[52,52] 52 #[.slice A nn cp,.slice (some ⟨W1.heap.size,0,none⟩) 1 1]) (fun y:Option Addr × Nat=>.slice y.1 (nn + 1) y.2) (fun y W3=>OwnI W3 w.heap.size 3 y.1 (nn + 1) y.2 ((((List.range i).filter (getO R.has)).map fun k:Nat=>(k:Int)) ++ [(i:Int)]) ∧ ¬ ownB y.1 W1.heap.size) (fun y=>(24,.slice y.1 (nn + 1) y.2) :: [(0,(pt g.qb 0)),(2,.slice none 0 0),(3,.slice A nn cp),(4,.int .i64 (i:Int)),(21,.slice A nn cp),(23,.slice (some ⟨W1.heap.size,0,none⟩) 1 1)]) (by kernel_rfl) (by kernel_rfl) (fun _=>rfl) (fun wx hm=>?_) (fun y W3 hX3 hm3=>?_)
  ·have hsz:=hm.size
   have hsz2:W1.heap.size ≤ wx.heap.size:=hm.kept.size
   obtain ⟨A',cp',w',h1,h2,h3,h4⟩:=run_appendI (P:=Try.prog) wx w.heap.size 52 52 3 A nn cp (((List.range i).filter (getO R.has)).map fun k:Nat=>(k:Int)) W1.heap.size 1 3 (i:Int) (by kernel_rfl) (by kernel_rfl) (hO.kept hm.kept (fun x _=>hTn x)) (hm.at_ 2 rfl) hnn64 (by omega) hn0 (fun hx=>by have:=hown _ hx; omega)
   exact ⟨(A',cp'),w',h1,⟨h2,h4⟩,(hm1.back2 hm).off (fun _ h=>h) h3 (fun x hx=>.inr (by have:=hown x hx; omega)) (by
    intro b hb hx
    have hq:=hown _ hx
    have hl1:=(hm1.at_ 0 rfl).lt
    simp at hb
    rcases hb with rfl | rfl | rfl
    ·have h6:g.qb < w.heap.size:=hR.p.lt
     simp at hq
     omega
    ·have h6:g.hg < w.heap.size:=hR.h.lt
     simp at hq
     omega
    ·simp at hq)⟩
  obtain ⟨A1,cp1⟩:=y
  obtain ⟨hO3,hno3⟩:=hX3
  have hown3:=hO3.own
  refine hgE 11 [oh0,oh0,oh2,oh0] [0,2,3,4] [n64 (((i:Int) + 1))] [] [.inv J,.blk 0,.code [1,1,1]] ⟨[(0,(pt g.qb 0)),(2,.slice none 0 0),(3,.slice A1 (nn + 1) cp1),(4,i6 ((i:Int) + 1))],(qc_b2 g R i W1),[],W3.heap.size⟩ ?_
  refine holds_prune [0,2,3,4] [true,true,false] ?_
  intro a w5 hf hm
  refine hJ (m - 1) _ a w5 (by omega) ⟨i + 1,A1,nn + 1,cp1,_,by omega,fun h=>absurd h (Nat.succ_ne_zero _),by rw [hstep,d1,hnn]; simp,?_,by rw [← cast_succ i]; rfl⟩ hf (hm3.back2 hm)
  have h7:=hO3.kept hm.kept (fun x hx ⟨b,hb,hr,he⟩=>by
   simp at hb
   rcases hb with rfl | rfl | rfl
   ·simp at hr
   ·simp at hr
   ·exact hno3 (by rw [show W1.heap.size = x from he]; exact hx))
  rw [hstep,d1]
  simpa using h7
 ·skip
  refine hgE 11 [oh0,oh0,oh2,oh0] [0,2,3,4] [eD d1,n64 (((i:Int) + 1))] [] [.inv J,.blk 0,.code [1,1,1]] ⟨[(0,(pt g.qb 0)),(2,.slice none 0 0),(3,.slice A nn cp),(4,i6 ((i:Int) + 1))],(qc_b1 g R),[],W1.heap.size⟩ ?_
  intro a w5 hf hm
  refine hJ (m - 1) _ a w5 (by omega) ⟨i + 1,A,nn,cp,_,by omega,hn0,by rw [hstep,d1]; simpa using hnn,?_,by rw [← cast_succ i]⟩ hf (hm1.back2 hm)
  rw [hstep,d1]
  simpa using hO.kept hm.kept (fun x _=>hTn x)
end Go.Proofs.Ytpilmccjjbgmiaa
