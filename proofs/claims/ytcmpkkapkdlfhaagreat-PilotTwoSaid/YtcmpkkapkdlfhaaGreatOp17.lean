import Derived.Test.YtcmpkkapkdlfhaaGreatSim2
import Derived.Test.YtcmpkkapkdlfhaaGreatPil2
namespace Go.Proofs.YtcmpkkapkdlfhaaGreat
open Go.RowKit
def pickZ(c n:Int):Int:=(if c<0 then -(c+1)else c)%n
theorem pickZ_bd(c n:Int)(h:0<n):0<=pickZ c n∧pickZ c n<n:=⟨Int.emod_nonneg _ (by omega),Int.emod_lt_of_pos _ h⟩
end Go.Proofs.YtcmpkkapkdlfhaaGreat
namespace Go.Proofs.YtcmpkkapkdlfhaaGreat
open Go.RowKit
set_option maxHeartbeats 4000000
set_option maxRecDepth 100000
theorem pick17_n(c n v:Int)(h:pickZ c n=v)(hc:c<0)(h1:1<=n)(h2:n<=9223372036854775807)(h3:-9223372036854775808<=c∧c<=9223372036854775807)(w:World) :
  Calls Tryz.prog 11 #[i6 c,i6 n] w (RetK (i6 v) w):=by
 refine cH (S:=(fun _=>False)) (n:=13) Tryz.func11 (MemOk.none w _) ?_
 refine hgS 27 (dz 12 0x20002201000) [4] [oE ((decide ((c:Int)<0))=true) (decide_eq_true hc),n64 ((c+1)),n64 ((0-(c+1))),oE ((0:Int)<=(0-(c+1))∧(0:Int)<n)] [] [.code [1,1,1]] [] [] w.heap.size ?_
 refine hrt [] [i6 ((0-(c+1))%n)] [] ?_
 intro wx hm
 refine⟨?_,hm.kept⟩
 subst h
 simp only[oneOf,pickZ,if_pos hc]
 congr 3
 omega
theorem pick17_p(c n v:Int)(h:pickZ c n=v)(hc:¬c<0)(h1:1<=n)(h2:n<=9223372036854775807)(h3:-9223372036854775808<=c∧c<=9223372036854775807)(w:World) :
  Calls Tryz.prog 11 #[i6 c,i6 n] w (RetK (i6 v) w):=by
 refine cH (S:=(fun _=>False)) (n:=13) Tryz.func11 (MemOk.none w _) ?_
 refine hgS 22 (dz 8 33554432) [4] [dF ((c:Int)<0),oE ((0:Int)<=c∧(0:Int)<n)] [] [.code [1,1,1]] [] [] w.heap.size ?_
 refine hrt [] [i6 (c%n)] [] ?_
 intro wx hm
 refine⟨?_,hm.kept⟩
 subst h
 simp only[oneOf,pickZ,if_neg hc]
theorem pick17(c n v:Int)(h:pickZ c n=v)(w:World)(h1:1<=n)(h2:n<=9223372036854775807)(h3:-9223372036854775808<=c∧c<=9223372036854775807):Calls Tryz.prog 11 #[i6 c,i6 n] w (RetK (i6 v) w):=by
 by_cases hc:c<0
 ·exact pick17_n c n v h hc h1 h2 h3 w
 ·exact pick17_p c n v h hc h1 h2 h3 w
theorem pick5_n(c n v:Int)(h:pickZ c n=v)(hc:c<0)(h1:1<=n)(h2:n<=9223372036854775807)(h3:-9223372036854775808<=c∧c<=9223372036854775807)(w:World) :
  Calls Tryz.prog 25 #[i6 c,i6 n] w (RetK (i6 v) w):=by
 refine cH (S:=(fun _=>False)) (n:=13) Tryz.func25 (MemOk.none w _) ?_
 refine hgS 27 (dz 12 0x20002201000) [4] [oE ((decide ((c:Int)<0))=true) (decide_eq_true hc),n64 ((c+1)),n64 ((0-(c+1))),oE ((0:Int)<=(0-(c+1))∧(0:Int)<n)] [] [.code [1,1,1]] [] [] w.heap.size ?_
 refine hrt [] [i6 ((0-(c+1))%n)] [] ?_
 intro wx hm
 refine⟨?_,hm.kept⟩
 subst h
 simp only[oneOf,pickZ,if_pos hc]
 congr 3
 omega
theorem pick5_p(c n v:Int)(h:pickZ c n=v)(hc:¬c<0)(h1:1<=n)(h2:n<=9223372036854775807)(h3:-9223372036854775808<=c∧c<=9223372036854775807)(w:World) :
  Calls Tryz.prog 25 #[i6 c,i6 n] w (RetK (i6 v) w):=by
 refine cH (S:=(fun _=>False)) (n:=13) Tryz.func25 (MemOk.none w _) ?_
 refine hgS 22 (dz 8 33554432) [4] [dF ((c:Int)<0),oE ((0:Int)<=c∧(0:Int)<n)] [] [.code [1,1,1]] [] [] w.heap.size ?_
 refine hrt [] [i6 (c%n)] [] ?_
 intro wx hm
 refine⟨?_,hm.kept⟩
 subst h
 simp only[oneOf,pickZ,if_neg hc]
theorem pick5(c n v:Int)(h:pickZ c n=v)(w:World)(h1:1<=n)(h2:n<=9223372036854775807)(h3:-9223372036854775808<=c∧c<=9223372036854775807):Calls Tryz.prog 25 #[i6 c,i6 n] w (RetK (i6 v) w):=by
 by_cases hc:c<0
 ·exact pick5_n c n v h hc h1 h2 h3 w
 ·exact pick5_p c n v h hc h1 h2 h3 w
section
variable (a b:Int)(w:World)
@[simp] def f5_b1:List Bk:=[⟨w.heap.size,23,true,[i6 a,i6 b]⟩,⟨w.heap.size+1,23,true,[i6 0,i6 0]⟩]
def f5_g2s:List (Nat×Value):=[(1,(pt w.heap.size 0)),(2,(pt (w.heap.size+1) 0))]
def f5_g2v:List (Option Value):=[some ((pt w.heap.size 0)),some (i6 a),some (i6 (pickZ a 4)),some (i6 (3+(pickZ a 4))),some ((pt w.heap.size 1)),some (i6 b),some (i6 (pickZ b 8)),some (i6 (1+(pickZ b 8))),some (.agg #[i6 (3+(pickZ a 4)),i6 (1+(pickZ b 8))]),some (.tuple #[])]
def f5_g2m:List (List Bk):=[(f5_b1 a b w),[⟨w.heap.size,23,true,[i6 a,i6 b]⟩,⟨w.heap.size+1,23,true,[i6 (3+(pickZ a 4)),i6 (1+(pickZ b 8))]⟩]]
def f5_g2t:List (Option Nat):=[none,none,none,none,none,none,none,none,none,some 0]
theorem f5_g2_2:callAt Tryz.prog (opsOf (getCode (bodyOf Tryz.f7) [1,0])) (slG (opsOf (getCode (bodyOf Tryz.f7) [1,0])) (f5_g2v a b w) (slI (opsOf (getCode (bodyOf Tryz.f7) [1,0])) (f5_g2s w) 2) (needsOf (opsOf (getCode (bodyOf Tryz.f7) [1,0])) 2)) 2=some (25,[i6 a,i6 4],dstOf (opsOf (getCode (bodyOf Tryz.f7) [1,0])) 2,[]):=by kernel_rfl
theorem f5_g2_6:callAt Tryz.prog (opsOf (getCode (bodyOf Tryz.f7) [1,0])) (slG (opsOf (getCode (bodyOf Tryz.f7) [1,0])) (f5_g2v a b w) (slI (opsOf (getCode (bodyOf Tryz.f7) [1,0])) (f5_g2s w) 6) (needsOf (opsOf (getCode (bodyOf Tryz.f7) [1,0])) 6)) 6=some (25,[i6 b,i6 8],dstOf (opsOf (getCode (bodyOf Tryz.f7) [1,0])) 6,[]):=by kernel_rfl
theorem f5_g2_9:∀sz,opG Tryz.prog (opsOf (getCode (bodyOf Tryz.f7) [1,0])) ⟨slG (opsOf (getCode (bodyOf Tryz.f7) [1,0])) (f5_g2v a b w) (slI (opsOf (getCode (bodyOf Tryz.f7) [1,0])) (f5_g2s w) 9) (needsOf (opsOf (getCode (bodyOf Tryz.f7) [1,0])) 9),(f5_b1 a b w),[],sz⟩ 9 (oA 1 0 2)=some ([],dupR [(w.heap.size+1,0,2)],undef,[⟨w.heap.size,23,true,[i6 a,i6 b]⟩,⟨w.heap.size+1,23,true,[i6 (3+(pickZ a 4)),i6 (1+(pickZ b 8))]⟩],sz):=fun sz=>by kernel_rfl
def f5_g2C(i_:Nat):Prop:=CertG (wpOp Tryz.prog (opsOf (getCode (bodyOf Tryz.f7) [1,0])) (sem Tryz.prog (bodyOf Tryz.f7) (bodyPost Tryz.prog Tryz.f7 (RetK (.agg #[i6 (3+pickZ a 4),i6 (1+pickZ b 8)]) w)) [.code [1,1]])) [] 12 (opsOf (getCode (bodyOf Tryz.f7) [1,0])) (slI (opsOf (getCode (bodyOf Tryz.f7) [1,0])) (f5_g2s w) i_) (f5_g2t) 1 (MG w (fun _=>False) (f5_g2m a b w) [] (w.heap.size+2)) (Turned (f5_b1 a b w)) (PvG (f5_g2v a b w) (fun _ _ _=>False)) i_
end
theorem fit5(a b:Int)(ha:-9223372036854775808<=a∧a<=9223372036854775807)(hb:-9223372036854775808<=b∧b<=9223372036854775807)(w:World) :
  Calls Tryz.prog 7 #[.agg #[i6 a,i6 b]] w (RetK (.agg #[i6 (3+pickZ a 4),i6 (1+pickZ b 8)]) w):=by
 refine cH (S:=(fun _=>False)) (n:=12) Tryz.func7 (MemOk.none w _) ?_
 have hpa:=pickZ_bd a 4 (by omega)
 have hpb:=pickZ_bd b 8 (by omega)
 refine hgE 9 (dz 2 0) [1,2] [] [] [.code [1,0],.code [1,1]] ⟨[(1,(pt w.heap.size 0)),(2,(pt (w.heap.size+1) 0))],(f5_b1 a b w),[],w.heap.size+2⟩ ?_
 have f5_g2_c2:f5_g2C a b w 2:=cert_call (v:=i6 (pickZ a 4)) (by kernel_rfl) (by kernel_rfl) (f5_g2_2 a b w) trivial (fun j wx _ hm=>pick5 a 4 _ rfl wx (by omega) (by omega) (by omega))
 have f5_g2_c6:f5_g2C a b w 6:=cert_call (v:=i6 (pickZ b 8)) (by kernel_rfl) (by kernel_rfl) (f5_g2_6 a b w) trivial (fun j wx _ hm=>pick5 b 8 _ rfl wx (by omega) (by omega) (by omega))
 have f5_g2_c9:f5_g2C a b w 9:=cert_store (s:=0) (v:=undef) (by kernel_rfl) (by kernel_rfl) (by kernel_rfl) (by kernel_rfl) (by kernel_rfl) (f5_g2_9 a b w) trivial
 have f5_g2_R:∀e_∈(rZs [0,4,8]++[rG 1 0 0 1 w.heap.size,⟨3,oh2,[n64 ((3+(pickZ a 4)))],[]⟩,rG 5 0 1 1 w.heap.size,⟨7,oh2,[n64 ((1+(pickZ b 8)))],[]⟩]:List RegE),f5_g2C a b w e_.i:=certs_reg (by kernel_rfl) _ (fun sz=>by kernel_rfl)
 refine holds_mixG (vs:=(f5_g2v a b w)) (ms:=(f5_g2m a b w)) (stg:=(f5_g2t)) (J:=1) (sl':=[(2,(pt (w.heap.size+1) 0))]) (bk':=[⟨w.heap.size,23,true,[i6 a,i6 b]⟩,⟨w.heap.size+1,23,true,[i6 (3+(pickZ a 4)),i6 (1+(pickZ b 8))]⟩]) (fun _ _ _=>False) [2] (by kernel_rfl) (by kernel_rfl) (by kernel_rfl) (fun _ _ _ _ h=>h.elim) (certs_mix f5_g2_R [2,6,9] ⟨f5_g2_c2,f5_g2_c6,f5_g2_c9,tI⟩ (by kernel_rfl)) (by kernel_rfl) (by kernel_rfl) (by kernel_rfl) (fun z2 hz2=>?_)
 replace hz2:w.heap.size+2<=z2:=hz2
 refine hgS 3 [] [2] [] [] [.code [1,1]] [⟨w.heap.size,23,true,[i6 a,i6 b]⟩,⟨w.heap.size+1,23,true,[i6 (3+(pickZ a 4)),i6 (1+(pickZ b 8))]⟩] [] z2 ?_
 refine hrt [[⟨false,1,0,2⟩]] [.agg #[i6 (3+(pickZ a 4)),i6 (1+(pickZ b 8))]] [(w.heap.size+1,0,2)] ?_
 intro wx hm
 exact⟨rfl,hm.kept⟩
theorem ref5Right(N S:Int)(hg:3<=N∧N<=6∧1<=S∧S<=8)(w:World) :
  Calls Tryz.prog 29 #[.agg #[i6 N,i6 S]] w (RetK (.bool true) w):=by
 refine cH (S:=(fun _=>False)) (n:=21) Tryz.func29 (MemOk.none w _) ?_
 refine hgS 30 (dz 21 0x3101010910310101091031010009100010008000) [2] (rE 4 (dT ((N:Int)>=3))++rE 4 (dT ((N:Int)<=6))++rE 4 (dT ((S:Int)>=1))) [(w.heap.size,0,1),(w.heap.size,0,1),(w.heap.size,1,1),(w.heap.size,1,1)] [.code [1,1]] [⟨w.heap.size,23,true,[i6 N,i6 S]⟩] [] (w.heap.size+1) ?_
 refine hrt [] [.bool (decide ((S:Int)<=8))] [] ?_
 intro wx hm
 exact⟨ret_bool (decide_eq_true (by omega)),hm.kept⟩
theorem ref5Blocks(N S:Int)(hg:3<=N∧N<=6∧1<=S∧S<=8)(w:World) :
  Calls Tryz.prog 10 #[.agg #[i6 N,i6 S]] w (RetK (i6 (S*(N-1))) w):=by
 refine cH (S:=(fun _=>False)) (n:=14) Tryz.func10 (MemOk.none w _) ?_
 have hm1:0<=S*(N-1):=Int.mul_nonneg (by omega) (by omega)
 have hm2:S*(N-1)<=8*5:=Int.mul_le_mul (by omega) (by omega) (by omega) (by omega)
 refine hgS 11 (dz 3 33556480) [1,2,4] [] [(w.heap.size,0,2)] [.ops [1,0] [1,2],.code [1,1]] [⟨w.heap.size,23,true,[i6 N,i6 S]⟩] [] (w.heap.size+1) ?_
 refine hcq (.bool true) _ _ (some 5) [] tI rfl (fun wx hm=>ref5Right N S hg wx) fun z2 hz2=>?_
 refine hgS 23 (dz 11 0x22010008001010800000) [2] [fF,n64 ((N-1)),n64 ((S*(N-1)))] [(w.heap.size,1,1),(w.heap.size,0,1)] [.code [1,1,1,1]] [⟨w.heap.size,23,true,[i6 N,i6 S]⟩] [] z2 ?_
 refine hrt [] [i6 (S*(N-1))] [] ?_
 intro wx hm
 exact⟨rfl,hm.kept⟩
def txt_v1:List Value:=rp 16 (.int .u8 0)
def txt_n1:List Nat:=[1,1,0,1,0,0,1,0,0,1,1]
def TxtI(R:List ByteArray)(n:Nat)(gR:Nat)(cR:Nat)(w:World)  (m:Nat) (st:St) (W0:World):Prop:=
 ∃(i:Nat)(A:Option Addr)(cp:Nat)(z:Nat),m+i=n∧i<=n∧OwnR W0 w.heap.size 9 1 A i cp (strsV ((R.map (strL 16)).take i))∧st=⟨[(0,.slice (some ⟨gR,0,none⟩) n cR),(1,i6 (n:Int)),(2,i6 16),(6,.slice none 0 0),(7,.slice A i cp),(8,i6 (i:Int))],[],[],z⟩
theorem texts_list(R:List ByteArray)(n gR cR:Nat)(hn:R.length=n)(h9:n<=9)(w:World)(hg:gR<w.heap.size)(hc:∀(j:Nat)(v:Value),(strsV R)[j]?=some v->w.cell? ⟨gR,0+j,none⟩=some v) :
  Calls Tryz.prog 24 #[.slice (some ⟨gR,0,none⟩) n cR,i6 (n:Int),i6 16] w (fun e w'=>∃A_ c_,e=.returned (.slice A_ n c_)∧OwnR w' w.heap.size 9 1 A_ n c_ (strsV (R.map (strL 16)))∧Kept (fun _=>False) w w'):=by
 refine cH (S:=(fun _=>False)) (n:=33) Tryz.func24 (MemOk.none w _) ?_
 refine hgE 17 (dz 3 0) [0,1,2,6,7,8] [] [] [.code [1,1,0,1,0],.blk 0,.code [1,1,1]] ⟨[(0,.slice (some ⟨gR,0,none⟩) n cR),(1,i6 (n:Int)),(2,i6 16),(6,.slice none 0 0),(7,.slice none 0 0),(8,i6 0)],[],[],w.heap.size⟩ ?_
 refine holds_loopW (w:=w) (S':=fun _=>False) (TxtI R n gR cR w) n (by kernel_rfl) (fun W0 hm=>⟨⟨0,none,0,_,by omega,by omega,OwnR.nil _ _ _ _,rfl⟩,hm⟩) ?_
 rintro m _ W1 ⟨i,A,cp,z,hmi,hin,hO1,rfl⟩ hm1 J hJ
 by_cases h1:i<n
 rotate_left
 ·skip
  refine hgS 17 (dz 6 0) [6] [dF (((i:Int):Int)<(n:Int))] [] [.code [1,1,1,1]] [] [] W1.heap.size ?_
  refine hrt [] [.slice A i cp] [] ?_
  intro wx hm
  obtain rfl:i=n:=by omega
  have hO2:=hO1.keptT (es:=[]) hm.kept (fun y ⟨b,hb,_⟩=>by cases hb) rfl
  rw[List.take_of_length_le (by simp[hn])]at hO2
  exact⟨A,cp,rfl,hO2,(MemOk.bck hm1 hm).kept⟩
 obtain⟨s,hs⟩:∃s,R[i]?=some s:=⟨_,List.getElem?_eq_getElem (by omega)⟩
 refine holds_wins [⟨gR,0+i*1,[sT s]⟩] (fun _ y hy=>?_) ?_
 ·obtain rfl:=List.mem_singleton.1 hy
  exact⟨(fun⟨b,hb,_⟩=>by cases hb),Nat.lt_of_lt_of_le hg hm1.kept.size,strs_cell (fun j v hj=>cell_kept hm1.kept hg (hc j v hj)) hs⟩
 refine hgE 35 [oh0,oh0,oh0,oh1,oh0,oh0,oh0,oh0,oh0,oh0,oh0,oh1,oh0,oh0,oh0,oh2,⟨false,0,[⟨true,0,0,1⟩]⟩] [0,1,2,6,7,8,9,21,25] (rE 2 (dT (((i:Int):Int)<(n:Int)))++[oE ((0:Int)<=(i:Int)∧(i:Int)<((n:Nat):Int))]) [(gR,0+i*1,1)] [.ops [1,1,0,1,0,0,1,0,0,1,0,1,0] [5],.code txt_n1,.blk 1,.code [1,1,0,1,0,0,1,1],.inv J,.blk 0,.code [1,1,1]] ⟨[(0,.slice (some ⟨gR,0,none⟩) n cR),(1,i6 (n:Int)),(2,i6 16),(6,.slice none 0 0),(7,.slice A i cp),(8,i6 (i:Int)),(9,.slice (some ⟨W1.heap.size,0,none⟩) 16 16),(21,.slice (some ⟨W1.heap.size,0,none⟩) 16 16),(25,sT s)],[⟨W1.heap.size,5,true,(txt_v1)⟩],[⟨gR,0+i*1,[sT s]⟩],W1.heap.size+1⟩ ?_
 refine holds_op1 (dst:=(some 26)) (x:=Builtin.copy_ #[34,9] 3 #[.slice (some ⟨W1.heap.size,0,none⟩) 16 16,sT s]) (i6 ((Nat.min (s.size) 16:Nat):Int)) [⟨W1.heap.size,5,true,(bytesV (cutL 16 s))⟩] (by kernel_rfl) (by kernel_rfl) rfl (fun wx hm=>?_) fun z5 hz5=>?_
 ·have hB:=hm.at_ 0 rfl
  have h1:=run_copyStr (P:=Tryz.prog) wx 34 9 3 5 _ 16 16 _ s _ (by kernel_rfl) (by kernel_rfl) hB (Nat.le_of_ble_eq_true (by kernel_rfl))
  have h2:=hm.set1 0 (b:=⟨W1.heap.size,5,true,List.replicate 16 (.int .u8 0)⟩) (cs:=bytesV (cutL 16 s)) rfl rfl (setRow_kept wx _ _) (by
   have:=setRow_blk hB (bytesV (cutL 16 s))
   exact this)
  refine⟨_,h1,?_⟩
  rw[show(List.replicate 16 (Value.int .u8 0))=(txt_v1)from rfl]at h2
  have e:=copy_cut 16 s
  rw[show(List.replicate 16 (Value.int .u8 0))=(txt_v1)from rfl]at e
  rw[e]
  exact h2
 replace hz5:W1.heap.size+1<=z5:=hz5
 refine hgE 7 (dz 2 0) [0,1,2,6,7,8,27,28] [] [] [.ops txt_n1 [2,3,4,5],.blk 1,.code [1,1,0,1,0,0,1,1],.inv J,.blk 0,.code [1,1,1]] ⟨[(0,.slice (some ⟨gR,0,none⟩) n cR),(1,i6 (n:Int)),(2,i6 16),(6,.slice none 0 0),(7,.slice A i cp),(8,i6 (i:Int)),(27,.slice A i cp),(28,.slice (some ⟨W1.heap.size,0,none⟩) 16 16)],[⟨W1.heap.size,5,true,(bytesV (cutL 16 s))⟩],[⟨gR,0+i*1,[sT s]⟩],z5⟩ ?_
 refine holds_opR (dst:=(some 29)) (x:=convert 34 9 (.slice (some ⟨W1.heap.size,0,none⟩) 16 16)) (sT (strL 16 s)) (by kernel_rfl) (by kernel_rfl) rfl (fun wx hm=>?_) ?_
 ·exact run_bytesBack wx _ _ 5 _ _ _ _ _ (by kernel_rfl) (by kernel_rfl) (by kernel_rfl) (hm.at_ 0 rfl) (length_cutL _ _)
 refine hgE 4 [oh0] [0,1,2,6,7,8,27,30] [] [] [.ops txt_n1 [4,5],.blk 1,.code [1,1,0,1,0,0,1,1],.inv J,.blk 0,.code [1,1,1]] ⟨[(0,.slice (some ⟨gR,0,none⟩) n cR),(1,i6 (n:Int)),(2,i6 16),(6,.slice none 0 0),(7,.slice A i cp),(8,i6 (i:Int)),(27,.slice A i cp),(30,.slice (some ⟨z5,0,none⟩) 1 1)],[⟨W1.heap.size,5,true,(bytesV (cutL 16 s))⟩,⟨z5,9,true,[sT (strL 16 s)]⟩],[⟨gR,0+i*1,[sT s]⟩],z5+1⟩ ?_
 refine holds_opV (w:=w) (S':=(fun _=>False)) (Y:=Option Addr×Nat) (dst:=(some 31)) (x:=Builtin.append_ #[32,32] 32 #[.slice A i cp,.slice (some ⟨z5,0,none⟩) 1 1]) (fun yq=>.slice yq.1 (i+1) yq.2) [] (fun yq W_=>OwnR W_ w.heap.size 9 1 yq.1 (i+1) yq.2 (strsV ((R.map (strL 16)).take (i+1)))) (fun yq=>[(31,.slice yq.1 (i+1) yq.2),(0,.slice (some ⟨gR,0,none⟩) n cR),(1,i6 (n:Int)),(2,i6 16),(6,.slice none 0 0),(7,.slice A i cp),(8,i6 (i:Int)),(27,.slice A i cp),(30,.slice (some ⟨z5,0,none⟩) 1 1)]) (by kernel_rfl) (by kernel_rfl) (fun _=>rfl) (fun wx hm=>?_) (fun yq W3 hXa hma=>?_)
 ·have hO_:=hO1.keptT (es:=[]) hm.kept (fun y ⟨b,hb,_⟩=>by cases hb) rfl
  have hm0:=MemOk.bck hm1 hm
  obtain⟨A',cp',w',h1,h2,h3,h4⟩:=run_appendR (P:=Tryz.prog) wx w.heap.size 32 32 9 (sT ⟨#[]⟩) 1 16 A i cp (strsV ((R.map (strL 16)).take i)) ⟨z5,0,none⟩ 1 1 [sT (strL 16 s)] (by kernel_rfl) (by kernel_rfl) (by kernel_rfl) (by decide) hO_ rfl (fun j x hj=>by rw[add_norm,Nat.zero_add]; exact(hm.at_ 1 rfl).at_ hj) (ones_all rfl) (by omega) (by decide) hm0.kept.size
  rw[show strsV ((R.map (strL 16)).take i)++[sT (strL 16 s)]=strsV ((R.map (strL 16)).take (i+1))by rw[List.take_add_one,List.getElem?_map,hs]; simp[strsV]]at h2
  exact⟨(A',cp'),w',h1,h2,(hm0.sub (bk':=[]) (by simp)).offA (fun _ h=>h) h3 (fun y hy=>.inr (hO_.own y hy).1) (off_tys (hm0.sub (bk':=[]) (by simp)) (own_tys hO_) rfl)⟩
 obtain⟨A2,cp2⟩:=yq
 refine hgE 11 (dz 4 512) [0,1,2,6,7,8] [n64 (((i:Int)+1))] [] [.inv J,.blk 0,.code [1,1,1]] ⟨[(0,.slice (some ⟨gR,0,none⟩) n cR),(1,i6 (n:Int)),(2,i6 16),(6,.slice none 0 0),(7,.slice A2 (i+1) cp2),(8,i6 ((i:Int)+1))],[],[],W3.heap.size⟩ ?_
 rw[<-cast_succ i]
 intro a_ w9 hf hm
 exact hJ (m-1) _ a_ w9 (by omega) ⟨i+1,A2,cp2,_,by omega,by omega,hXa.keptT (es:=[]) hm.kept (fun y ⟨b,hb,_⟩=>by cases hb) rfl,rfl⟩ hf (MemOk.bck hma hm)
theorem texts_law{lo:Nat}(F:World->Prop)(hF:Stb F)(R:List ByteArray)(n gR cR:Nat)(hn:R.length=n)(h9:n<=9)(w:World)(hg:gR<w.heap.size)(hc:∀(j:Nat)(v:Value),(strsV R)[j]?=some v->w.cell? ⟨gR,0+j,none⟩=some v)(hf:F w) :
  Calls Tryz.prog 24 #[.slice (some ⟨gR,0,none⟩) n cR,i6 (n:Int),i6 16] w (fun e w'=>∃A_ c_,e=.returned (.slice A_ n c_)∧F w'∧OwnR w' w.heap.size 9 1 A_ n c_ (strsV (R.map (strL 16)))∧Kept (LawL lo w) w w'):=
 (texts_list R n gR cR hn h9 w hg hc).mono fun _ _ ⟨A_,c_,h1,h2,h3⟩=>⟨A_,c_,h1,hF _ _ _ [] hf h3 (fun _ h=>h.elim) rfl,h2,h3.mono fun _ _ h=>h.elim⟩
structure Act17 where
 v:Nat->Int
 t:Nat->ByteArray
 b:Bool
structure Act17Ok(x:Act17):Prop where
 v:∀j,-9223372036854775808<=x.v j∧x.v j<=9223372036854775807
def Act17.cells(x:Act17):List Value:=[i6 (x.v 0),i6 (x.v 1),i6 (x.v 2),i6 (x.v 3),i6 (x.v 4),sT (x.t 0),i6 (x.v 5),i6 (x.v 6),i6 (x.v 7),i6 (x.v 8),i6 (x.v 9),i6 (x.v 10),.bool x.b,i6 (x.v 11),i6 (x.v 12),i6 (x.v 13),i6 (x.v 14),i6 (x.v 15),i6 (x.v 16),i6 (x.v 17),i6 (x.v 18),sT (x.t 1),i6 (x.v 19),i6 (x.v 20),i6 (x.v 21),i6 (x.v 22),i6 (x.v 23),i6 (x.v 24),i6 (x.v 25),sT (x.t 2),sT (x.t 3)]
def opK(x:Act17):Int:=1+pickZ (x.v 1) 7/3
def opA(S N:Int)(x:Act17):Int:=if opK x=3 then pickZ (x.v 2) S else pickZ (x.v 2) (S*(N-1))
def opD(x:Act17):ByteArray:=if opK x=2 then strL 16 (x.t 0)else⟨#[]⟩
section
variable (N S:Int)(x:Act17)(w:World)(g9:Nat)
def opx_v1:List Value:=[i6 (1+((pickZ (x.v 1) 7)/3)),i6 (pickZ (x.v 2) (S*(N-1))),sT ⟨#[]⟩]
def opx_v2:List Value:=[i6 (x.v 0),i6 (x.v 1),i6 (x.v 2),i6 (x.v 3),i6 (x.v 4),sT (x.t 0),i6 (x.v 5),i6 (x.v 6),i6 (x.v 7),i6 (x.v 8),i6 (x.v 9),i6 (x.v 10),.bool x.b,i6 (x.v 11),i6 (x.v 12),i6 (x.v 13),i6 (x.v 14),i6 (x.v 15),i6 (x.v 16),i6 (x.v 17),i6 (x.v 18),sT (x.t 1),i6 (x.v 19),i6 (x.v 20),i6 (x.v 21),i6 (x.v 22),i6 (x.v 23),i6 (x.v 24),i6 (x.v 25),sT (x.t 2),sT (x.t 3)]
def opx_v3:List Value:=((opx_v1 N S x).set 2 (sT (strL 16 (x.t 0))))
@[simp] def opx_b1:List Bk:=[⟨w.heap.size,23,true,[i6 N,i6 S]⟩,⟨w.heap.size+1,47,true,(opx_v2 x)⟩,⟨w.heap.size+2,38,true,[i6 0,i6 0,sT ⟨#[]⟩]⟩]
@[simp] def opx_b2(d:Option Nat):List Bk:=[⟨w.heap.size,23,true,[i6 N,i6 S]⟩,⟨w.heap.size+1,47,true,(opx_v2 x)⟩,⟨w.heap.size+2,38,true,[i6 0,i6 0,sT ⟨#[]⟩]⟩,⟨(d.getD 0),38,true,(opx_v1 N S x)⟩]
@[simp] def opx_b3:List Bk:=[⟨w.heap.size,23,true,[i6 N,i6 S]⟩,⟨w.heap.size+1,47,true,(opx_v2 x)⟩,⟨w.heap.size+2,38,true,[i6 0,i6 0,sT ⟨#[]⟩]⟩,⟨g9,38,true,(opx_v1 N S x)⟩]
@[simp] def opx_b4(W9:World)(g9:Nat):List Bk:=[⟨w.heap.size,23,true,[i6 N,i6 S]⟩,⟨w.heap.size+1,47,true,(opx_v2 x)⟩,⟨w.heap.size+2,38,true,[i6 0,i6 0,sT ⟨#[]⟩]⟩,⟨g9,38,true,(opx_v1 N S x)⟩,⟨W9.heap.size,9,false,[sT (x.t 0)]⟩]
def opx_Q:Exit->Act->World->Prop:=bodyPost Tryz.prog Tryz.f13 (fun e w'=>e=.returned (.agg #[i6 (opK x),i6 (opA S N x),sT (opD x)])∧Kept (fun _=>False) w w')
def opx_y2s:List (Nat×Value):=[(2,(pt w.heap.size 0)),(3,(pt (w.heap.size+1) 0)),(4,(pt (w.heap.size+2) 0))]
def opx_y2v(d:Option Nat):List (Option Value):=[some ((pt (w.heap.size+1) 1)),some (i6 (x.v 1)),some (i6 (pickZ (x.v 1) 7)),some (i6 ((pickZ (x.v 1) 7)/3)),some (i6 (1+((pickZ (x.v 1) 7)/3))),some ((pt (w.heap.size+1) 2)),some (i6 (x.v 2)),some (.agg #[i6 N,i6 S]),some (i6 (S*(N-1))),some (i6 (pickZ (x.v 2) (S*(N-1)))),some (.agg (List.toArray (opx_v1 N S x))),some (.pointer (some ⟨(d.getD 0),0,none⟩)),some (.tuple #[])]
def opx_y2F(d:Option Nat)(k:Nat):Bool:=([true,true,true,true,true,true,true,true,true,true,true,d.isSome,true]:List Bool)[k]?.getD true
def opx_y2m(d:Option Nat):List (List Bk):=[(opx_b1 N S x w),(opx_b2 N S x w d)]
abbrev opx_y2X(w:World)(c_:Nat)(d:Option Nat)(W_:World):Prop:=match c_ with|0=>(True)∧(∀g_,d=some g_->(w.heap.size+3)<=g_∧Blk W_ g_ 38 [i6 0,i6 0,sT ⟨#[]⟩])|1=>(w.heap.size+3<=d.getD 0)∧True|_=>True
def opx_y2C(i_:Nat):Prop:=cY Tryz.prog Tryz.f13 [1,0] 37 [] (opx_Q N S x w) [.code [1,1]] (opx_y2s w) [none,none,none,none,none,none,none,none,none,none,none,none,some 0] 1 (opx_y2v N S x w) opx_y2F w (LawL w.heap.size w) (opx_y2m N S x w) (w.heap.size+3) (opx_y2X w) i_
end
theorem op_any(N S:Int)(x:Act17)(hg:3<=N∧N<=6∧1<=S∧S<=8)(hx:Act17Ok x)(w:World) :
  Calls Tryz.prog 13 #[.agg #[i6 N,i6 S],.agg #[i6 (x.v 0),i6 (x.v 1),i6 (x.v 2),i6 (x.v 3),i6 (x.v 4),sT (x.t 0),i6 (x.v 5),i6 (x.v 6),i6 (x.v 7),i6 (x.v 8),i6 (x.v 9),i6 (x.v 10),.bool x.b,i6 (x.v 11),i6 (x.v 12),i6 (x.v 13),i6 (x.v 14),i6 (x.v 15),i6 (x.v 16),i6 (x.v 17),i6 (x.v 18),sT (x.t 1),i6 (x.v 19),i6 (x.v 20),i6 (x.v 21),i6 (x.v 22),i6 (x.v 23),i6 (x.v 24),i6 (x.v 25),sT (x.t 2),sT (x.t 3)]] w (fun e w'=>e=.returned (.agg #[i6 (opK x),i6 (opA S N x),sT (opD x)])∧Kept (fun _=>False) w w'):=by
 refine cH (S:=(fun _=>False)) (n:=37) Tryz.func13 (MemOk.none w _) ?_
 have hm1:2<=S*(N-1):=by
  have h:(1:Int)*2<=S*(N-1):=Int.mul_le_mul (by omega) (by omega) (by omega) (by omega)
  omega
 have hm2:S*(N-1)<=8*5:=Int.mul_le_mul (by omega) (by omega) (by omega) (by omega)
 have hx1:=hx.v 1
 have hx2:=hx.v 2
 have hp7:=pickZ_bd (x.v 1) 7 (by omega)
 refine hgE 10 (dz 3 0) [2,3,4] [] [] [.code [1,0],.code [1,1]] ⟨[(2,(pt w.heap.size 0)),(3,(pt (w.heap.size+1) 0)),(4,(pt (w.heap.size+2) 0))],(opx_b1 N S x w),[],w.heap.size+3⟩ ?_
 have opx_y2_X:StayY w (LawL w.heap.size w) (opx_y2m N S x w) (opx_y2X w):=by
  intro c_ d wx w' bk hb hm hx hk
  match c_,hb,hx with
  |0,hb,hx=>
   obtain rfl:=Option.some.inj hb
   refine⟨trivial,fun g_ hg_=>⟨(hx.2 g_ hg_).1,(hx.2 g_ hg_).2.kept hk (fun⟨b,hb,hr,he⟩=>?_)⟩⟩
   have h9:=(hx.2 g_ hg_).1
   simp at hb
   rcases hb with rfl|rfl|rfl<;>simp at hr he<;>omega
  |1,hb,hx=>
   obtain rfl:=Option.some.inj hb
   exact hx
  |c_+2,hb,hx=>exact trivial
 have opx_y2_c2:opx_y2C N S x w 2:=certY_call (B:=1) (f:=11) (args:=fun d=>[i6 (x.v 1),i6 7]) (ob:=fun d=>[]) (fun d=>i6 (pickZ (x.v 1) 7)) (by kernel_rfl) (.inl rfl) (fun d=>by kernel_rfl) (fun d=>by kernel_rfl) (fun d=>by kernel_rfl) (fun d=>trivial) (fun c_ d wx bk hc hb hm hx=>pick17 (x.v 1) 7 _ rfl wx (by omega) (by omega) (by omega)) opx_y2_X
 have opx_y2_c8:opx_y2C N S x w 8:=certY_call (B:=1) (f:=10) (args:=fun d=>[.agg #[i6 N,i6 S]]) (ob:=fun d=>[]) (fun d=>i6 (S*(N-1))) (by kernel_rfl) (.inl rfl) (fun d=>by kernel_rfl) (fun d=>by kernel_rfl) (fun d=>by kernel_rfl) (fun d=>trivial) (fun c_ d wx bk hc hb hm hx=>ref5Blocks N S hg wx) opx_y2_X
 have opx_y2_c9:opx_y2C N S x w 9:=certY_call (B:=1) (f:=11) (args:=fun d=>[i6 (x.v 2),i6 (S*(N-1))]) (ob:=fun d=>[]) (fun d=>i6 (pickZ (x.v 2) (S*(N-1)))) (by kernel_rfl) (.inl rfl) (fun d=>by kernel_rfl) (fun d=>by kernel_rfl) (fun d=>by kernel_rfl) (fun d=>trivial) (fun c_ d wx bk hc hb hm hx=>pick17 (x.v 2) (S*(N-1)) _ rfl wx (by omega) (by omega) (by omega)) opx_y2_X
 have opx_y2_c11:opx_y2C N S x w 11:=cyN 0 38 [i6 0,i6 0,sT ⟨#[]⟩] (fun _ g=>some g) (fun g=>(pt g 0)) (fun c_ d wx w' bk hcB hb hm hx hk hz hBl=>by
  have hs:=opx_y2_X c_ d wx w' bk hb hm hx hk
  match c_,hb,hx,hs,hcB with
  |0,hb,hx,hs,hcB=>exact⟨hs.1,(fun g_ hg_=>by obtain rfl:=Option.some.inj hg_; exact⟨hz,hBl⟩)⟩
  |c_+1,hb,hx,hs,hcB=>exact absurd hcB (by omega))
 have opx_y2_c12:opx_y2C N S x w 12:=cyS (s:=0) (x:=fun d=>Instr.storeAt 38 (.pointer (some ⟨(d.getD 0),0,none⟩)) (.agg (List.toArray (opx_v1 N S x)))) (fun(d:Option Nat)(_:Unit)=>d) (fun d wx bk hb hm hx hcame=>by
  obtain rfl:=Option.some.inj hb
  obtain⟨g_,rfl⟩:∃g_,d=some g_:=Option.isSome_iff_exists.1 (hcame 11 (List.mem_of_getElem? (i:=0) (by kernel_rfl)) (dst_ne (k:=5) (by kernel_rfl)))
  obtain⟨hzg,hBg⟩:=hx.2 g_ rfl
  obtain⟨w',h1,hB1,hk1,hz1⟩:=store_to (P:=Tryz.prog) (t:=38) (v:=.agg (List.toArray (opx_v1 N S x))) (by kernel_rfl) hBg rfl (by show 0+3<=3; omega) (ones_all rfl) rfl
  exact⟨(),w',h1,rfl,⟨hzg,trivial⟩,hm.adopt (g:=g_) hk1 hB1 (by omega) (fun b hb e=>by simp at hb; rcases hb with rfl|rfl|rfl<;>dsimp only at e<;>omega),Nat.le_of_eq hz1.symm⟩)
 have opx_y2_R:∀e_∈(rZsY 1 [0,5,10]++[⟨1,1,(oA 1 1 1),fun _=>[],fun _=>[(w.heap.size+1,1,1)]⟩,⟨3,1,oh2,fun _=>[oE ((0:Int)<=(pickZ (x.v 1) 7)∧(0:Int)<3∧(pickZ (x.v 1) 7)<=IntKind.max .i64) (⟨by omega,by omega,le_max64 (by omega)⟩)],fun _=>[]⟩,⟨4,1,oh2,fun _=>[n64 ((1+((pickZ (x.v 1) 7)/3)))],fun _=>[]⟩,⟨6,1,(oA 1 2 1),fun _=>[],fun _=>[(w.heap.size+1,2,1)]⟩,rY 7 1 0 0 2 w.heap.size]:List (RegY (Option Nat))),opx_y2C N S x w e_.i:=certsY_reg _ opx_y2_X (fun d=>by kernel_rfl) (by kernel_rfl) (fun d sz=>by kernel_rfl)
 have opx_y2_A:∀i_,i_<13->opx_y2C N S x w i_:=allY (l:=[2,8,9,11,12]) (by kernel_rfl) opx_y2_R ⟨opx_y2_c2,opx_y2_c8,opx_y2_c9,opx_y2_c11,opx_y2_c12,trivial⟩
 refine holds_mixY (Δ:=Option Nat) (LawL w.heap.size w) (opx_y2v N S x w) opx_y2F (opx_y2m N S x w) (opx_y2X w) [2,3,4,5] (fun d=>[(2,(pt w.heap.size 0)),(3,(pt (w.heap.size+1) 0)),(4,(pt (w.heap.size+2) 0)),(5,.pointer (some ⟨(d.getD 0),0,none⟩))]) (fun d=>(opx_b2 N S x w d)) none (fun _ h=>h.elim) (by kernel_rfl) (by kernel_rfl) (by kernel_rfl) (fun wx hm=>⟨tI,fun _ h=>by cases h⟩) (by kernel_rfl) opx_y2_A (fun d=>by kernel_rfl) (fun d=>by kernel_rfl) (fun d W9 hfin hX9 hz9 hm9=>?_)
 obtain⟨g9,rfl⟩:∃g,d=some g:=Option.isSome_iff_exists.1 (hfin 11 (Nat.le_of_ble_eq_true (by kernel_rfl)) (dst_ne (k:=5) (by kernel_rfl)))
 replace hX9:w.heap.size+3<=g9:=hX9.1
 replace hm9:MemOk w (LawL w.heap.size w) (opx_b3 N S x w g9) [] W9.heap.size W9:=hm9
 change Holds _ _ _ _ W9 (Turned (opx_b3 N S x w g9)) _ [.code [1,1]] ⟨[(2,(pt w.heap.size 0)),(3,(pt (w.heap.size+1) 0)),(4,(pt (w.heap.size+2) 0)),(5,(pt g9 0))],(opx_b3 N S x w g9),[],W9.heap.size⟩
 refine hgE 15 (dz 4 1049472) [2,3,4,5,18,19] [] [(g9,0,1)] [.code [1,1,0,1,0,1],.blk 0,.code [1,1,1]] ⟨[(2,(pt w.heap.size 0)),(3,(pt (w.heap.size+1) 0)),(4,(pt (w.heap.size+2) 0)),(5,(pt g9 0)),(18,i6 (1+((pickZ (x.v 1) 7)/3))),(19,.bool ((1+((pickZ (x.v 1) 7)/3))==2))],(opx_b3 N S x w g9),[],W9.heap.size⟩ ?_
 have eK:opK x=1+((pickZ (x.v 1) 7)/3):=rfl
 by_cases h2:opK x=2
 ·skip
  refine hgE 8 (dz 4 17111041) [4,5,23] [oE (((1+((pickZ (x.v 1) 7)/3))==2)=true) (beq_iff_eq.2 (by omega))] [(w.heap.size+1,5,1)] [.ops [1,1,0,1,0,1,0] [3,4,5,6,7],.blk 0,.code [1,1,1]] ⟨[(4,(pt (w.heap.size+2) 0)),(5,(pt g9 0)),(23,.slice (some ⟨W9.heap.size,0,none⟩) 1 1)],[⟨w.heap.size,23,true,[i6 N,i6 S]⟩,⟨w.heap.size+1,47,true,(opx_v2 x)⟩,⟨w.heap.size+2,38,true,[i6 0,i6 0,sT ⟨#[]⟩]⟩,⟨g9,38,true,(opx_v1 N S x)⟩,⟨W9.heap.size,9,true,[sT (x.t 0)]⟩],[],W9.heap.size+1⟩ ?_
  refine holds_gndF (bk':=(opx_b4 N S x w W9 g9)) [true,true,true,true,false] rfl (fun W1 hm hmz=>?_)
  have hm1:MemOk w (LawL (w.heap.size) w) (opx_b4 N S x w W9 g9) [] W1.heap.size W1:=MemOk.bck hm9 hmz
  clear hm hmz
  refine hcV (w:=w) (S':=(LawL (w.heap.size) w)) (Y:=(Option Addr)×Nat) (fun yq=>.slice yq.1 1 yq.2) (fun yq=>(opx_b4 N S x w W9 g9)) (fun yq W_=>True∧OwnR W_ w.heap.size 9 1 yq.1 1 yq.2 (strsV [strL 16 (x.t 0)])) (show _=some (24,[.slice (some ⟨W9.heap.size,0,none⟩) 1 1,i6 1,i6 16],some 24,[])by kernel_rfl) tI (fun wx hm=>?_) (fun yq W2 hX2 hm2=>?_)
  ·have hm0_:=(MemOk.bck hm1 hm)
   refine(texts_law (lo:=w.heap.size) (fun _=>True) (fun _ _ _ _ _ _ _ _=>trivial) [x.t 0] 1 (W9.heap.size) 1 rfl (by omega) wx (hm.at_ 4 rfl).lt (fun j v hj=>by rw[Nat.zero_add]; exact(hm.at_ 4 rfl).at_ hj) trivial).mono fun e w' hq_=>?_
   obtain⟨A,ca,he_,nf_q,no_d,h3_⟩:=hq_
   exact⟨(A,ca),he_,⟨nf_q,(no_d.below hm0_.kept.size)⟩,hm0_.offA (fun _ h=>h) h3_ (lawL_up hm0_.kept) (off_tys hm (es:=TL17) (fun _ h=>h.1) rfl)⟩
  obtain⟨A,ca⟩:=yq
  obtain⟨f2_q,o2_d⟩:=hX2
  replace f2_q:True:=f2_q
  obtain⟨gA,rfl,_⟩:=OwnR.cell (j:=0) (v:=sT (strL 16 (x.t 0))) o2_d rfl
  refine holds_wins [⟨gA,0,[sT (strL 16 (x.t 0))]⟩] (fun _ y hy=>?_) ?_
  ·obtain rfl:=List.mem_singleton.1 hy
   obtain⟨g1,e1,l1,l2,c1⟩:=OwnR.cell (j:=0) (v:=sT (strL 16 (x.t 0))) o2_d rfl
   cases e1
   refine⟨fun h=>tysIn_not rfl (o2_d.ty gA ⟨_,rfl,rfl⟩) (turned_tys hm2 _ h),l2,fun j v hj=>?_⟩
   match j,hj with
   |0,hj=>cases hj; exact c1
  refine hgS 14 [oh2,⟨false,0,[⟨true,0,0,1⟩]⟩,oh0,(oA 3 2 1),(oA 3 0 3),(oA 2 0 3)] [4] [oE ((0:Int)<=0∧0<((1:Nat):Int))] [(gA,0,1),(g9,2,1),(g9,0,3),(w.heap.size+2,0,3)] [.code [1,1,1,1]] [⟨w.heap.size,23,true,[i6 N,i6 S]⟩,⟨w.heap.size+1,47,true,(opx_v2 x)⟩,⟨w.heap.size+2,38,true,(opx_v3 N S x)⟩,⟨g9,38,true,(opx_v3 N S x)⟩,⟨W9.heap.size,9,false,[sT (x.t 0)]⟩] [⟨gA,0,[sT (strL 16 (x.t 0))]⟩] W2.heap.size ?_
  refine hrt [[⟨false,2,0,3⟩]] [.agg (List.toArray (opx_v3 N S x))] [(w.heap.size+2,0,3)] ?_
  intro wx hm
  exact⟨by unfold opA opD; rw[if_pos h2,if_neg (by omega)]; rfl,lawL_none (MemOk.bck hm2 hm).kept⟩
 by_cases h3:opK x=3
 ·skip
  refine hgS 15 (dz 8 0x10108001021801000) [4,5,31,33] [oE (((1+((pickZ (x.v 1) 7)/3))==2)=false) (beq_eq_false_iff_ne.2 (by omega)),oE (((1+((pickZ (x.v 1) 7)/3))==3)=true) (beq_iff_eq.2 (by omega))] [(w.heap.size+1,2,1),(w.heap.size,1,1)] [.ops [1,1,0,1,0,1,1,1,0] [4,5,6],.blk 0,.code [1,1,1]] (opx_b3 N S x w g9) [] W9.heap.size ?_
  refine hcq (i6 (pickZ (x.v 2) S)) 11 [i6 (x.v 2),i6 S] (some 34) [] tI rfl (fun wx hm=>pick17 (x.v 2) S _ rfl wx (by omega) (by omega) (by omega)) fun z9 hz9=>?_
  refine hgS 12 (dz 4 0x300280300380101380) [4] [] [(g9,1,1),(g9,0,3),(w.heap.size+2,0,3)] [.code [1,1,1,1]] [⟨w.heap.size,23,true,[i6 N,i6 S]⟩,⟨w.heap.size+1,47,true,(opx_v2 x)⟩,⟨w.heap.size+2,38,true,[i6 (1+((pickZ (x.v 1) 7)/3)),i6 (pickZ (x.v 2) S),sT ⟨#[]⟩]⟩,⟨g9,38,true,[i6 (1+((pickZ (x.v 1) 7)/3)),i6 (pickZ (x.v 2) S),sT ⟨#[]⟩]⟩] [] z9 ?_
  refine hrt [[⟨false,2,0,3⟩]] [.agg #[i6 (1+((pickZ (x.v 1) 7)/3)),i6 (pickZ (x.v 2) S),sT ⟨#[]⟩]] [(w.heap.size+2,0,3)] ?_
  intro wx hm
  exact⟨by unfold opA opD; rw[if_neg h2,if_pos h3]; rfl,lawL_none (MemOk.bck hm9 hm).kept⟩
 refine hgS 17 (dz 6 0x300280300380000) [4] [oE (((1+((pickZ (x.v 1) 7)/3))==2)=false) (beq_eq_false_iff_ne.2 (by omega)),oE (((1+((pickZ (x.v 1) 7)/3))==3)=false) (beq_eq_false_iff_ne.2 (by omega))] [(g9,0,3),(w.heap.size+2,0,3)] [.code [1,1,1,1]] [⟨w.heap.size,23,true,[i6 N,i6 S]⟩,⟨w.heap.size+1,47,true,(opx_v2 x)⟩,⟨w.heap.size+2,38,true,(opx_v1 N S x)⟩,⟨g9,38,true,(opx_v1 N S x)⟩] [] W9.heap.size ?_
 refine hrt [[⟨false,2,0,3⟩]] [.agg (List.toArray (opx_v1 N S x))] [(w.heap.size+2,0,3)] ?_
 intro wx hm
 exact⟨by unfold opA opD; rw[if_neg h2,if_neg h3]; rfl,lawL_none (MemOk.bck hm9 hm).kept⟩
end Go.Proofs.YtcmpkkapkdlfhaaGreat
