import Derived.Test.YtcmpkkapkdlfhaaGreatUpdate17
namespace Go.Proofs.YtcmpkkapkdlfhaaGreat
open Go.RowKit
set_option maxHeartbeats 4000000
set_option maxRecDepth 100000
@[simp] def uri_b1(e:Int)(s:Int)(w:World):List Bk:=[⟨w.heap.size,57,true,[i6 e,i6 s]⟩]
def UpdRI(e:Int)(s:Int)(n:Nat)(C:List Int)(gC:Nat)(gB:Nat)(cC:Nat)(cB:Nat)(w:World)  (m:Nat) (st:St):Prop:=
 ∃(i:Nat)(r:Int)(z:Nat),m+i=n∧(∀d_,C[i]?=some d_->r<d_)∧st=⟨[(3,.slice (some ⟨gB,0,none⟩) n cB),(8,.bool false),(9,i6 r),(46,.slice (some ⟨gC,0,none⟩) n cC),(47,i6 (n:Int)),(48,i6 (i:Int))],(uri_b1 e s w),[],z⟩
theorem right_upd(sn e s:Int)(n:Nat)(C:List Int)(B:List ByteArray)(gC gB cC cB:Nat)(hn:0<n∧n<=6)(hC:C.length=n)(hB:B.length=n)(hB16:∀b∈B,b.size=16)(hC6:∀c∈C,0<=c∧c<6)(hCs:∀(i:Nat)(c d:Int),C[i]?=some c->C[i+1]?=some d->c<d)(hsn:0<=sn∧sn<8)(he:1<=e∧e<=16777215)(hs:1<=s∧s<=16777215)(w:World)(hgC:gC<w.heap.size)(hcC:∀(j:Nat)(v:Value),(C.map (Value.int .i64))[j]?=some v->w.cell? ⟨gC,0+j,none⟩=some v)(hgB:gB<w.heap.size)(hcB:∀(j:Nat)(v:Value),(strsV B)[j]?=some v->w.cell? ⟨gB,0+j,none⟩=some v) :
  Calls Tryz.prog 111 #[i6 sn,.agg #[i6 e,i6 s],.slice (some ⟨gC,0,none⟩) n cC,.slice (some ⟨gB,0,none⟩) n cB] w (RetK (.bool true) w):=by
 refine cH (S:=(fun _=>False)) (n:=70) Tryz.func111 (MemOk.none w _) ?_
 refine hgE 72 (dz 43 0x4000000000040010108004001010800400100080000100080040000000) [3,8,9,46,47,48] (rE 3 (dF ((sn:Int)<0))++[dF ((sn:Int)>=8)]++rE 4 (dF ((e:Int)<1))++rE 4 (dF ((e:Int)>16777215))++rE 4 (dF ((s:Int)<1))++[dF ((s:Int)>16777215)]++rE 6 (oE (((n:Int)==0)=false) (beq_eq_false_iff_ne.2 (by omega)))++[oE (((n:Int)!=(n:Int))=false) (bne_eq_false_iff_eq.2 rfl)]) [(w.heap.size,0,1),(w.heap.size,0,1),(w.heap.size,1,1),(w.heap.size,1,1)] [.code [1,1,1,1,1,0,1,0],.blk 0,.code [1,1,1,1,1,1]] ⟨[(3,.slice (some ⟨gB,0,none⟩) n cB),(8,.bool false),(9,i6 (-1)),(46,.slice (some ⟨gC,0,none⟩) n cC),(47,i6 (n:Int)),(48,i6 0)],(uri_b1 e s w),[],w.heap.size+1⟩ ?_
 refine holds_loop (UpdRI e s n C gC gB cC cB w) n (by kernel_rfl) ⟨0,-1,_,by omega,fun c h=>by have:=hC6 c (List.mem_of_getElem? h); omega,rfl⟩ ?_
 rintro m _ ⟨i,r,z,hmi,hr,rfl⟩ J hJ
 by_cases h1:i<n
 rotate_left
 ·skip
  refine hgS 14 (dz 3 0) [8] [dF (((i:Int):Int)<(n:Int))] [] [.code [1,1,1,1,1,1,1]] (uri_b1 e s w) [] z ?_
  refine hrt [] [.bool true] [] ?_
  intro wx hm
  exact⟨rfl,hm.kept⟩
 obtain⟨c,hc⟩:∃c,C[i]?=some c:=⟨_,List.getElem?_eq_getElem (by omega)⟩
 obtain⟨b,hb⟩:∃b,B[i]?=some b:=⟨_,List.getElem?_eq_getElem (by omega)⟩
 have hc6:=hC6 c (List.mem_of_getElem? hc)
 have hb16:=hB16 b (List.mem_of_getElem? hb)
 have hrc:=hr c hc
 refine holds_wins [⟨gC,0+i*1,[i6 c]⟩,⟨gB,0+i*1,[sT b]⟩] (fun _ y hy=>?_) ?_
 ·simp only[List.mem_cons,List.not_mem_nil,or_false]at hy
  rcases hy with rfl|rfl
  ·exact⟨fun h=>h,hgC,map_cell hcC hc⟩
  ·exact⟨fun h=>h,hgB,strs_cell hcB hb⟩
 refine hgE 50 [oh0,oh1,oh0,oh2,⟨false,0,[⟨true,0,0,1⟩]⟩,oh0,oh0,oh0,oh0,oh0,oh0,oh0,oh0,⟨false,3,[]⟩,oh0,oh0,oh0,oh2,⟨false,0,[⟨true,1,0,1⟩]⟩,oh0,oh0,⟨false,3,[]⟩,oh0,oh0,oh0,oh2,oh0] [3,8,9,46,47,48] ([dT (((i:Int):Int)<(n:Int)),oE ((0:Int)<=(i:Int)∧(i:Int)<((n:Nat):Int))]++rE 3 (dF ((c:Int)<=r))++rE 3 (dF ((c:Int)>=6))++[oE ((0:Int)<=(i:Int)∧(i:Int)<((n:Nat):Int))]++rE 4 (dF ((c:Int)>=6))++[oE (((b.size:Int)!=16)=false) (bne_eq_false_iff_eq.2 (by rw[hb16]; rfl)),n64 (((i:Int)+1))]) [(gC,0+i*1,1),(gB,0+i*1,1)] [.inv J,.blk 0,.code [1,1,1,1,1,1]] ⟨[(3,.slice (some ⟨gB,0,none⟩) n cB),(8,.bool false),(9,i6 c),(46,.slice (some ⟨gC,0,none⟩) n cC),(47,i6 (n:Int)),(48,i6 ((i:Int)+1))],(uri_b1 e s w),[⟨gC,0+i*1,[i6 c]⟩,⟨gB,0+i*1,[sT b]⟩],z⟩ ?_
 refine holds_wins [] (fun _ _ h=>by cases h) ?_
 exact hJ (m-1) _ (by omega) ⟨i+1,c,_,by omega,fun d hd=>hCs i c d hc hd,by rw[<-cast_succ i]⟩
section
variable (sn e s:Int)(n:Nat)(C:List Int)(B:List ByteArray)(gC gB cC cB i:Nat)(c:Int)(b:ByteArray)(A:Option Addr)(cp:Nat)(A2:Option Addr)(cp2:Nat)(J:Act->World->Prop)(w W1:World)(ub:Nat)
def unw_v1:List Value:=[i6 sn,i6 (mskC (C.take i)),i6 e,i6 s,.slice A i cp,.bool false,.bool false]
def unw_v2:List Value:=((unw_v1 sn e s C i A cp).set 1 (i6 (orZ (mskC (C.take i)) (1*((2^Int.toNat c:Nat):Int)))))
def unw_v3:List Value:=[i6 sn,i6 (mskC C),i6 e,i6 s,.slice A n cp,.bool false,.bool false]
def unw_v4:List Value:=[i6 sn,i6 (orZ (mskC (C.take i)) (1*((2^Int.toNat c:Nat):Int))),i6 e,i6 s,.slice A2 (i+1) cp2,.bool false,.bool false]
def unw_n1:List Nat:=[1,1,1,0,1,0,0,1,1,0,0,1,0]
def unw_n2:List Nat:=[1,1,1,0,1,0,0,1,1,0,0,1,1]
def unw_n3:List Nat:=[1,1,1,0,1,0,0,1,1,1]
def unw_n4:List Nat:=[3,8,9,10,11,12,23,24,25]
def unw_n5:Array Bool:=(bA 16 4095)
def unw_n6:Array Bool:=(bA 16 8191)
def unw_n7:List (Option Nat):=[none,none,none,none,none,none,none,none,none,none,none,none,none,none,none,none]
def UpdNI(sn:Int)(e:Int)(s:Int)(n:Nat)(C:List Int)(B:List ByteArray)(gC:Nat)(gB:Nat)(cC:Nat)(cB:Nat)(w:World)(ub:Nat)  (m:Nat) (st:St) (W0:World):Prop:=
 ∃(i:Nat)(A:Option Addr)(cp:Nat)(z:Nat),m+i=n∧i<=n∧w.heap.size<=ub∧OwnR W0 w.heap.size 180 4 A i cp (flatV PartM.cells ((partsL C B).take i))∧st=⟨[(3,.slice (some ⟨gB,0,none⟩) n cB),(8,.pointer none),(9,i6 0),(10,(pt ub 0)),(23,.slice (some ⟨gC,0,none⟩) n cC),(24,i6 (n:Int)),(25,i6 (i:Int))],[⟨ub,178,true,(unw_v1 sn e s C i A cp)⟩],[],z⟩
def unw_g7s:List (Nat×Value):=[(3,.slice (some ⟨gB,0,none⟩) n cB),(8,.pointer none),(9,i6 0),(10,(pt ub 0)),(11,i6 (i:Int)),(12,i6 c),(23,.slice (some ⟨gC,0,none⟩) n cC),(24,i6 (n:Int)),(25,i6 (i:Int))]
def unw_g7v:List (Option Value):=[some ((pt ub 0)),some ((pt ub 0)),some ((pt ub 1)),some (i6 (mskC (C.take i))),some (i6 c),some (i6 (1*((2^Int.toNat c:Nat):Int))),some (i6 (orZ (mskC (C.take i)) (1*((2^Int.toNat c:Nat):Int)))),some ((pt ub 0)),some ((pt ub 1)),some (.tuple #[])]
def unw_g7m:List (List Bk):=[[⟨ub,178,true,(unw_v1 sn e s C i A cp)⟩],[⟨ub,178,true,(unw_v2 sn e s C i c A cp)⟩]]
def unw_g7t:List (Option Nat):=[none,none,none,none,none,none,none,none,none,some 0]
theorem unw_g7_3:∀sz,(List.range (0+1)).map (regEnt Tryz.prog (opsOf (getCode (bodyOf Tryz.f88) unw_n1)) (slI (opsOf (getCode (bodyOf Tryz.f88) unw_n1)) (unw_g7s n gC gB cC cB i c ub) 3) (unw_g7v C i c ub) (unw_g7m sn e s C i c A cp ub) [⟨gC,0+i*1,[i6 c]⟩,⟨gB,0+i*1,[sT b]⟩] sz 3 (oA 0 1 1))=(List.range (0+1)).map (regExp (unw_g7v C i c ub) (unw_g7m sn e s C i c A cp ub) sz 3 [] [(ub,1,1)]):=fun sz=>by kernel_rfl
theorem unw_g7_9:∀sz,opG Tryz.prog (opsOf (getCode (bodyOf Tryz.f88) unw_n1)) ⟨slG (opsOf (getCode (bodyOf Tryz.f88) unw_n1)) (unw_g7v C i c ub) (slI (opsOf (getCode (bodyOf Tryz.f88) unw_n1)) (unw_g7s n gC gB cC cB i c ub) 9) (needsOf (opsOf (getCode (bodyOf Tryz.f88) unw_n1)) 9),[⟨ub,178,true,(unw_v1 sn e s C i A cp)⟩],[⟨gC,0+i*1,[i6 c]⟩,⟨gB,0+i*1,[sT b]⟩],sz⟩ 9 (oA 0 1 1)=some ([],dupR [(ub,1,1)],undef,[⟨ub,178,true,(unw_v2 sn e s C i c A cp)⟩],sz):=fun sz=>by kernel_rfl
def unw_g7C(i_:Nat):Prop:=CertG (wpOp Tryz.prog (opsOf (getCode (bodyOf Tryz.f88) unw_n1)) (sem Tryz.prog (bodyOf Tryz.f88) (bodyPost Tryz.prog Tryz.f88 (fun e' w'=>∃ub A cp,e'=.returned (.tuple #[(pt ub 0),i6 0])∧w.heap.size<=ub∧Blk w' ub 178 (unw_v3 sn e s n C A cp)∧OwnR w' w.heap.size 180 4 A n cp (flatV PartM.cells (partsL C B))∧Kept (fun _=>False) w w')) [.code unw_n2,.blk 1,.code unw_n3,.inv J,.blk 0,.code [1,1,1,1]])) [] 56 (opsOf (getCode (bodyOf Tryz.f88) unw_n1)) (slI (opsOf (getCode (bodyOf Tryz.f88) unw_n1)) (unw_g7s n gC gB cC cB i c ub) i_) (unw_g7t) 1 (MG W1 (Turned [⟨ub,178,true,(unw_v1 sn e s C i A cp)⟩]) (unw_g7m sn e s C i c A cp ub) [⟨gC,0+i*1,[i6 c]⟩,⟨gB,0+i*1,[sT b]⟩] W1.heap.size) (Turned [⟨ub,178,true,(unw_v1 sn e s C i A cp)⟩]) (PvG (unw_g7v C i c ub) (fun _ _ _=>False)) i_
def unw_g9s:List (Nat×Value):=[(3,.slice (some ⟨gB,0,none⟩) n cB),(8,.pointer none),(9,i6 0),(10,(pt ub 0)),(11,i6 (i:Int)),(12,i6 c),(23,.slice (some ⟨gC,0,none⟩) n cC),(24,i6 (n:Int)),(25,i6 (i:Int))]
def unw_g9v:List (Option Value):=[some ((pt ub 0)),some ((pt ub 0)),some ((pt ub 0)),some ((pt ub 4)),some (.slice A i cp),some (i6 c),some (.slice (some ⟨gB,0,none⟩) n cB),some (i6 (i:Int)),some (.pointer (some ⟨gB,0+i*1,none⟩)),some (sT b),some (.agg #[i6 c,sT b,.bool false,.bool false]),none,none,none,none,none]
def unw_g9C(z7:Nat)(i_:Nat):Prop:=CertG (wpOp Tryz.prog (opsOf (getCode (bodyOf Tryz.f88) unw_n2)) (sem Tryz.prog (bodyOf Tryz.f88) (bodyPost Tryz.prog Tryz.f88 (fun e' w'=>∃ub A cp,e'=.returned (.tuple #[(pt ub 0),i6 0])∧w.heap.size<=ub∧Blk w' ub 178 (unw_v3 sn e s n C A cp)∧OwnR w' w.heap.size 180 4 A n cp (flatV PartM.cells (partsL C B))∧Kept (fun _=>False) w w')) [.blk 1,.code unw_n3,.inv J,.blk 0,.code [1,1,1,1]])) [] 56 (opsOf (getCode (bodyOf Tryz.f88) unw_n2)) (slI (opsOf (getCode (bodyOf Tryz.f88) unw_n2)) (unw_g9s n gC gB cC cB i c ub) i_) unw_n7 0 (MG W1 (Turned [⟨ub,178,true,(unw_v1 sn e s C i A cp)⟩]) [[⟨ub,178,true,(unw_v2 sn e s C i c A cp)⟩]] [⟨gC,0+i*1,[i6 c]⟩,⟨gB,0+i*1,[sT b]⟩] z7) (Turned [⟨ub,178,true,(unw_v2 sn e s C i c A cp)⟩]) (PvG (unw_g9v n gB cB i c b A cp ub) (CNews z7 [(11,180,1,[i6 c,sT b,.bool false,.bool false])])) i_
theorem unw_t11(gN:Nat)(W9:World)(ub:Nat):tailP [3,8,9,10,23,24,25] (tailX Tryz.prog 56 (opsOf (getCode (bodyOf Tryz.f88) unw_n2)) 3 unw_n6 ⟨[(51,.slice A2 (i+1) cp2),(50,.slice (some ⟨gN,0,none⟩) 1 1),(3,.slice (some ⟨gB,0,none⟩) n cB),(8,.pointer none),(9,i6 0),(10,(pt ub 0)),(23,.slice (some ⟨gC,0,none⟩) n cC),(24,i6 (n:Int)),(25,i6 (i:Int)),(39,(pt ub 0)),(43,.slice A i cp)],[⟨ub,178,true,(unw_v2 sn e s C i c A cp)⟩],[],W9.heap.size⟩ [(13,false,oh0),(14,false,oh0),(15,false,(oA 0 4 1))])=some (⟨[],dupR [(ub,4,1)],⟨[(3,.slice (some ⟨gB,0,none⟩) n cB),(8,.pointer none),(9,i6 0),(10,(pt ub 0)),(23,.slice (some ⟨gC,0,none⟩) n cC),(24,i6 (n:Int)),(25,i6 (i:Int))],[⟨ub,178,true,(unw_v4 sn e s C i c A2 cp2)⟩],[],W9.heap.size⟩⟩,0,(bA 16 65535)):=by kernel_rfl
end
theorem new_upd(sn e s:Int)(n:Nat)(C:List Int)(B:List ByteArray)(gC gB cC cB:Nat)(hn:0<n∧n<=6)(hC:C.length=n)(hB:B.length=n)(hB16:∀b∈B,b.size=16)(hC6:∀c∈C,0<=c∧c<6)(hCs:∀(i:Nat)(c d:Int),C[i]?=some c->C[i+1]?=some d->c<d)(hsn:0<=sn∧sn<8)(he:1<=e∧e<=16777215)(hs:1<=s∧s<=16777215)(w:World)(hgC:gC<w.heap.size)(hcC:∀(j:Nat)(v:Value),(C.map (Value.int .i64))[j]?=some v->w.cell? ⟨gC,0+j,none⟩=some v)(hgB:gB<w.heap.size)(hcB:∀(j:Nat)(v:Value),(strsV B)[j]?=some v->w.cell? ⟨gB,0+j,none⟩=some v) :
  Calls Tryz.prog 88 #[i6 sn,.agg #[i6 e,i6 s],.slice (some ⟨gC,0,none⟩) n cC,.slice (some ⟨gB,0,none⟩) n cB] w (fun e' w'=>∃ub A cp,e'=.returned (.tuple #[.pointer (some ⟨ub,0,none⟩),i6 0])∧w.heap.size<=ub∧Blk w' ub 178 [i6 sn,i6 (mskC C),i6 e,i6 s,.slice A n cp,.bool false,.bool false]∧OwnR w' w.heap.size 180 4 A n cp (flatV PartM.cells (partsL C B))∧Kept (fun _=>False) w w'):=by
 refine cH (S:=(fun _=>False)) (n:=56) Tryz.func88 (MemOk.none w _) ?_
 refine hgS 16 (dz 7 8590458880) [0,2,3,5,8,9,13,14,15,16] [] [(w.heap.size,0,2)] [.ops [1,0,0] [4,5],.code [1,0,1],.code [1,1]] [⟨w.heap.size,57,true,[i6 e,i6 s]⟩] [] (w.heap.size+1) ?_
 refine hcq (.bool true) _ _ (some 17) [] tI rfl (fun wx hm=>right_upd sn e s n C B gC gB cC cB hn hC hB hB16 hC6 hCs hsn he hs wx (Nat.lt_of_lt_of_le hgC hm.kept.size) (fun j v hj=>cell_kept hm.kept hgC (hcC j v hj)) (Nat.lt_of_lt_of_le hgB hm.kept.size) (fun j v hj=>cell_kept hm.kept hgB (hcB j v hj))) fun z2 hz2=>?_
 refine hgE 23 (dz 10 536903680) [3,8,9,10,23,24,25] [fF] [(w.heap.size,0,2)] [.code [1,1,1,0,1,0],.blk 0,.code [1,1,1,1]] ⟨[(3,.slice (some ⟨gB,0,none⟩) n cB),(8,.pointer none),(9,i6 0),(10,(pt z2 0)),(23,.slice (some ⟨gC,0,none⟩) n cC),(24,i6 (n:Int)),(25,i6 0)],[⟨w.heap.size,57,true,[i6 e,i6 s]⟩,⟨z2,178,true,[i6 sn,i6 0,i6 e,i6 s,.slice none 0 0,.bool false,.bool false]⟩],[],z2+1⟩ ?_
 refine holds_prune [3,8,9,10,23,24,25] [false,true] ?_
 obtain⟨ub,hub⟩:∃ub,ub=z2:=⟨_,rfl⟩
 rw[<-hub]
 refine holds_loopW (w:=w) (S':=fun _=>False) (UpdNI sn e s n C B gC gB cC cB w ub) n (by kernel_rfl) (fun W0 hm=>⟨⟨0,none,0,_,by omega,by omega,by omega,OwnR.nil _ _ _ _,rfl⟩,hm⟩) ?_
 rintro m _ W1 ⟨i,A,cp,z,hmi,hin,hul,hO1,rfl⟩ hm1 J hJ
 by_cases h1:i<n
 rotate_left
 ·skip
  refine hgS 16 (dz 5 0) [8,9] [dF (((i:Int):Int)<(n:Int))] [] [.code [1,1,1,1,1]] [⟨ub,178,true,(unw_v1 sn e s C i A cp)⟩] [] W1.heap.size ?_
  refine hrt [] [(pt ub 0),i6 0] [] ?_
  intro wx hm
  have hni:i=n:=by omega
  subst hni
  have hB1:=Eq.mp (congrArg (fun k_:Int=>Blk wx ub 178 [i6 sn,i6 k_,i6 e,i6 s,.slice A i cp,.bool false,.bool false]) (show mskC (C.take i)=mskC C by rw[List.take_of_length_le (by omega)])) (hm.at_ 0 rfl)
  have hO2:=hO1.keptT hm.kept (turned_tys hm1) rfl
  rw[List.take_of_length_le (by rw[partsL_len hC hB]; omega)]at hO2
  exact⟨ub,A,cp,rfl,hul,hB1,hO2,(MemOk.bck hm1 hm).kept⟩
 obtain⟨c,hc⟩:∃c,C[i]?=some c:=⟨_,List.getElem?_eq_getElem (by omega)⟩
 obtain⟨b,hb⟩:∃b,B[i]?=some b:=⟨_,List.getElem?_eq_getElem (by omega)⟩
 have hc6:=hC6 c (List.mem_of_getElem? hc)
 have hb16:=hB16 b (List.mem_of_getElem? hb)
 have hpw:=pow_bd hc6
 have hmk:=mskC_bd (C.take i) (fun x hx=>hC6 x (List.mem_of_mem_take hx))
 have hor:=orZ_bd hmk (b:=1*((2^Int.toNat c:Nat):Int)) (by omega)
 have hul1:ub<W1.heap.size:=(hm1.at_ 0 rfl).lt
 have hmk2:orZ (mskC (C.take i)) (1*((2^Int.toNat c:Nat):Int))=mskC (C.take (i+1)):=by rw[take_snocG hc,mskC_snoc]
 refine holds_wins [⟨gC,0+i*1,[i6 c]⟩,⟨gB,0+i*1,[sT b]⟩] (fun _ y hy=>?_) ?_
 ·simp only[List.mem_cons,List.not_mem_nil,or_false]at hy
  rcases hy with rfl|rfl
  ·exact⟨fun⟨b',hb',_,he'⟩=>(by obtain rfl:=List.mem_singleton.1 hb'; simp only at he'; omega),Nat.lt_of_lt_of_le hgC hm1.kept.size,map_cell (fun j v hj=>cell_kept hm1.kept hgC (hcC j v hj)) hc⟩
  ·exact⟨fun⟨b',hb',_,he'⟩=>(by obtain rfl:=List.mem_singleton.1 hb'; simp only at he'; omega),Nat.lt_of_lt_of_le hgB hm1.kept.size,strs_cell (fun j v hj=>cell_kept hm1.kept hgB (hcB j v hj)) hb⟩
 refine hgE 21 [oh0,oh1,oh0,oh2,⟨false,0,[⟨true,0,0,1⟩]⟩,oh0,oh0] unw_n4 [dT (((i:Int):Int)<(n:Int)),oE ((0:Int)<=(i:Int)∧(i:Int)<((n:Nat):Int))] [(gC,0+i*1,1)] [.code unw_n1,.code unw_n2,.blk 1,.code unw_n3,.inv J,.blk 0,.code [1,1,1,1]] ⟨[(3,.slice (some ⟨gB,0,none⟩) n cB),(8,.pointer none),(9,i6 0),(10,(pt ub 0)),(11,i6 (i:Int)),(12,i6 c),(23,.slice (some ⟨gC,0,none⟩) n cC),(24,i6 (n:Int)),(25,i6 (i:Int))],[⟨ub,178,true,(unw_v1 sn e s C i A cp)⟩],[⟨gC,0+i*1,[i6 c]⟩,⟨gB,0+i*1,[sT b]⟩],W1.heap.size⟩ ?_
 have unw_g7_c3:unw_g7C sn e s n C B gC gB cC cB i c b A cp J w W1 ub 3:=cert_regC (v:=i6 (mskC (C.take i))) 9 0 (by kernel_rfl) (show 3∈_ from List.mem_of_getElem? (i:=5) (by kernel_rfl)) (by kernel_rfl) (by kernel_rfl) (by kernel_rfl) (unw_g7_3 sn e s n C gC gB cC cB i c b A cp ub) trivial
 have unw_g7_c9:unw_g7C sn e s n C B gC gB cC cB i c b A cp J w W1 ub 9:=cert_store (s:=0) (v:=undef) (by kernel_rfl) (by kernel_rfl) (by kernel_rfl) (by kernel_rfl) (by kernel_rfl) (unw_g7_9 sn e s n C gC gB cC cB i c b A cp ub) trivial
 have unw_g7_R:∀e_∈(rZs [0,1,2,4,7,8]++[⟨5,oh2,[oE (inR .i64 (1*((2^Int.toNat c:Nat):Int))∧(0:Int)<=c∧c<=((IntKind.bits .i64:Nat):Int)) (⟨in64 (by omega),by omega,by show _<=((64:Nat):Int); omega⟩)],[]⟩,⟨6,oh2,[oE ((0:Int)<=(mskC (C.take i))∧(0:Int)<=(1*((2^Int.toNat c:Nat):Int))∧(mskC (C.take i))<=IntKind.max .i64∧(1*((2^Int.toNat c:Nat):Int))<=IntKind.max .i64) (bits_ob64 (by omega) (by omega))],[]⟩]:List RegE),unw_g7C sn e s n C B gC gB cC cB i c b A cp J w W1 ub e_.i:=certs_reg (by kernel_rfl) _ (fun sz=>by kernel_rfl)
 refine holds_mixG (vs:=(unw_g7v C i c ub)) (ms:=(unw_g7m sn e s C i c A cp ub)) (stg:=(unw_g7t)) (J:=1) (sl':=[(3,.slice (some ⟨gB,0,none⟩) n cB),(8,.pointer none),(9,i6 0),(10,(pt ub 0)),(11,i6 (i:Int)),(12,i6 c),(23,.slice (some ⟨gC,0,none⟩) n cC),(24,i6 (n:Int)),(25,i6 (i:Int))]) (bk':=[⟨ub,178,true,(unw_v2 sn e s C i c A cp)⟩]) (fun _ _ _=>False) unw_n4 (by kernel_rfl) (by kernel_rfl) (by kernel_rfl) (fun _ _ _ _ h=>h.elim) (certs_mix unw_g7_R [3,9] ⟨unw_g7_c3,unw_g7_c9,tI⟩ (by kernel_rfl)) (by kernel_rfl) (by kernel_rfl) (by kernel_rfl) (fun z7 hz7=>?_)
 replace hz7:W1.heap.size<=z7:=hz7
 refine hgE 3 [] unw_n4 [] [] [.code unw_n2,.blk 1,.code unw_n3,.inv J,.blk 0,.code [1,1,1,1]] ⟨[(3,.slice (some ⟨gB,0,none⟩) n cB),(8,.pointer none),(9,i6 0),(10,(pt ub 0)),(11,i6 (i:Int)),(12,i6 c),(23,.slice (some ⟨gC,0,none⟩) n cC),(24,i6 (n:Int)),(25,i6 (i:Int))],[⟨ub,178,true,(unw_v2 sn e s C i c A cp)⟩],[⟨gC,0+i*1,[i6 c]⟩,⟨gB,0+i*1,[sT b]⟩],z7⟩ ?_
 have unw_g9_c11:unw_g9C sn e s n C B gC gB cC cB i c b A cp J w W1 ub z7 11:=cert_newN (h:=oh0) (ob:=[]) (rs:=[]) (e:=180) (L:=1) (l:=[i6 c,sT b,.bool false,.bool false]) (by kernel_rfl) (by kernel_rfl) (by kernel_rfl) (by kernel_rfl) (fun sz=>by kernel_rfl) trivial
 have unw_g9_R:∀e_∈(rZs [0,1,2,3,5,6,7,10]++[rG 4 0 4 1 ub,⟨8,oh2,[oE ((0:Int)<=(i:Int)∧(i:Int)<((n:Nat):Int))],[]⟩,⟨9,⟨false,0,[⟨true,1,0,1⟩]⟩,[],[(gB,0+i*1,1)]⟩]:List RegE),unw_g9C sn e s n C B gC gB cC cB i c b A cp J w W1 ub z7 e_.i:=certs_reg (by kernel_rfl) _ (fun sz=>by kernel_rfl)
 refine holds_mixH (vs:=(unw_g9v n gB cB i c b A cp ub)) (stg:=unw_n7) (sl1:=[(3,.slice (some ⟨gB,0,none⟩) n cB),(8,.pointer none),(9,i6 0),(10,(pt ub 0)),(23,.slice (some ⟨gC,0,none⟩) n cC),(24,i6 (n:Int)),(25,i6 (i:Int)),(43,.slice A i cp)]) (sl2:=[(3,.slice (some ⟨gB,0,none⟩) n cB),(8,.pointer none),(9,i6 0),(10,(pt ub 0)),(23,.slice (some ⟨gC,0,none⟩) n cC),(24,i6 (n:Int)),(25,i6 (i:Int)),(39,(pt ub 0)),(43,.slice A i cp)]) (CNews z7 [(11,180,1,[i6 c,sT b,.bool false,.bool false])]) [1,2,3,4,5,6,7,8,9,10,11] 0 [3,8,9,10,23,24,25,43] [3,8,9,10,23,24,25,39,43] 11 50 (bA 16 4094) unw_n5 5 4 (by kernel_rfl) (by kernel_rfl) (by kernel_rfl) (cnews_stable (by intro b' hb'; obtain rfl:=List.mem_singleton.1 hb'; simp only; omega)) (certs_mixL [0,1,2,3,4,5,6,7,8,9,10,11] unw_g9_R [11] ⟨unw_g9_c11,tI⟩ (by kernel_rfl)) (by kernel_rfl) (by kernel_rfl) (by kernel_rfl) (by kernel_rfl) (by kernel_rfl) (by kernel_rfl) (by kernel_rfl) (by kernel_rfl) (by kernel_rfl) (by kernel_rfl) (by kernel_rfl) (fun v_ W2 ⟨x1,hx1,gN,hgN,hv1,hBN⟩ hz2 hm2=>?_)
 injection (show some (180,1,[i6 c,sT b,.bool false,.bool false])=some x1 from hx1)with hx1
 subst hx1
 subst hv1
 replace hBN:Blk W2 gN 180 [i6 c,sT b,.bool false,.bool false]:=hBN
 replace hgN:z7<=gN:=hgN
 have hO2:=hO1.keptT hm2.kept (turned_tys hm1) rfl
 have hm12:=MemOk.bck hm1 hm2
 have HB:∀(A2:Option Addr)(cp2:Nat)(W9:World),OwnR W9 w.heap.size 180 4 A2 (i+1) cp2 (flatV PartM.cells ((partsL C B).take (i+1)))->MemOk w (fun _=>False) [⟨ub,178,true,(unw_v2 sn e s C i c A cp)⟩] [] W9.heap.size W9->Holds [] Tryz.prog (bodyOf Tryz.f88) 56 W9 (Turned [⟨ub,178,true,(unw_v2 sn e s C i c A cp)⟩]) (bodyPost Tryz.prog Tryz.f88 (fun e' w'=>∃ub A cp,e'=.returned (.tuple #[(pt ub 0),i6 0])∧w.heap.size<=ub∧Blk w' ub 178 (unw_v3 sn e s n C A cp)∧OwnR w' w.heap.size 180 4 A n cp (flatV PartM.cells (partsL C B))∧Kept (fun _=>False) w w')) [.any unw_n2 3 unw_n6,.blk 1,.code unw_n3,.inv J,.blk 0,.code [1,1,1,1]] ⟨[(51,.slice A2 (i+1) cp2),(50,.slice (some ⟨gN,0,none⟩) 1 1),(3,.slice (some ⟨gB,0,none⟩) n cB),(8,.pointer none),(9,i6 0),(10,(pt ub 0)),(23,.slice (some ⟨gC,0,none⟩) n cC),(24,i6 (n:Int)),(25,i6 (i:Int)),(39,(pt ub 0)),(43,.slice A i cp)],[⟨ub,178,true,(unw_v2 sn e s C i c A cp)⟩],[],W9.heap.size⟩:=by
  intro A2 cp2 W9 hO9 hm9
  refine holds_tail panicOk_body _ _ (unw_t11 sn e s n C gC gB cC cB i c A cp A2 cp2 gN W9 ub) trivial ?_
  refine holds_done (by kernel_rfl) ?_
  refine hgE 8 (dz 2 2) [3,8,9,10,23,24,25] [n64 (((i:Int)+1))] [] [.inv J,.blk 0,.code [1,1,1,1]] ⟨[(3,.slice (some ⟨gB,0,none⟩) n cB),(8,.pointer none),(9,i6 0),(10,(pt ub 0)),(23,.slice (some ⟨gC,0,none⟩) n cC),(24,i6 (n:Int)),(25,i6 ((i:Int)+1))],[⟨ub,178,true,(unw_v4 sn e s C i c A2 cp2)⟩],[],W9.heap.size⟩ ?_
  rw[<-cast_succ i]
  intro a_ w9 hf hm
  exact hJ (m-1) _ a_ w9 (by omega) ⟨i+1,A2,cp2,_,by omega,by omega,hul,hO9.keptT hm.kept (turned_tys hm9) rfl,(congrArg (fun k_:Int=>(⟨[(3,.slice (some ⟨gB,0,none⟩) n cB),(8,.pointer none),(9,i6 0),(10,(pt ub 0)),(23,.slice (some ⟨gC,0,none⟩) n cC),(24,i6 (n:Int)),(25,i6 ((i+1:Nat):Int))],[⟨ub,178,true,[i6 sn,i6 k_,i6 e,i6 s,.slice A2 (i+1) cp2,.bool false,.bool false]⟩],[],_⟩:St)) hmk2)⟩ hf (MemOk.bck hm9 hm)
 have HA:Holds [] Tryz.prog (bodyOf Tryz.f88) 56 W2 (Turned [⟨ub,178,true,(unw_v2 sn e s C i c A cp)⟩]) (bodyPost Tryz.prog Tryz.f88 (fun e' w'=>∃ub A cp,e'=.returned (.tuple #[(pt ub 0),i6 0])∧w.heap.size<=ub∧Blk w' ub 178 (unw_v3 sn e s n C A cp)∧OwnR w' w.heap.size 180 4 A n cp (flatV PartM.cells (partsL C B))∧Kept (fun _=>False) w w')) [.any unw_n2 4 unw_n5,.blk 1,.code unw_n3,.inv J,.blk 0,.code [1,1,1,1]] ⟨[(50,.slice (some ⟨gN,0,none⟩) 1 1),(3,.slice (some ⟨gB,0,none⟩) n cB),(8,.pointer none),(9,i6 0),(10,(pt ub 0)),(23,.slice (some ⟨gC,0,none⟩) n cC),(24,i6 (n:Int)),(25,i6 (i:Int)),(39,(pt ub 0)),(43,.slice A i cp)],[⟨ub,178,true,(unw_v2 sn e s C i c A cp)⟩],[],W2.heap.size⟩:=by
  refine holds_anyV (i:=12) (ls':=unw_n6) (w:=w) (S':=fun _=>False) (Y:=Option Addr×Nat) (dst:=(some 51)) (x:=Builtin.append_ #[176,176] 176 #[.slice A i cp,.slice (some ⟨gN,0,none⟩) 1 1]) (fun yq=>.slice yq.1 (i+1) yq.2) [⟨ub,178,true,(unw_v2 sn e s C i c A cp)⟩] (fun yq W_=>OwnR W_ w.heap.size 180 4 yq.1 (i+1) yq.2 (flatV PartM.cells ((partsL C B).take (i+1)))) (fun yq=>[(51,.slice yq.1 (i+1) yq.2),(50,.slice (some ⟨gN,0,none⟩) 1 1),(3,.slice (some ⟨gB,0,none⟩) n cB),(8,.pointer none),(9,i6 0),(10,(pt ub 0)),(23,.slice (some ⟨gC,0,none⟩) n cC),(24,i6 (n:Int)),(25,i6 (i:Int)),(39,(pt ub 0)),(43,.slice A i cp)]) (by kernel_rfl) (by kernel_rfl) (by kernel_rfl) (by kernel_rfl) (fun _=>rfl) (fun wx hm=>?_) (fun yq W9 hX hm9=>HB yq.1 yq.2 W9 hX hm9)
  have hO_:=hO2.keptT hm.kept (turned_tys hm2) rfl
  have hm0:=MemOk.bck hm12 hm
  have hBx:=hBN.kept hm.kept (fun⟨b',hb',_,he'⟩=>by obtain rfl:=List.mem_singleton.1 hb'; simp only at he'; omega)
  obtain⟨A',cp',w',h1,h2,h3,h4⟩:=run_appendR (P:=Tryz.prog) wx w.heap.size 176 176 180 (.agg #[i6 0,sT ⟨#[]⟩,.bool false,.bool false]) 4 32 A i cp (flatV PartM.cells ((partsL C B).take i)) ⟨gN,0,none⟩ 1 1 [i6 c,sT b,.bool false,.bool false] (by kernel_rfl) (by kernel_rfl) (by kernel_rfl) (by decide) hO_ rfl (fun j x hj=>by rw[add_norm,Nat.zero_add]; exact hBx.at_ hj) (ones_all rfl) (by omega) (by decide) hm0.kept.size
  rw[show[i6 c,sT b,.bool false,.bool false]=PartM.cells ⟨c,b,false,false⟩from rfl,flatV_snoc,<-partsL_take hc hb]at h2
  exact⟨(A',cp'),w',h1,h2,hm0.offA (fun _ h=>h) h3 (fun y hy=>.inr (hO_.own y hy).1) (off_tys hm0 (own_tys hO_) rfl)⟩
 refine⟨?_,HA⟩
 refine holds_anyAll (l:=[0,12]) (by kernel_rfl) (by simp) ⟨eop unw_n5 oh0 [50,3,8,9,10,23,24,25,39,43] [] [] _ trivial HA,edge_opU (i:=12) (ls':=(bA 16 8190)) (w:=w) (S':=fun _=>False) (Y:=Option Addr×Nat) (dst:=(some 51)) (x:=Builtin.append_ #[176,176] 176 #[.slice A i cp,.slice (some ⟨gN,0,none⟩) 1 1]) (fun yq=>.slice yq.1 (i+1) yq.2) [⟨ub,178,true,(unw_v2 sn e s C i c A cp)⟩] (fun yq W_=>OwnR W_ w.heap.size 180 4 yq.1 (i+1) yq.2 (flatV PartM.cells ((partsL C B).take (i+1)))) (fun yq=>[(51,.slice yq.1 (i+1) yq.2),(50,.slice (some ⟨gN,0,none⟩) 1 1),(3,.slice (some ⟨gB,0,none⟩) n cB),(8,.pointer none),(9,i6 0),(10,(pt ub 0)),(23,.slice (some ⟨gC,0,none⟩) n cC),(24,i6 (n:Int)),(25,i6 (i:Int)),(43,.slice A i cp)]) (by kernel_rfl) (by kernel_rfl) (by kernel_rfl) (fun _=>rfl) (fun wx hm=>?_) (fun yq W9 hX hm9=>?_),trivial⟩
 ·have hO_:=hO2.keptT hm.kept (turned_tys hm2) rfl
  have hm0:=MemOk.bck hm12 hm
  have hBx:=hBN.kept hm.kept (fun⟨b',hb',_,he'⟩=>by obtain rfl:=List.mem_singleton.1 hb'; simp only at he'; omega)
  obtain⟨A',cp',w',h1,h2,h3,h4⟩:=run_appendR (P:=Tryz.prog) wx w.heap.size 176 176 180 (.agg #[i6 0,sT ⟨#[]⟩,.bool false,.bool false]) 4 32 A i cp (flatV PartM.cells ((partsL C B).take i)) ⟨gN,0,none⟩ 1 1 [i6 c,sT b,.bool false,.bool false] (by kernel_rfl) (by kernel_rfl) (by kernel_rfl) (by decide) hO_ rfl (fun j x hj=>by rw[add_norm,Nat.zero_add]; exact hBx.at_ hj) (ones_all rfl) (by omega) (by decide) hm0.kept.size
  rw[show[i6 c,sT b,.bool false,.bool false]=PartM.cells ⟨c,b,false,false⟩from rfl,flatV_snoc,<-partsL_take hc hb]at h2
  exact⟨(A',cp'),w',h1,h2,hm0.offA (fun _ h=>h) h3 (fun y hy=>.inr (hO_.own y hy).1) (off_tys hm0 (own_tys hO_) rfl)⟩
 obtain⟨A2,cp2⟩:=yq
 exact holds_anyAll (l:=[0]) (by kernel_rfl) (by simp) ⟨eop unw_n6 oh0 [51,50,3,8,9,10,23,24,25,39,43] [] [] _ tI (HB A2 cp2 W9 hX hm9),tI⟩
end Go.Proofs.YtcmpkkapkdlfhaaGreat
