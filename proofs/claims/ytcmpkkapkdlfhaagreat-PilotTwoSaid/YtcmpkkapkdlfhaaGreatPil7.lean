import Derived.Test.YtcmpkkapkdlfhaaGreatNums
namespace Go.Proofs.YtcmpkkapkdlfhaaGreat
open Go.RowKit
set_option maxHeartbeats 4000000
set_option maxRecDepth 100000
section
variable (x:PilC)(c:CM)(pb base:Nat)(now:Int)(L:List OneM)(i:Nat)(v0:Value)(R BL:List Int)(A B:Option Addr)(k:Int)(gA:Nat)(v00:Value)
def per_v1:List Value:=[i6 2,i6 0,i6 x.ep]++rp 5 (i6 0)++[sT ⟨#[]⟩]
def per_v2:List Value:=((per_v1 x).set 0 (i6 3))
def per_n1:Array Bool:=(bA 12 2047)
def per_n2:Array Bool:=(bA 12 4095)
@[simp] def per_b1:List Bk:=[⟨pb,98,true,(PilC.cells { x with nx:=(.func (.func 84) #[(pt pb 0)] #[]),lg:=false,rd:=(.slice A R.length R.length),ak:=v0 })⟩]
@[simp] def per_b2:List Bk:=[⟨pb,98,true,(PilC.cells { x with nx:=(.func (.func 84) #[(pt pb 0)] #[]),lg:=false,rd:=(.slice (some ⟨gA,0,none⟩) R.length R.length),ak:=v0 })⟩]
@[simp] def per_b3:List Bk:=[⟨pb,98,true,(PilC.cells { x with nx:=(.func (.func 84) #[(pt pb 0)] #[]),lg:=false,rd:=(.slice A R.length R.length),ak:=v00 })⟩]
@[simp] def per_b4(v1:Value)(R:List Int)(A:Option Addr):List Bk:=[⟨pb,98,true,(PilC.cells { x with nx:=(.func (.func 84) #[(pt pb 0)] #[]),lg:=false,rd:=(.slice A R.length R.length),ak:=v1 })⟩]
@[simp] def per_b5(v5:Value)(R:List Int)(gA:Nat):List Bk:=[⟨pb,98,true,(PilC.cells { x with nx:=(.func (.func 84) #[(pt pb 0)] #[]),lg:=false,rd:=(.slice (some ⟨gA,0,none⟩) R.length R.length),ak:=v5 })⟩]
@[simp] def per_b6(v11:Value)(R:List Int)(A:Option Addr):List Bk:=[⟨pb,98,true,(PilC.cells { x with nx:=(.func (.func 84) #[(pt pb 0)] #[]),lg:=false,rd:=(.slice A R.length R.length),ak:=v11 })⟩]
def per_I(m:Nat)(st:St)(W0:World):Prop:=
 ∃(i:Nat)(v0:Value)(z:Nat),m+i=R.length∧i<=R.length∧PilR W0 base x.lb x.cb (cmA c now (colsP 2 x.N x.sn x.ep (R.take i))) (L++onesA now c.last (colsP 2 x.N x.sn x.ep (R.take i))) v0∧OwnR W0 base 3 1 A R.length R.length (flatV intC R)∧OwnR W0 base 3 1 B BL.length BL.length (flatV intC BL)∧st=⟨[(0,(pt pb 0)),(1,i6 now),(2,.slice B BL.length BL.length),(18,.slice A R.length R.length),(19,i6 ((R.length:Nat):Int)),(20,i6 (i:Int))],(per_b1 x pb v0 R A),[],z⟩
theorem per_q5(W4:World)(i:Nat)(v0:Value)(R:List Int)(BL:List Int)(B:Option Addr)(k:Int)(gA:Nat):Out.prune [0,1,2,18,19,20,24,25,28,34] (qList Tryz.prog 56 W4 (Turned (per_b2 x pb v0 R gA)) ((opsOf (getCode (bodyOf Tryz.f50) [1,0,1,0,0,1,1,0,0,1])).toList.take 11) ⟨[(0,(pt pb 0)),(1,i6 now),(2,.slice B BL.length BL.length),(7,i6 k),(18,.slice (some ⟨gA,0,none⟩) R.length R.length),(19,i6 ((R.length:Nat):Int)),(20,i6 (i:Int))],(per_b2 x pb v0 R gA),[⟨gA,0+i*1,[i6 k]⟩],W4.heap.size⟩ [.op oh0,.op oh0,.op oh0,.op oh0,.call (i6 ((k+x.sn)%x.N)),.op oh0,.op oh0,.op oh0,.op oh0,.op (oA 0 52 1),.op oh0])=some ⟨[∀w',MemC W4 (Turned (per_b2 x pb v0 R gA)) (per_b2 x pb v0 R gA) [⟨gA,0+i*1,[i6 k]⟩] W4.heap.size w'->Calls Tryz.prog 81 #[(pt pb 0),i6 k] w' (RetK (i6 ((k+x.sn)%x.N)) w')],dupR [(pb,52,1)],⟨[(0,(pt pb 0)),(1,i6 now),(2,.slice B BL.length BL.length),(18,.slice (some ⟨gA,0,none⟩) R.length R.length),(19,i6 ((R.length:Nat):Int)),(20,i6 (i:Int)),(24,(pt pb 0)),(25,i6 now),(28,i6 ((k+x.sn)%x.N)),(34,.agg (List.toArray (per_v1 x)))],(per_b2 x pb v0 R gA),[⟨gA,0+i*1,[i6 k]⟩],W4.heap.size⟩⟩:=by kernel_rfl
def per_J(m:Nat)(st:St)(W0:World):Prop:=
 ∃(i:Nat)(v00:Value)(z:Nat),m+i=BL.length∧i<=BL.length∧PilR W0 base x.lb x.cb (cmA c now ((colsP 2 x.N x.sn x.ep R)++(colsP 3 x.N x.sn x.ep (BL.take i)))) (L++onesA now c.last ((colsP 2 x.N x.sn x.ep R)++(colsP 3 x.N x.sn x.ep (BL.take i)))) v00∧OwnR W0 base 3 1 A R.length R.length (flatV intC R)∧OwnR W0 base 3 1 B BL.length BL.length (flatV intC BL)∧st=⟨[(0,(pt pb 0)),(1,i6 now),(37,.slice B BL.length BL.length),(38,i6 ((BL.length:Nat):Int)),(39,i6 (i:Int))],(per_b3 x pb R A v00),[],z⟩
theorem per_q10(W10:World)(i:Nat)(R:List Int)(BL:List Int)(A:Option Addr)(k:Int)(gB:Nat)(v00:Value):Out.prune [0,1,37,38,39,43,44,47,53] (qList Tryz.prog 56 W10 (Turned (per_b3 x pb R A v00)) ((opsOf (getCode (bodyOf Tryz.f50) [1,1,1,0,0,1,1,0,0,1])).toList.take 11) ⟨[(0,(pt pb 0)),(1,i6 now),(9,i6 k),(37,.slice (some ⟨gB,0,none⟩) BL.length BL.length),(38,i6 ((BL.length:Nat):Int)),(39,i6 (i:Int))],(per_b3 x pb R A v00),[⟨gB,0+i*1,[i6 k]⟩],W10.heap.size⟩ [.op oh0,.op oh0,.op oh0,.op oh0,.call (i6 ((k+x.sn)%x.N)),.op oh0,.op oh0,.op oh0,.op oh0,.op (oA 0 52 1),.op oh0])=some ⟨[∀w',MemC W10 (Turned (per_b3 x pb R A v00)) (per_b3 x pb R A v00) [⟨gB,0+i*1,[i6 k]⟩] W10.heap.size w'->Calls Tryz.prog 81 #[(pt pb 0),i6 k] w' (RetK (i6 ((k+x.sn)%x.N)) w')],dupR [(pb,52,1)],⟨[(0,(pt pb 0)),(1,i6 now),(37,.slice (some ⟨gB,0,none⟩) BL.length BL.length),(38,i6 ((BL.length:Nat):Int)),(39,i6 (i:Int)),(43,(pt pb 0)),(44,i6 now),(47,i6 ((k+x.sn)%x.N)),(53,.agg (List.toArray (per_v2 x)))],(per_b3 x pb R A v00),[⟨gB,0+i*1,[i6 k]⟩],W10.heap.size⟩⟩:=by kernel_rfl
end
theorem pilX_enterRead(x:PilC)(c:CM)(L:List OneM)(pb:Nat)(base:Nat)(R BL:List Int)(A B:Option Addr)(now:Int)(hg:3<=x.N∧x.N<=6∧1<=x.S∧x.S<=8)(hs:0<=x.sn∧x.sn<x.S)(hsR:∀k∈R,0<=k∧k<x.N)(hsBL:∀k∈BL,0<=k∧k<x.N)(hRl:R.length<=2)(hBl:BL.length<=2)(hnow:0<=now∧now<=1099511627776)(hcl:0<=c.last∧c.last+6<1099511627776)(hLl:L.length<=20)(w:World)(hX:PilX w base pb ({ x with rd:=(.slice A R.length R.length) }) c L)(h_rd:OwnR w base 3 1 A R.length R.length (flatV intC R))(h_be:OwnR w base 3 1 B BL.length BL.length (flatV intC BL))(hb0:base<=w.heap.size) :
  Calls Tryz.prog 50 #[.pointer (some ⟨pb,0,none⟩),i6 now,.slice B BL.length BL.length] w (fun e w'=>e=.returned (.tuple #[])∧PilX w' base pb ({ x with nx:=.func (.func 84) #[.pointer (some ⟨pb,0,none⟩)] #[],lg:=false,rd:=.slice A R.length R.length }) (cmA c now ((colsP 2 x.N x.sn x.ep R)++(colsP 3 x.N x.sn x.ep BL))) (L++onesA now c.last ((colsP 2 x.N x.sn x.ep R)++(colsP 3 x.N x.sn x.ep BL)))∧OwnR w' base 3 1 A R.length R.length (flatV intC R)∧Kept (PilT [141] base x.lb pb x.cb w) w w'):=by
 obtain⟨v,hP,hR⟩:=hX
 have hPT:=blk_ty hP
 refine cH (S:=(fun y=>y=pb)) (n:=56) Tryz.func50 (MemOk.startP hP) ?_
 refine hgS 8 (dz 3 0) [0,1,2,10,12] [] [] [.ops [0] [3],.code [1]] [⟨pb,98,true,(PilC.cells { x with rd:=(.slice A R.length R.length),ak:=v })⟩] [] w.heap.size ?_
 refine hcV (w:=w) (S':=(PilT [141] base x.lb pb x.cb w)) (Y:=Value) (fun v1=>.tuple #[]) (fun v1=>(per_b4 x pb v1 R A)) (fun v1 W_=>PilR W_ base x.lb x.cb ({ c with opn:=[] }) L v1∧OwnR W_ base 3 1 A R.length R.length (flatV intC R)∧OwnR W_ base 3 1 B BL.length BL.length (flatV intC BL)) (show _=some (53,[(pt pb 0),.func (.func 84) #[(pt pb 0)] #[]],some 13,[])by kernel_rfl) tI (fun wx hm=>?_) (fun v1 W1 hX1 hm1=>?_)
 ·have hm0_:=(hm.wide (S':=PilT [141] base x.lb pb x.cb w) (fun _ h=>.inl h))
  have hb1:base<=wx.heap.size:=Nat.le_trans hb0 hm0_.kept.size
  have hR_:=(hR.keptT (es:=[98]) hm.kept (fun y hy=>by subst hy; exact⟨98,by simp,hPT⟩) rfl rfl rfl)
  have h_rd_:=(h_rd.keptT (es:=[98]) hm.kept (fun y hy=>by subst hy; exact⟨98,by simp,hPT⟩) rfl)
  have h_be_:=(h_be.keptT (es:=[98]) hm.kept (fun y hy=>by subst hy; exact⟨98,by simp,hPT⟩) rfl)
  have hX0:PilX wx base pb ({ x with rd:=(.slice A R.length R.length),ak:=v }) c L:=⟨_,hm.at_ 0 rfl,hR_⟩
  refine(pilX_enter (.func 84) #[(pt pb 0)] #[] hX0).mono fun e w' hq_=>?_
  obtain⟨he_,⟨v_,hB_,hR_2⟩,h3_⟩:=hq_
  have hT_:=hX0.tys (es:=[])
  exact⟨v_,he_,⟨hR_2,(h_rd_.keptT h3_ hT_ rfl),(h_be_.keptT h3_ hT_ rfl)⟩,hm0_.turnP h3_ (pilT_up hm0_.kept rfl) hB_ (off_tysP hm hT_ rfl)⟩
 obtain⟨hR1,h1_rd,h1_be⟩:=hX1
 have hR2:PilR W1 base x.lb x.cb (cmA c now []) (L++onesA now c.last []) v1:=by
  have hc_:({ c with opn:=[] }:CM)=cmA c now []:=cmA_nil c now
  have hL_:(L:List OneM)=L++onesA now c.last []:=by simp[onesA]
  rw[<-hc_,<-hL_]
  exact hR1
 refine hgE 16 (dz 7 5302124544) [0,1,2,18,19,20] [] [(pb,60,1)] [.code [1,0,1,0],.blk 0,.code [1,1]] ⟨[(0,(pt pb 0)),(1,i6 now),(2,.slice B BL.length BL.length),(18,.slice A R.length R.length),(19,i6 ((R.length:Nat):Int)),(20,i6 0)],(per_b4 x pb v1 R A),[],W1.heap.size⟩ ?_
 have hR3:PilR W1 base x.lb x.cb (cmA c now (colsP 2 x.N x.sn x.ep (R.take 0))) (L++onesA now c.last (colsP 2 x.N x.sn x.ep (R.take 0))) v1:=by
  have hc_:(cmA c now []:CM)=cmA c now (colsP 2 x.N x.sn x.ep (R.take 0)):=by simp[colsP]
  have hL_:(L++onesA now c.last []:List OneM)=L++onesA now c.last (colsP 2 x.N x.sn x.ep (R.take 0)):=by simp[colsP]
  rw[<-hc_,<-hL_]
  exact hR2
 refine holds_loopW (w:=w) (S':=PilT [141] base x.lb pb x.cb w) (per_I x c pb base now L R BL A B) R.length (by kernel_rfl) (fun W0 hm=>⟨⟨0,v1,_,by omega,by omega,(hR3.keptT hm.kept (turned_tys hm1) rfl rfl rfl),(h1_rd.keptT hm.kept (turned_tys hm1) rfl),(h1_be.keptT hm.kept (turned_tys hm1) rfl),rfl⟩,(MemOk.bck hm1 hm)⟩) ?_
 rintro m _ W4 ⟨i,v0,z,hh4_0,hh4_1,hR4,h4_rd,h4_be,rfl⟩ hm4 J hJ
 by_cases h1:i<R.length
 ·skip
  obtain⟨k,hk⟩:∃k,R[i]?=some k:=⟨_,List.getElem?_eq_getElem h1⟩
  have hkb:=hsR k (List.mem_of_getElem? hk)
  obtain⟨gA,rfl,_⟩:=OwnR.cell (j:=i*1+0) (v:=i6 k) h4_rd (flatV_get (f:=intC) (fun _=>rfl) hk (by decide))
  refine holds_wins [⟨gA,0+i*1,[i6 k]⟩] (fun _ y hy=>?_) ?_
  ·simp only[List.mem_cons,List.not_mem_nil,or_false]at hy
   subst hy
   exact⟨fun h=>tysIn_not rfl (h4_rd.ty gA ⟨_,rfl,rfl⟩) (turned_tys hm4 _ h),(h4_rd.own gA ⟨_,rfl,rfl⟩).2,own_elem (f:=intC) (fun _=>rfl) h4_rd hk⟩
  refine hgE 18 [oh0,oh1,oh2,⟨false,0,[⟨true,0,0,1⟩]⟩,oh0] [0,1,2,7,18,19,20] [dT (((i:Int):Int)<((R.length:Nat):Int)),oE ((0:Int)<=(i:Int)∧(i:Int)<((R.length:Nat):Int))] [(gA,0+i*1,1)] [.code [1,0,1,0,0,1,1,0,0,1],.blk 1,.code [1,0,1,0,0,1,1,1],.inv J,.blk 0,.code [1,1]] ⟨[(0,(pt pb 0)),(1,i6 now),(2,.slice B BL.length BL.length),(7,i6 k),(18,.slice (some ⟨gA,0,none⟩) R.length R.length),(19,i6 ((R.length:Nat):Int)),(20,i6 (i:Int))],(per_b2 x pb v0 R gA),[⟨gA,0+i*1,[i6 k]⟩],W4.heap.size⟩ ?_
  refine holds_draw (f:=1) (ls:=per_n1) 11 _ _ (by kernel_rfl) (by kernel_rfl) (by kernel_rfl) (by kernel_rfl) (per_q5 x pb now W4 i v0 R BL B k gA) ⟨(fun wx hm=>pil_node ({ x with nx:=(.func (.func 84) #[(pt pb 0)] #[]),lg:=false,rd:=(.slice (some ⟨gA,0,none⟩) R.length R.length),ak:=v0 }) pb k hg hs (by omega) wx (hm.2.at_ 0 rfl)),trivial⟩ fun z5 hz5=>?_
  replace hz5:W4.heap.size<=z5:=hz5
  refine holds_wins [] (fun _ _ h=>by cases h) ?_
  refine holds_callAnyU (i:=11) (ls':=per_n2) (w:=w) (S':=(PilT [141] base x.lb pb x.cb w)) (Y:=Value) (fun v5=>.tuple #[]) (fun v5=>(per_b5 x pb v5 R gA)) (fun v5 W_=>PilR W_ base x.lb x.cb (askC (cmA c now (colsP 2 x.N x.sn x.ep (R.take i))) now ((k+x.sn)%x.N) (phaseQ 2 x.sn x.ep)) ((L++onesA now c.last (colsP 2 x.N x.sn x.ep (R.take i)))++[⟨(k+x.sn)%x.N,(cmA c now (colsP 2 x.N x.sn x.ep (R.take i))).last+1,phaseQ 2 x.sn x.ep,within14 now,within14 now⟩]) v5∧OwnR W_ base 3 1 (some ⟨gA,0,none⟩) R.length R.length (flatV intC R)∧OwnR W_ base 3 1 B BL.length BL.length (flatV intC BL)) (fun v5=>[(35,.tuple #[]),(0,(pt pb 0)),(1,i6 now),(2,.slice B BL.length BL.length),(18,.slice (some ⟨gA,0,none⟩) R.length R.length),(19,i6 ((R.length:Nat):Int)),(20,i6 (i:Int)),(24,(pt pb 0)),(25,i6 now),(28,i6 ((k+x.sn)%x.N)),(34,.agg (List.toArray (per_v1 x)))]) (by kernel_rfl) (by kernel_rfl) (show _=some (55,[(pt pb 0),i6 now,i6 ((k+x.sn)%x.N),.agg (List.toArray (per_v1 x))],some 35,[])by kernel_rfl) tI (fun _=>rfl) (fun wx hm=>?_) (fun v5 W5 hX5 hm5=>?_)
  ·have hm0_:=(MemOk.bck hm4 hm)
   have hb1:base<=wx.heap.size:=Nat.le_trans hb0 hm0_.kept.size
   have hR_:=(hR4.keptT hm.kept (turned_tys hm4) rfl rfl rfl)
   have h_rd_:=(h4_rd.keptT hm.kept (turned_tys hm4) rfl)
   have h_be_:=(h4_be.keptT hm.kept (turned_tys hm4) rfl)
   have hX0:PilX wx base pb ({ x with nx:=(.func (.func 84) #[(pt pb 0)] #[]),lg:=false,rd:=(.slice (some ⟨gA,0,none⟩) R.length R.length),ak:=v0 }) (cmA c now (colsP 2 x.N x.sn x.ep (R.take i))) (L++onesA now c.last (colsP 2 x.N x.sn x.ep (R.take i))):=⟨_,hm.at_ 0 rfl,hR_⟩
   refine(pilX_ask now ((k+x.sn)%x.N) (phaseQ 2 0 x.ep) hX0 ⟨by simp only[cmA,onesA_len,colsP_len,List.length_take]; omega,by simp only[cmA,colsP_len,List.length_take]; omega,Int.emod_nonneg _ (by omega),Int.lt_trans (Int.emod_lt_of_pos _ (by omega)) (by omega)⟩ (by simp only[List.length_append,onesA_len,colsP_len,List.length_take]; omega) hb1).mono fun e w' hq_=>?_
   obtain⟨he_,⟨v_,hB_,hR_2⟩,h3_⟩:=hq_
   have hT_:=hX0.tys (es:=[141])
   exact⟨v_,he_,⟨hR_2,(h_rd_.keptT h3_ hT_ rfl),(h_be_.keptT h3_ hT_ rfl)⟩,hm0_.turnP h3_ (pilT_up hm0_.kept rfl) hB_ (off_tysP hm hT_ rfl)⟩
  obtain⟨hR5,h5_rd,h5_be⟩:=hX5
  refine holds_done (by kernel_rfl) ?_
  have hR6:PilR W5 base x.lb x.cb (cmA c now (colsP 2 x.N x.sn x.ep (R.take (i+1)))) (L++onesA now c.last (colsP 2 x.N x.sn x.ep (R.take (i+1)))) v5:=by
   have hc_:(askC (cmA c now (colsP 2 x.N x.sn x.ep (R.take i))) now ((k+x.sn)%x.N) (phaseQ 2 x.sn x.ep):CM)=cmA c now (colsP 2 x.N x.sn x.ep (R.take (i+1))):=by rw[cmA_snoc c _ _ _ hnow,colsP_take hk]
   have hL_:((L++onesA now c.last (colsP 2 x.N x.sn x.ep (R.take i)))++[⟨(k+x.sn)%x.N,(cmA c now (colsP 2 x.N x.sn x.ep (R.take i))).last+1,phaseQ 2 x.sn x.ep,within14 now,within14 now⟩]:List OneM)=L++onesA now c.last (colsP 2 x.N x.sn x.ep (R.take (i+1))):=by rw[onesA_ask c _ _ _ L hnow,colsP_take hk]
   rw[<-hc_,<-hL_]
   exact hR5
  refine hgE 8 (dz 2 2) [0,1,2,18,19,20] [n64 (((i:Int)+1))] [] [.inv J,.blk 0,.code [1,1]] ⟨[(0,(pt pb 0)),(1,i6 now),(2,.slice B BL.length BL.length),(18,.slice (some ⟨gA,0,none⟩) R.length R.length),(19,i6 ((R.length:Nat):Int)),(20,i6 ((i:Int)+1))],(per_b5 x pb v5 R gA),[],W5.heap.size⟩ ?_
  rw[<-cast_succ i]
  intro a_ w9 hf hm
  exact hJ (m-1) _ a_ w9 (by omega) ⟨i+1,v5,_,by omega,by omega,(hR6.keptT hm.kept (turned_tys hm5) rfl rfl rfl),(h5_rd.keptT hm.kept (turned_tys hm5) rfl),(h5_be.keptT hm.kept (turned_tys hm5) rfl),rfl⟩ hf (MemOk.bck hm5 hm)
 have hR7:PilR W4 base x.lb x.cb (cmA c now (colsP 2 x.N x.sn x.ep R)) (L++onesA now c.last (colsP 2 x.N x.sn x.ep R)) v0:=by
  have hc_:(cmA c now (colsP 2 x.N x.sn x.ep (R.take i)):CM)=cmA c now (colsP 2 x.N x.sn x.ep R):=by rw[List.take_of_length_le (by omega)]
  have hL_:(L++onesA now c.last (colsP 2 x.N x.sn x.ep (R.take i)):List OneM)=L++onesA now c.last (colsP 2 x.N x.sn x.ep R):=by rw[List.take_of_length_le (by omega)]
  rw[<-hc_,<-hL_]
  exact hR4
 have hBt:(colsP 2 x.N x.sn x.ep R)=(colsP 2 x.N x.sn x.ep R)++(colsP 3 x.N x.sn x.ep (BL.take 0)):=by simp[colsP]
 have hR8:PilR W4 base x.lb x.cb (cmA c now ((colsP 2 x.N x.sn x.ep R)++(colsP 3 x.N x.sn x.ep (BL.take 0)))) (L++onesA now c.last ((colsP 2 x.N x.sn x.ep R)++(colsP 3 x.N x.sn x.ep (BL.take 0)))) v0:=by
  have hc_:(cmA c now (colsP 2 x.N x.sn x.ep R):CM)=cmA c now ((colsP 2 x.N x.sn x.ep R)++(colsP 3 x.N x.sn x.ep (BL.take 0))):=by rw[<-hBt]
  have hL_:(L++onesA now c.last (colsP 2 x.N x.sn x.ep R):List OneM)=L++onesA now c.last ((colsP 2 x.N x.sn x.ep R)++(colsP 3 x.N x.sn x.ep (BL.take 0))):=by rw[<-hBt]
  rw[<-hc_,<-hL_]
  exact hR7
 refine hgE 17 (dz 5 0) [0,1,37,38,39] [dF (((i:Int):Int)<((R.length:Nat):Int))] [] [.code [1,1,1,0],.blk 2] ⟨[(0,(pt pb 0)),(1,i6 now),(37,.slice B BL.length BL.length),(38,i6 ((BL.length:Nat):Int)),(39,i6 0)],(per_b1 x pb v0 R A),[],W4.heap.size⟩ ?_
 have hR9:PilR W4 base x.lb x.cb (cmA c now ((colsP 2 x.N x.sn x.ep R)++(colsP 3 x.N x.sn x.ep (BL.take 0)))) (L++onesA now c.last ((colsP 2 x.N x.sn x.ep R)++(colsP 3 x.N x.sn x.ep (BL.take 0)))) v0:=by
  have hc_:(cmA c now ((colsP 2 x.N x.sn x.ep R)++(colsP 3 x.N x.sn x.ep (BL.take 0))):CM)=cmA c now ((colsP 2 x.N x.sn x.ep R)++(colsP 3 x.N x.sn x.ep (BL.take 0))):=by simp[colsP]
  have hL_:(L++onesA now c.last ((colsP 2 x.N x.sn x.ep R)++(colsP 3 x.N x.sn x.ep (BL.take 0))):List OneM)=L++onesA now c.last ((colsP 2 x.N x.sn x.ep R)++(colsP 3 x.N x.sn x.ep (BL.take 0))):=by simp[colsP]
  rw[<-hc_,<-hL_]
  exact hR8
 refine holds_loopW (w:=w) (S':=PilT [141] base x.lb pb x.cb w) (per_J x c pb base now L R BL A B) BL.length (by kernel_rfl) (fun W0 hm=>⟨⟨0,v0,_,by omega,by omega,(hR9.keptT hm.kept (turned_tys hm4) rfl rfl rfl),(h4_rd.keptT hm.kept (turned_tys hm4) rfl),(h4_be.keptT hm.kept (turned_tys hm4) rfl),rfl⟩,(MemOk.bck hm4 hm)⟩) ?_
 rintro m _ W10 ⟨i,v00,z,hh10_0,hh10_1,hR10,h10_rd,h10_be,rfl⟩ hm10 J hJ
 by_cases h1:i<BL.length
 ·skip
  obtain⟨k,hk⟩:∃k,BL[i]?=some k:=⟨_,List.getElem?_eq_getElem h1⟩
  have hkb:=hsBL k (List.mem_of_getElem? hk)
  obtain⟨gB,rfl,_⟩:=OwnR.cell (j:=i*1+0) (v:=i6 k) h10_be (flatV_get (f:=intC) (fun _=>rfl) hk (by decide))
  refine holds_wins [⟨gB,0+i*1,[i6 k]⟩] (fun _ y hy=>?_) ?_
  ·simp only[List.mem_cons,List.not_mem_nil,or_false]at hy
   subst hy
   exact⟨fun h=>tysIn_not rfl (h10_be.ty gB ⟨_,rfl,rfl⟩) (turned_tys hm10 _ h),(h10_be.own gB ⟨_,rfl,rfl⟩).2,own_elem (f:=intC) (fun _=>rfl) h10_be hk⟩
  refine hgE 18 [oh0,oh1,oh2,⟨false,0,[⟨true,0,0,1⟩]⟩,oh0] [0,1,9,37,38,39] [dT (((i:Int):Int)<((BL.length:Nat):Int)),oE ((0:Int)<=(i:Int)∧(i:Int)<((BL.length:Nat):Int))] [(gB,0+i*1,1)] [.code [1,1,1,0,0,1,1,0,0,1],.blk 3,.code [1,1,1,0,0,1,1,1],.inv J,.blk 2] ⟨[(0,(pt pb 0)),(1,i6 now),(9,i6 k),(37,.slice (some ⟨gB,0,none⟩) BL.length BL.length),(38,i6 ((BL.length:Nat):Int)),(39,i6 (i:Int))],(per_b3 x pb R A v00),[⟨gB,0+i*1,[i6 k]⟩],W10.heap.size⟩ ?_
  refine holds_draw (f:=1) (ls:=per_n1) 11 _ _ (by kernel_rfl) (by kernel_rfl) (by kernel_rfl) (by kernel_rfl) (per_q10 x pb now W10 i R BL A k gB v00) ⟨(fun wx hm=>pil_node ({ x with nx:=(.func (.func 84) #[(pt pb 0)] #[]),lg:=false,rd:=(.slice A R.length R.length),ak:=v00 }) pb k hg hs (by omega) wx (hm.2.at_ 0 rfl)),trivial⟩ fun z10 hz10=>?_
  replace hz10:W10.heap.size<=z10:=hz10
  refine holds_wins [] (fun _ _ h=>by cases h) ?_
  refine holds_callAnyU (i:=11) (ls':=per_n2) (w:=w) (S':=(PilT [141] base x.lb pb x.cb w)) (Y:=Value) (fun v11=>.tuple #[]) (fun v11=>(per_b6 x pb v11 R A)) (fun v11 W_=>PilR W_ base x.lb x.cb (askC (cmA c now ((colsP 2 x.N x.sn x.ep R)++(colsP 3 x.N x.sn x.ep (BL.take i)))) now ((k+x.sn)%x.N) (phaseQ 3 x.sn x.ep)) ((L++onesA now c.last ((colsP 2 x.N x.sn x.ep R)++(colsP 3 x.N x.sn x.ep (BL.take i))))++[⟨(k+x.sn)%x.N,(cmA c now ((colsP 2 x.N x.sn x.ep R)++(colsP 3 x.N x.sn x.ep (BL.take i)))).last+1,phaseQ 3 x.sn x.ep,within14 now,within14 now⟩]) v11∧OwnR W_ base 3 1 A R.length R.length (flatV intC R)∧OwnR W_ base 3 1 (some ⟨gB,0,none⟩) BL.length BL.length (flatV intC BL)) (fun v11=>[(54,.tuple #[]),(0,(pt pb 0)),(1,i6 now),(37,.slice (some ⟨gB,0,none⟩) BL.length BL.length),(38,i6 ((BL.length:Nat):Int)),(39,i6 (i:Int)),(43,(pt pb 0)),(44,i6 now),(47,i6 ((k+x.sn)%x.N)),(53,.agg (List.toArray (per_v2 x)))]) (by kernel_rfl) (by kernel_rfl) (show _=some (55,[(pt pb 0),i6 now,i6 ((k+x.sn)%x.N),.agg (List.toArray (per_v2 x))],some 54,[])by kernel_rfl) tI (fun _=>rfl) (fun wx hm=>?_) (fun v11 W11 hX11 hm11=>?_)
  ·have hm0_:=(MemOk.bck hm10 hm)
   have hb1:base<=wx.heap.size:=Nat.le_trans hb0 hm0_.kept.size
   have hR_:=(hR10.keptT hm.kept (turned_tys hm10) rfl rfl rfl)
   have h_rd_:=(h10_rd.keptT hm.kept (turned_tys hm10) rfl)
   have h_be_:=(h10_be.keptT hm.kept (turned_tys hm10) rfl)
   have hX0:PilX wx base pb ({ x with nx:=(.func (.func 84) #[(pt pb 0)] #[]),lg:=false,rd:=(.slice A R.length R.length),ak:=v00 }) (cmA c now ((colsP 2 x.N x.sn x.ep R)++(colsP 3 x.N x.sn x.ep (BL.take i)))) (L++onesA now c.last ((colsP 2 x.N x.sn x.ep R)++(colsP 3 x.N x.sn x.ep (BL.take i)))):=⟨_,hm.at_ 0 rfl,hR_⟩
   refine(pilX_ask now ((k+x.sn)%x.N) (phaseQ 3 0 x.ep) hX0 ⟨by simp only[cmA,onesA_len,List.length_append,colsP_len,List.length_take]; omega,by simp only[cmA,List.length_append,colsP_len,List.length_take]; omega,Int.emod_nonneg _ (by omega),Int.lt_trans (Int.emod_lt_of_pos _ (by omega)) (by omega)⟩ (by simp only[List.length_append,onesA_len,colsP_len,List.length_take]; omega) hb1).mono fun e w' hq_=>?_
   obtain⟨he_,⟨v_,hB_,hR_2⟩,h3_⟩:=hq_
   have hT_:=hX0.tys (es:=[141])
   exact⟨v_,he_,⟨hR_2,(h_rd_.keptT h3_ hT_ rfl),(h_be_.keptT h3_ hT_ rfl)⟩,hm0_.turnP h3_ (pilT_up hm0_.kept rfl) hB_ (off_tysP hm hT_ rfl)⟩
  obtain⟨hR11,h11_rd,h11_be⟩:=hX11
  refine holds_done (by kernel_rfl) ?_
  have hR12:PilR W11 base x.lb x.cb (cmA c now ((colsP 2 x.N x.sn x.ep R)++(colsP 3 x.N x.sn x.ep (BL.take (i+1))))) (L++onesA now c.last ((colsP 2 x.N x.sn x.ep R)++(colsP 3 x.N x.sn x.ep (BL.take (i+1))))) v11:=by
   have hc_:(askC (cmA c now ((colsP 2 x.N x.sn x.ep R)++(colsP 3 x.N x.sn x.ep (BL.take i)))) now ((k+x.sn)%x.N) (phaseQ 3 x.sn x.ep):CM)=cmA c now ((colsP 2 x.N x.sn x.ep R)++(colsP 3 x.N x.sn x.ep (BL.take (i+1)))):=by rw[cmA_snoc c _ _ _ hnow,List.append_assoc,<-colsP_take hk]
   have hL_:((L++onesA now c.last ((colsP 2 x.N x.sn x.ep R)++(colsP 3 x.N x.sn x.ep (BL.take i))))++[⟨(k+x.sn)%x.N,(cmA c now ((colsP 2 x.N x.sn x.ep R)++(colsP 3 x.N x.sn x.ep (BL.take i)))).last+1,phaseQ 3 x.sn x.ep,within14 now,within14 now⟩]:List OneM)=L++onesA now c.last ((colsP 2 x.N x.sn x.ep R)++(colsP 3 x.N x.sn x.ep (BL.take (i+1)))):=by rw[onesA_ask c _ _ _ L hnow,List.append_assoc,<-colsP_take hk]
   rw[<-hc_,<-hL_]
   exact hR11
  refine hgE 8 (dz 2 2) [0,1,37,38,39] [n64 (((i:Int)+1))] [] [.inv J,.blk 2] ⟨[(0,(pt pb 0)),(1,i6 now),(37,.slice (some ⟨gB,0,none⟩) BL.length BL.length),(38,i6 ((BL.length:Nat):Int)),(39,i6 ((i:Int)+1))],(per_b6 x pb v11 R A),[],W11.heap.size⟩ ?_
  rw[<-cast_succ i]
  intro a_ w9 hf hm
  exact hJ (m-1) _ a_ w9 (by omega) ⟨i+1,v11,_,by omega,by omega,(hR12.keptT hm.kept (turned_tys hm11) rfl rfl rfl),(h11_rd.keptT hm.kept (turned_tys hm11) rfl),(h11_be.keptT hm.kept (turned_tys hm11) rfl),rfl⟩ hf (MemOk.bck hm11 hm)
 have hR13:PilR W10 base x.lb x.cb (cmA c now ((colsP 2 x.N x.sn x.ep R)++(colsP 3 x.N x.sn x.ep BL))) (L++onesA now c.last ((colsP 2 x.N x.sn x.ep R)++(colsP 3 x.N x.sn x.ep BL))) v00:=by
  have hc_:(cmA c now ((colsP 2 x.N x.sn x.ep R)++(colsP 3 x.N x.sn x.ep (BL.take i))):CM)=cmA c now ((colsP 2 x.N x.sn x.ep R)++(colsP 3 x.N x.sn x.ep BL)):=by rw[List.take_of_length_le (by omega)]
  have hL_:(L++onesA now c.last ((colsP 2 x.N x.sn x.ep R)++(colsP 3 x.N x.sn x.ep (BL.take i))):List OneM)=L++onesA now c.last ((colsP 2 x.N x.sn x.ep R)++(colsP 3 x.N x.sn x.ep BL)):=by rw[List.take_of_length_le (by omega)]
  rw[<-hc_,<-hL_]
  exact hR10
 refine hgE 10 (dz 2 0) [] [dF (((i:Int):Int)<((BL.length:Nat):Int))] [] [] ⟨[],(per_b3 x pb R A v00),[],W10.heap.size⟩ ?_
 refine holds_end [] (show _=some ([],dupR [])by kernel_rfl) ?_
 intro wx hm
 exact⟨rfl,⟨_,hm.at_ 0 rfl,(hR13.keptT hm.kept (turned_tys hm10) rfl rfl rfl)⟩,(h10_rd.keptT hm.kept (turned_tys hm10) rfl),(MemOk.bck hm10 hm).kept⟩
end Go.Proofs.YtcmpkkapkdlfhaaGreat
