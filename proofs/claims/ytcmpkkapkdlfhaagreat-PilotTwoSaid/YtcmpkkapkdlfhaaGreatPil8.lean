import Derived.Test.YtcmpkkapkdlfhaaGreatPlan17
import Derived.Test.YtcmpkkapkdlfhaaGreatPil7
namespace Go.Proofs.YtcmpkkapkdlfhaaGreat
open Go.RowKit
set_option maxHeartbeats 4000000
set_option maxRecDepth 100000
@[simp] def pdr_b1(x:PilC)(pb:Nat)(v1:Value):List Bk:=[⟨pb,98,true,(PilC.cells { x with busy:=false,kd:=0,at_:=0,da:=⟨#[]⟩,sn:=0,cn:=0,nx:=.nilFunc,lg:=false,en:=0,ep:=0,ou:=0,db:=false,te:=0,ts:=0,kn:=(.slice none 0 0),rc:=(.slice none 0 0),stl:=false,rd:=(.slice none 0 0),wr:=(.slice none 0 0),bl:=noB,ud:=(.pointer none),ak:=v1,er:=0,dt:=⟨#[]⟩,ed:=(x.ed+1) })⟩]
theorem pilX_workReb(x:PilC)(c:CM)(L:List OneM)(pb:Nat)(base:Nat)(now:Int)(hg:3<=x.N∧x.N<=6∧1<=x.S∧x.S<=8)(hs:0<=x.sn∧x.sn<x.S)(hed:0<=x.ed∧x.ed<1099511627776)(w:World)(hX:PilX w base pb ({ x with kd:=3,ou:=(-1) }) c L)(hb0:base<=w.heap.size) :
  Calls Tryz.prog 32 #[.pointer (some ⟨pb,0,none⟩),i6 now] w (fun e w'=>e=.returned (.tuple #[])∧PilX w' base pb (x.ended 0 ⟨#[]⟩) { c with opn:=[] } L∧(∀base',PartyX 124 141 w' base' x.cb { c with opn:=[] })∧Kept (PilT [141] base x.lb pb x.cb w) w w'):=by
 obtain⟨v,hP,hR⟩:=hX
 have hPT:=blk_ty hP
 refine cH (S:=(fun y=>y=pb)) (n:=105) Tryz.func32 (MemOk.startP hP) ?_
 refine hgS 17 (dz 9 0x1350800000000) [0,1,4,12,16] [] [(pb,53,1)] [.ops [1,0] [5,6],.code [1,1]] [⟨pb,98,true,(PilC.cells { x with kd:=3,ou:=(-1),ak:=v })⟩] [] w.heap.size ?_
 refine hcq (i6 (-1)) _ _ (some 17) [] tI rfl (fun wx hm=>pil_columnNone ({ x with kd:=3,ou:=(-1),ak:=v }) pb hg hs wx (hm.at_ 0 rfl)) fun z2 hz2=>?_
 refine hgS 26 (dz 17 0x103101350911100012c0800000) [64] (rE 7 tT) [(pb,44,1),(pb,53,1)] [.ops [1,1,0,1,0] [1],.blk 0] [⟨pb,98,true,(PilC.cells { x with kd:=3,ou:=(-1),ak:=v })⟩] [] z2 ?_
 refine hcV (w:=w) (S':=(PilT [141] base x.lb pb x.cb w)) (Y:=Value) (fun v1=>.tuple #[]) (fun v1=>(pdr_b1 x pb v1)) (fun v1 W_=>PilR W_ base x.lb x.cb ({ c with opn:=[] }) L v1∧(∀base',PartyX 124 141 W_ base' x.cb { c with opn:=[] })) (show _=some (47,[(pt pb 0),i6 0,sT ⟨#[]⟩],some 65,[])by kernel_rfl) tI (fun wx hm=>?_) (fun v1 W1 hX1 hm1=>?_)
 ·have hm0_:=(hm.wide (S':=PilT [141] base x.lb pb x.cb w) (fun _ h=>.inl h))
  have hb1:base<=wx.heap.size:=Nat.le_trans hb0 hm0_.kept.size
  have hR_:=(hR.keptT (es:=[98]) hm.kept (fun y hy=>by subst hy; exact⟨98,by simp,hPT⟩) rfl rfl rfl)
  have hX0:PilX wx base pb ({ x with kd:=3,ou:=(-1),ak:=v }) c L:=⟨_,hm.at_ 0 rfl,hR_⟩
  refine(pilX_end ({ x with kd:=3,ou:=(-1),ak:=v }) c L pb base 0 (⟨#[]⟩) hed wx hX0).mono fun e w' hq_=>?_
  obtain⟨he_,⟨v_,hB_,hR_2⟩,hx_0,h3_⟩:=hq_
  have hT_:=hX0.tys (es:=[])
  exact⟨v_,he_,⟨hR_2,hx_0⟩,hm0_.turnP h3_ (pilT_up hm0_.kept rfl) hB_ (off_tysP hm hT_ rfl)⟩
 obtain⟨hR1,hD1⟩:=hX1
 refine hgE 5 [] [] [] [] [] ⟨[],(pdr_b1 x pb v1),[],W1.heap.size⟩ ?_
 refine holds_end [] (show _=some ([],dupR [])by kernel_rfl) ?_
 intro wx hm
 exact⟨rfl,⟨_,hm.at_ 0 rfl,(hR1.keptT hm.kept (turned_tys hm1) rfl rfl rfl)⟩,fun base'=>(hD1 base').keptT hm.kept (turned_tys hm1) rfl rfl,(MemOk.bck hm1 hm).kept⟩
def pdd_n1:List Nat:=[1,1,0,1,1,1,1,1,0,0]
def pdd_n2:Array Bool:=(bA 17 1023)
section
variable (x:PilC)(pb:Nat)(now:Int)(v:Value)(ga:Nat)
@[simp] def pdd_b1:List Bk:=[⟨pb,98,true,(PilC.cells { x with kd:=1,ou:=(-1),ak:=v })⟩]
@[simp] def pdd_b2(v2:Value)(ga:Nat):List Bk:=[⟨pb,98,true,(PilC.cells { x with kd:=1,nx:=(.func (.func 84) #[(pt pb 0)] #[]),lg:=false,ou:=(-1),rd:=(.slice (some ⟨ga,0,none⟩) 1 1),ak:=v2 })⟩]
theorem pdd_q4(w:World)(v:Value)(z2:Nat):Out.prune [0,1,4,87,91,92] (qList Tryz.prog 105 w (fun y=>y=pb) ((opsOf (getCode (bodyOf Tryz.f32) pdd_n1)).toList.take 9) ⟨[(0,(pt pb 0)),(1,i6 now),(4,(pt pb 44)),(5,i6 (-1))],(pdd_b1 x pb v),[],z2⟩ [.op oh0,.op oh0,.op oh0,.op (oA 0 0 2),.op oh0,.op oh0,.op oh0,.op (oA 0 48 1),.op oh0])=some ⟨[],dupR [(pb,0,2),(pb,48,1)],⟨[(0,(pt pb 0)),(1,i6 now),(4,(pt pb 44)),(87,.agg #[i6 x.N,i6 x.S]),(91,i6 x.cn),(92,i6 (-1))],(pdd_b1 x pb v),[],z2⟩⟩:=by kernel_rfl
theorem pdd_t6(W1:World)(v:Value)(ga:Nat)(gb:Nat):tailP [0,1,4,6,7] (tailX Tryz.prog 105 (opsOf (getCode (bodyOf Tryz.f32) pdd_n1)) 7 pdd_n2 ⟨[(93,.tuple #[.slice (some ⟨ga,0,none⟩) 1 1,.slice (some ⟨gb,0,none⟩) 1 1,i6 0]),(0,(pt pb 0)),(1,i6 now),(4,(pt pb 44)),(87,.agg #[i6 x.N,i6 x.S]),(91,i6 x.cn),(92,i6 (-1))],(pdd_b1 x pb v),[],W1.heap.size⟩ [(10,false,oh0),(11,true,oh0),(12,true,oh0),(13,true,oh0),(14,false,oh0),(15,false,oh0),(16,false,oh0)])=some (⟨[],dupR [],⟨[(0,(pt pb 0)),(1,i6 now),(4,(pt pb 44)),(6,.slice (some ⟨ga,0,none⟩) 1 1),(7,.slice (some ⟨gb,0,none⟩) 1 1)],(pdd_b1 x pb v),[],W1.heap.size⟩⟩,0,(bA 17 131071)):=by kernel_rfl
end
theorem pilX_workRead(x:PilC)(c:CM)(L:List OneM)(pb:Nat)(base:Nat)(now:Int)(hg:3<=x.N∧x.N<=6∧1<=x.S∧x.S<=8)(hs:0<=x.sn∧x.sn<x.S)(hcn:0<=x.cn∧x.cn<x.N-1)(hnow:0<=now∧now<=1099511627776)(hcl:0<=c.last∧c.last+6<1099511627776)(hLl:L.length<=20)(w:World)(hX:PilX w base pb ({ x with kd:=1,ou:=(-1) }) c L)(hb0:base<=w.heap.size) :
  Calls Tryz.prog 32 #[.pointer (some ⟨pb,0,none⟩),i6 now] w (fun e w'=>∃gx,e=.returned (.tuple #[])∧PilX w' base pb ({ x with kd:=1,ou:=-1,nx:=.func (.func 84) #[.pointer (some ⟨pb,0,none⟩)] #[],lg:=false,rd:=.slice (some ⟨gx,0,none⟩) 1 1 }) (cmA c now ((colsP 2 x.N x.sn x.ep [x.cn])++(colsP 3 x.N x.sn x.ep [(x.cn+1)%x.N]))) (L++onesA now c.last ((colsP 2 x.N x.sn x.ep [x.cn])++(colsP 3 x.N x.sn x.ep [(x.cn+1)%x.N])))∧OwnR w' base 3 1 (some ⟨gx,0,none⟩) 1 1 (flatV intC [x.cn])∧Kept (PilT [141] base x.lb pb x.cb w) w w'):=by
 obtain⟨v,hP,hR⟩:=hX
 have hPT:=blk_ty hP
 refine cH (S:=(fun y=>y=pb)) (n:=105) Tryz.func32 (MemOk.startP hP) ?_
 refine hgS 17 (dz 9 0x1350800000000) [0,1,4,12,16] [] [(pb,53,1)] [.ops [1,0] [5,6],.code [1,1]] (pdd_b1 x pb v) [] w.heap.size ?_
 refine hcq (i6 (-1)) _ _ (some 17) [] tI rfl (fun wx hm=>pil_columnNone ({ x with kd:=1,ou:=(-1),ak:=v }) pb hg hs wx (hm.at_ 0 rfl)) fun z2 hz2=>?_
 refine hgE 47 (dz 32 0x100012c080000000012c0800000040000000012c0800000) [0,1,4,5] (rE 8 fF++[tT]) [(pb,44,1),(pb,44,1),(pb,44,1)] [.code pdd_n1,.code [1,1,0,1,1,1,1,1,0,1],.blk 0] ⟨[(0,(pt pb 0)),(1,i6 now),(4,(pt pb 44)),(5,i6 (-1))],(pdd_b1 x pb v),[],z2⟩ ?_
 refine holds_draw (f:=8) (ls:=(bA 17 511)) 9 _ _ (by kernel_rfl) (by kernel_rfl) (by kernel_rfl) (by kernel_rfl) (pdd_q4 x pb now w v z2) trivial fun z4 hz4=>?_
 replace hz4:z2<=z4:=hz4
 refine holds_callAnyU (i:=9) (ls':=pdd_n2) (w:=w) (S':=(PilT [141] base x.lb pb x.cb w)) (Y:=Nat×Nat) (fun yq=>.tuple #[.slice (some ⟨yq.1,0,none⟩) 1 1,.slice (some ⟨yq.2,0,none⟩) 1 1,i6 0]) (fun yq=>(pdd_b1 x pb v)) (fun yq W_=>PilR W_ base x.lb x.cb c L v∧OwnR W_ base 3 1 (some ⟨yq.1,0,none⟩) 1 1 (flatV intC [x.cn])∧OwnR W_ base 3 1 (some ⟨yq.2,0,none⟩) 1 1 (flatV intC [(x.cn+1)%x.N])) (fun yq=>[(93,.tuple #[.slice (some ⟨yq.1,0,none⟩) 1 1,.slice (some ⟨yq.2,0,none⟩) 1 1,i6 0]),(0,(pt pb 0)),(1,i6 now),(4,(pt pb 44)),(87,.agg #[i6 x.N,i6 x.S]),(91,i6 x.cn),(92,i6 (-1))]) (by kernel_rfl) (by kernel_rfl) (show _=some (49,[.agg #[i6 x.N,i6 x.S],i6 x.cn,i6 (-1)],some 93,[])by kernel_rfl) tI (fun _=>rfl) (fun wx hm=>?_) (fun yq W1 hX1 hm1=>?_)
 ·have hm0_:=(hm.wide (S':=PilT [141] base x.lb pb x.cb w) (fun _ h=>.inl h))
  have hb1:base<=wx.heap.size:=Nat.le_trans hb0 hm0_.kept.size
  have hR_:=(hR.keptT (es:=[98]) hm.kept (fun y hy=>by subst hy; exact⟨98,by simp,hPT⟩) rfl rfl rfl)
  have hX0:PilX wx base pb ({ x with kd:=1,ou:=(-1),ak:=v }) c L:=⟨_,hm.at_ 0 rfl,hR_⟩
  refine(plan_fetch x.N x.S x.cn hg hcn wx).mono fun e w' hq_=>?_
  obtain⟨ga,gb,he_,ho_rd,ho_be,h3_⟩:=hq_
  exact⟨(ga,gb),he_,⟨(hR_.keptT (es:=[]) h3_ (fun _ h=>h.elim) rfl rfl rfl),(ho_rd.below hb1),(ho_be.below hb1)⟩,hm0_.offA (fun _ h=>h) h3_ (fun _ h=>h.elim) (fun _ _ h=>h)⟩
 obtain⟨ga,gb⟩:=yq
 obtain⟨hR1,h1_rd,h1_be⟩:=hX1
 refine holds_tail panicOk_body _ _ (pdd_t6 x pb now W1 v ga gb) trivial ?_
 refine holds_done (by kernel_rfl) ?_
 refine hgS 15 (dz 8 5302124544) [101,102,103] [] [(pb,60,1)] [.ops [1,1,0,1,1,1,1,1,0,1,1] [3],.blk 0] [⟨pb,98,true,(PilC.cells { x with kd:=1,ou:=(-1),rd:=(.slice (some ⟨ga,0,none⟩) 1 1),ak:=v })⟩] [] W1.heap.size ?_
 refine hcV (w:=w) (S':=(PilT [141] base x.lb pb x.cb w)) (Y:=Value) (fun v2=>.tuple #[]) (fun v2=>(pdd_b2 x pb v2 ga)) (fun v2 W_=>PilR W_ base x.lb x.cb (cmA c now ((colsP 2 x.N x.sn x.ep [x.cn])++(colsP 3 x.N x.sn x.ep [(x.cn+1)%x.N]))) (L++onesA now c.last ((colsP 2 x.N x.sn x.ep [x.cn])++(colsP 3 x.N x.sn x.ep [(x.cn+1)%x.N]))) v2∧OwnR W_ base 3 1 (some ⟨ga,0,none⟩) 1 1 (flatV intC [x.cn])∧OwnR W_ base 3 1 (some ⟨gb,0,none⟩) 1 1 (flatV intC [(x.cn+1)%x.N])) (show _=some (50,[(pt pb 0),i6 now,.slice (some ⟨gb,0,none⟩) 1 1],some 104,[])by kernel_rfl) tI (fun wx hm=>?_) (fun v2 W2 hX2 hm2=>?_)
 ·have hm0_:=(MemOk.bck hm1 hm)
  have hb1:base<=wx.heap.size:=Nat.le_trans hb0 hm0_.kept.size
  have hR_:=(hR1.keptT hm.kept (turned_tys hm1) rfl rfl rfl)
  have h_rd_:=(h1_rd.keptT hm.kept (turned_tys hm1) rfl)
  have h_be_:=(h1_be.keptT hm.kept (turned_tys hm1) rfl)
  have hX0:PilX wx base pb ({ x with kd:=1,ou:=(-1),rd:=(.slice (some ⟨ga,0,none⟩) 1 1),ak:=v }) c L:=⟨_,hm.at_ 0 rfl,hR_⟩
  have hq1:∀k∈([x.cn]:List Int),0<=k∧k<x.N:=fun k hk=>by obtain rfl:=List.mem_singleton.1 hk; omega
  have hq2:∀k∈([(x.cn+1)%x.N]:List Int),0<=k∧k<x.N:=fun k hk=>by obtain rfl:=List.mem_singleton.1 hk; exact⟨Int.emod_nonneg _ (by omega),Int.emod_lt_of_pos _ (by omega)⟩
  refine(pilX_enterRead ({ x with kd:=1,ou:=(-1),rd:=(.slice (some ⟨ga,0,none⟩) 1 1),ak:=v }) c L pb base [x.cn] [(x.cn+1)%x.N] (some ⟨ga,0,none⟩) (some ⟨gb,0,none⟩) now hg hs hq1 hq2 (by simp) (by simp) hnow hcl hLl wx hX0 h_rd_ h_be_ hb1).mono fun e w' hq_=>?_
  obtain⟨he_,⟨v_,hB_,hR_2⟩,ho_rd,h3_⟩:=hq_
  have hT_:=hX0.tys (es:=[141])
  exact⟨v_,he_,⟨hR_2,ho_rd,(h_be_.keptT h3_ hT_ rfl)⟩,hm0_.turnP h3_ (pilT_up hm0_.kept rfl) hB_ (off_tysP hm hT_ rfl)⟩
 obtain⟨hR2,h2_rd,h2_be⟩:=hX2
 refine hgE 5 [] [] [] [] [] ⟨[],(pdd_b2 x pb v2 ga),[],W2.heap.size⟩ ?_
 refine holds_end [] (show _=some ([],dupR [])by kernel_rfl) ?_
 intro wx hm
 exact⟨ga,rfl,⟨_,hm.at_ 0 rfl,(hR2.keptT hm.kept (turned_tys hm2) rfl rfl rfl)⟩,(h2_rd.keptT hm.kept (turned_tys hm2) rfl),(MemOk.bck hm2 hm).kept⟩
def pdw_n1:List Nat:=[1,1,0,1,1,1,1,1,1,1]
section
variable (x:PilC)(c:CM)(pb base:Nat)(now:Int)(w:World)(v:Value)(ga gb:Nat)(L:List OneM)
@[simp] def pdw_b1:List Bk:=[⟨pb,98,true,(PilC.cells { x with kd:=2,ou:=(-1),ak:=v })⟩]
@[simp] def pdw_b2(d:Nat×Nat):List Bk:=[⟨pb,98,true,(PilC.cells { x with kd:=2,ou:=(-1),rd:=(.slice (some ⟨d.1,0,none⟩) 2 2),wr:=(.slice (some ⟨d.2,0,none⟩) 2 2),ak:=v })⟩]
@[simp] def pdw_b3:List Bk:=[⟨pb,98,true,(PilC.cells { x with kd:=2,ou:=(-1),rd:=(.slice (some ⟨ga,0,none⟩) 2 2),wr:=(.slice (some ⟨gb,0,none⟩) 2 2),ak:=v })⟩]
@[simp] def pdw_b4(v2:Value)(ga:Nat)(gb:Nat):List Bk:=[⟨pb,98,true,(PilC.cells { x with kd:=2,nx:=(.func (.func 84) #[(pt pb 0)] #[]),lg:=false,ou:=(-1),rd:=(.slice (some ⟨ga,0,none⟩) 2 2),wr:=(.slice (some ⟨gb,0,none⟩) 2 2),ak:=v2 })⟩]
def pdw_Q:Exit->Act->World->Prop:=bodyPost Tryz.prog Tryz.f32 (fun e w'=>∃gx gy,e=.returned (.tuple #[])∧PilX w' base pb ({ x with kd:=2,ou:=-1,nx:=.func (.func 84) #[(pt pb 0)] #[],lg:=false,rd:=.slice (some ⟨gx,0,none⟩) 2 2,wr:=.slice (some ⟨gy,0,none⟩) 2 2 }) (cmA c now ((colsP 2 x.N x.sn x.ep [x.cn,x.N-1])++(colsP 3 x.N x.sn x.ep []))) (L++onesA now c.last ((colsP 2 x.N x.sn x.ep [x.cn,x.N-1])++(colsP 3 x.N x.sn x.ep [])))∧OwnR w' base 3 1 (some ⟨gx,0,none⟩) 2 2 (flatV intC [x.cn,x.N-1])∧OwnR w' base 3 1 (some ⟨gy,0,none⟩) 2 2 (flatV intC [x.cn,x.N-1])∧Kept (PilT [141] base x.lb pb x.cb w) w w')
def pdw_y4s:List (Nat×Value):=[(0,(pt pb 0)),(1,i6 now),(4,(pt pb 44)),(5,i6 (-1))]
def pdw_y4v(d:Nat×Nat):List (Option Value):=[some ((pt pb 44)),some ((pt pb 44)),some ((pt pb 0)),some ((pt pb 0)),some ((pt pb 0)),some (.agg #[i6 x.N,i6 x.S]),some ((pt pb 44)),some ((pt pb 44)),some ((pt pb 48)),some (i6 x.cn),some (i6 (-1)),some (.tuple #[.slice (some ⟨d.1,0,none⟩) 2 2,.slice (some ⟨d.2,0,none⟩) 2 2,i6 0]),some (.tuple #[.slice (some ⟨d.1,0,none⟩) 2 2,.slice (some ⟨d.2,0,none⟩) 2 2,i6 0]),some (.slice (some ⟨d.1,0,none⟩) 2 2),some (.slice (some ⟨d.2,0,none⟩) 2 2),some (i6 0),some ((pt pb 44)),some ((pt pb 60)),some (.tuple #[]),some ((pt pb 44)),some ((pt pb 61)),some (.tuple #[])]
def pdw_y4F(_:Nat×Nat)(k:Nat):Bool:=([true,true,true,true,true,true,true,true,true,true,true,true,true,true,true,true,true,true,true,true,true,true]:List Bool)[k]?.getD true
def pdw_y4m(d:Nat×Nat):List (List Bk):=[(pdw_b1 x pb v),(pdw_b1 x pb v),[⟨pb,98,true,(PilC.cells { x with kd:=2,ou:=(-1),rd:=(.slice (some ⟨d.1,0,none⟩) 2 2),ak:=v })⟩],(pdw_b2 x pb v d)]
abbrev pdw_y4X(x:PilC)(c:CM)(base:Nat)(v:Value)(L:List OneM)(c_:Nat)(d:Nat×Nat)(W_:World):Prop:=match c_ with|0=>PilR W_ base x.lb x.cb c L v|1=>PilR W_ base x.lb x.cb c L v∧OwnR W_ base 3 1 (some ⟨d.1,0,none⟩) 2 2 (flatV intC [x.cn,x.N-1])∧OwnR W_ base 3 1 (some ⟨d.2,0,none⟩) 2 2 (flatV intC [x.cn,x.N-1])|2=>PilR W_ base x.lb x.cb c L v∧OwnR W_ base 3 1 (some ⟨d.1,0,none⟩) 2 2 (flatV intC [x.cn,x.N-1])∧OwnR W_ base 3 1 (some ⟨d.2,0,none⟩) 2 2 (flatV intC [x.cn,x.N-1])|3=>PilR W_ base x.lb x.cb c L v∧OwnR W_ base 3 1 (some ⟨d.1,0,none⟩) 2 2 (flatV intC [x.cn,x.N-1])∧OwnR W_ base 3 1 (some ⟨d.2,0,none⟩) 2 2 (flatV intC [x.cn,x.N-1])|_=>True
def pdw_y4C(z2:Nat)(i_:Nat):Prop:=cY Tryz.prog Tryz.f32 [1,1,0,1,1,1,1,1,1,0] 105 [] (pdw_Q x c pb base now w L) [.code pdw_n1,.blk 0] (pdw_y4s pb now) [none,none,none,none,none,none,none,none,none,none,none,some 0,none,none,none,none,none,none,some 1,none,none,some 2] 3 (pdw_y4v x pb) pdw_y4F w (PilT [141] base x.lb pb x.cb w) (pdw_y4m x pb v) z2 (pdw_y4X x c base v L) i_
end
theorem pilX_workWrite(x:PilC)(c:CM)(L:List OneM)(pb:Nat)(base:Nat)(now:Int)(hg:3<=x.N∧x.N<=6∧1<=x.S∧x.S<=8)(hs:0<=x.sn∧x.sn<x.S)(hcn:0<=x.cn∧x.cn<x.N-1)(hnow:0<=now∧now<=1099511627776)(hcl:0<=c.last∧c.last+6<1099511627776)(hLl:L.length<=20)(w:World)(hX:PilX w base pb ({ x with kd:=2,ou:=(-1) }) c L)(hb0:base<=w.heap.size) :
  Calls Tryz.prog 32 #[.pointer (some ⟨pb,0,none⟩),i6 now] w (fun e w'=>∃gx gy,e=.returned (.tuple #[])∧PilX w' base pb ({ x with kd:=2,ou:=-1,nx:=.func (.func 84) #[.pointer (some ⟨pb,0,none⟩)] #[],lg:=false,rd:=.slice (some ⟨gx,0,none⟩) 2 2,wr:=.slice (some ⟨gy,0,none⟩) 2 2 }) (cmA c now ((colsP 2 x.N x.sn x.ep [x.cn,x.N-1])++(colsP 3 x.N x.sn x.ep []))) (L++onesA now c.last ((colsP 2 x.N x.sn x.ep [x.cn,x.N-1])++(colsP 3 x.N x.sn x.ep [])))∧OwnR w' base 3 1 (some ⟨gx,0,none⟩) 2 2 (flatV intC [x.cn,x.N-1])∧OwnR w' base 3 1 (some ⟨gy,0,none⟩) 2 2 (flatV intC [x.cn,x.N-1])∧Kept (PilT [141] base x.lb pb x.cb w) w w'):=by
 obtain⟨v,hP,hR⟩:=hX
 have hPT:=blk_ty hP
 refine cH (S:=(fun y=>y=pb)) (n:=105) Tryz.func32 (MemOk.startP hP) ?_
 refine hgS 17 (dz 9 0x1350800000000) [0,1,4,12,16] [] [(pb,53,1)] [.ops [1,0] [5,6],.code [1,1]] (pdw_b1 x pb v) [] w.heap.size ?_
 refine hcq (i6 (-1)) _ _ (some 17) [] tI rfl (fun wx hm=>pil_columnNone ({ x with kd:=2,ou:=(-1),ak:=v }) pb hg hs wx (hm.at_ 0 rfl)) fun z2 hz2=>?_
 refine hgE 47 (dz 32 0x12c080000000012c0800000040000000012c0800000) [0,1,4,5] (rE 9 fF) [(pb,44,1),(pb,44,1),(pb,44,1)] [.code [1,1,0,1,1,1,1,1,1,0],.code pdw_n1,.blk 0] ⟨[(0,(pt pb 0)),(1,i6 now),(4,(pt pb 44)),(5,i6 (-1))],(pdw_b1 x pb v),[],z2⟩ ?_
 have pdw_y4_X:StayY w (PilT [141] base x.lb pb x.cb w) (pdw_y4m x pb v) (pdw_y4X x c base v L):=by
  intro c_ d wx w' bk hb hm hx hk
  match c_,hb,hx with
  |0,hb,hx=>
   obtain rfl:=Option.some.inj hb
   exact(hx.keptT hk (turned_tys hm) rfl rfl rfl)
  |1,hb,hx=>
   obtain rfl:=Option.some.inj hb
   exact⟨(hx.1.keptT hk (turned_tys hm) rfl rfl rfl),(hx.2.1.keptT hk (turned_tys hm) rfl),(hx.2.2.keptT hk (turned_tys hm) rfl)⟩
  |2,hb,hx=>
   obtain rfl:=Option.some.inj hb
   exact⟨(hx.1.keptT hk (turned_tys hm) rfl rfl rfl),(hx.2.1.keptT hk (turned_tys hm) rfl),(hx.2.2.keptT hk (turned_tys hm) rfl)⟩
  |3,hb,hx=>
   obtain rfl:=Option.some.inj hb
   exact⟨(hx.1.keptT hk (turned_tys hm) rfl rfl rfl),(hx.2.1.keptT hk (turned_tys hm) rfl),(hx.2.2.keptT hk (turned_tys hm) rfl)⟩
  |c_+4,hb,hx=>exact trivial
 have pdw_y4_c11:pdw_y4C x c pb base now w v L z2 11:=cyC (s:=0) (f:=51) (args:=fun d=>[.agg #[i6 x.N,i6 x.S],i6 x.cn,i6 (-1)]) (ob:=fun d=>[]) (fun(d:Nat×Nat)(e_:Nat×Nat)=>e_) (fun d=>.tuple #[.slice (some ⟨d.1,0,none⟩) 2 2,.slice (some ⟨d.2,0,none⟩) 2 2,i6 0]) (fun d=>trivial) (fun d wx bk hb hm hx hcame=>by
  obtain rfl:=Option.some.inj hb
  have hb1:base<=wx.heap.size:=Nat.le_trans hb0 hm.kept.size
  have hX0:PilX wx base pb ({ x with kd:=2,ou:=(-1),ak:=v }) c L:=⟨_,hm.at_ 0 rfl,hx⟩
  refine(plan_update x.N x.S x.cn hg hcn wx).mono fun e w' hq_=>?_
  obtain⟨ga,gb,he_,ho_rd,ho_wr,h3_⟩:=hq_
  exact⟨(ga,gb),he_,rfl,⟨(hx.keptT (es:=[]) h3_ (fun _ h=>h.elim) rfl rfl rfl),(ho_rd.below hb1),(ho_wr.below hb1)⟩,hm.offA (fun _ h=>h) h3_ (fun _ h=>h.elim) (fun _ _ h=>h),h3_.size⟩)
 have pdw_y4_c18:pdw_y4C x c pb base now w v L z2 18:=cyS (s:=1) (x:=fun d=>Instr.storeAt 25 ((pt pb 60)) (.slice (some ⟨d.1,0,none⟩) 2 2)) (fun(d:Nat×Nat)(_:Unit)=>d) (fun d wx bk hb hm hx hcame=>by
  obtain rfl:=Option.some.inj hb
  obtain⟨w',h1,hB1,hk1,hz1⟩:=store_to (P:=Tryz.prog) (t:=25) (v:=.slice (some ⟨d.1,0,none⟩) 2 2) (by kernel_rfl) (hm.at_ 0 rfl) rfl (by show 60+1<=73; omega) (ones_all rfl) rfl
  exact⟨(),w',h1,rfl,⟨(hx.1.keptT (es:=[98]) hk1 (fun y hy=>by subst hy; exact⟨98,by simp,blk_ty (hm.at_ 0 rfl)⟩) rfl rfl rfl),(hx.2.1.keptT (es:=[98]) hk1 (fun y hy=>by subst hy; exact⟨98,by simp,blk_ty (hm.at_ 0 rfl)⟩) rfl),(hx.2.2.keptT (es:=[98]) hk1 (fun y hy=>by subst hy; exact⟨98,by simp,blk_ty (hm.at_ 0 rfl)⟩) rfl)⟩,(hm.set1 0 rfl rfl hk1 hB1).2,Nat.le_of_eq hz1.symm⟩)
 have pdw_y4_c21:pdw_y4C x c pb base now w v L z2 21:=cyS (s:=2) (x:=fun d=>Instr.storeAt 25 ((pt pb 61)) (.slice (some ⟨d.2,0,none⟩) 2 2)) (fun(d:Nat×Nat)(_:Unit)=>d) (fun d wx bk hb hm hx hcame=>by
  obtain rfl:=Option.some.inj hb
  obtain⟨w',h1,hB1,hk1,hz1⟩:=store_to (P:=Tryz.prog) (t:=25) (v:=.slice (some ⟨d.2,0,none⟩) 2 2) (by kernel_rfl) (hm.at_ 0 rfl) rfl (by show 61+1<=73; omega) (ones_all rfl) rfl
  exact⟨(),w',h1,rfl,⟨(hx.1.keptT (es:=[98]) hk1 (fun y hy=>by subst hy; exact⟨98,by simp,blk_ty (hm.at_ 0 rfl)⟩) rfl rfl rfl),(hx.2.1.keptT (es:=[98]) hk1 (fun y hy=>by subst hy; exact⟨98,by simp,blk_ty (hm.at_ 0 rfl)⟩) rfl),(hx.2.2.keptT (es:=[98]) hk1 (fun y hy=>by subst hy; exact⟨98,by simp,blk_ty (hm.at_ 0 rfl)⟩) rfl)⟩,(hm.set1 0 rfl rfl hk1 hB1).2,Nat.le_of_eq hz1.symm⟩)
 have pdw_y4_R:∀e_∈(rZsY 3 [0,1,2,3,4,6,7,8,10,12,13,14,15,16,17,19,20]++[rY 5 3 0 0 2 pb,rY 9 3 0 48 1 pb]:List (RegY (Nat×Nat))),pdw_y4C x c pb base now w v L z2 e_.i:=certsY_reg _ pdw_y4_X (fun d=>by kernel_rfl) (by kernel_rfl) (fun d sz=>by kernel_rfl)
 have pdw_y4_A:∀i_,i_<22->pdw_y4C x c pb base now w v L z2 i_:=allY (l:=[11,18,21]) (by kernel_rfl) pdw_y4_R ⟨pdw_y4_c11,pdw_y4_c18,pdw_y4_c21,trivial⟩
 refine holds_mixY (Δ:=Nat×Nat) (PilT [141] base x.lb pb x.cb w) (pdw_y4v x pb) pdw_y4F (pdw_y4m x pb v) (pdw_y4X x c base v L) [0,1,4] (fun d=>[(0,(pt pb 0)),(1,i6 now),(4,(pt pb 44))]) (fun d=>(pdw_b2 x pb v d)) (0,0) (fun _ h=>.inl h) (by kernel_rfl) (by kernel_rfl) (by kernel_rfl) (fun wx hm=>(hR.keptT (es:=[98]) hm.kept.drew (fun y hy=>by subst hy; exact⟨98,by simp,hPT⟩) rfl rfl rfl)) (by kernel_rfl) pdw_y4_A (fun d=>by kernel_rfl) (fun d=>by kernel_rfl) (fun d W1 hfin hX1 hm01 hm1=>?_)
 obtain⟨ga,gb⟩:=d
 obtain⟨hR1,h1_rd,h1_wr⟩:=hX1
 replace hR1:PilR W1 base x.lb x.cb c L v:=hR1
 replace h1_rd:OwnR W1 base 3 1 (some ⟨ga,0,none⟩) 2 2 (flatV intC [x.cn,x.N-1]):=h1_rd
 replace h1_wr:OwnR W1 base 3 1 (some ⟨gb,0,none⟩) 2 2 (flatV intC [x.cn,x.N-1]):=h1_wr
 replace hm1:MemOk w (PilT [141] base x.lb pb x.cb w) (pdw_b3 x pb v ga gb) [] W1.heap.size W1:=hm1
 change Holds _ _ _ _ W1 (Turned (pdw_b3 x pb v ga gb)) _ [.code pdw_n1,.blk 0] ⟨[(0,(pt pb 0)),(1,i6 now),(4,(pt pb 44))],(pdw_b3 x pb v ga gb),[],W1.heap.size⟩
 refine hgS 18 (dz 9 331382784) [47,48] [fF] [(pb,60,1)] [.ops [1,1,0,1,1,1,1,1,1,1,1] [2],.blk 0] (pdw_b3 x pb v ga gb) [] W1.heap.size ?_
 refine hcV (w:=w) (S':=(PilT [141] base x.lb pb x.cb w)) (Y:=Value) (fun v2=>.tuple #[]) (fun v2=>(pdw_b4 x pb v2 ga gb)) (fun v2 W_=>PilR W_ base x.lb x.cb (cmA c now ((colsP 2 x.N x.sn x.ep [x.cn,x.N-1])++(colsP 3 x.N x.sn x.ep []))) (L++onesA now c.last ((colsP 2 x.N x.sn x.ep [x.cn,x.N-1])++(colsP 3 x.N x.sn x.ep []))) v2∧OwnR W_ base 3 1 (some ⟨ga,0,none⟩) 2 2 (flatV intC [x.cn,x.N-1])∧OwnR W_ base 3 1 (some ⟨gb,0,none⟩) 2 2 (flatV intC [x.cn,x.N-1])) (show _=some (50,[(pt pb 0),i6 now,.slice none 0 0],some 49,[])by kernel_rfl) tI (fun wx hm=>?_) (fun v2 W2 hX2 hm2=>?_)
 ·have hm0_:=(MemOk.bck hm1 hm)
  have hb1:base<=wx.heap.size:=Nat.le_trans hb0 hm0_.kept.size
  have hR_:=(hR1.keptT hm.kept (turned_tys hm1) rfl rfl rfl)
  have h_rd_:=(h1_rd.keptT hm.kept (turned_tys hm1) rfl)
  have h_wr_:=(h1_wr.keptT hm.kept (turned_tys hm1) rfl)
  have hX0:PilX wx base pb ({ x with kd:=2,ou:=(-1),rd:=(.slice (some ⟨ga,0,none⟩) 2 2),wr:=(.slice (some ⟨gb,0,none⟩) 2 2),ak:=v }) c L:=⟨_,hm.at_ 0 rfl,hR_⟩
  have hq1:∀k∈([x.cn,x.N-1]:List Int),0<=k∧k<x.N:=(fun k hk=>by simp only[List.mem_cons,List.not_mem_nil,or_false]at hk; rcases hk with rfl|rfl<;>omega)
  refine(pilX_enterRead ({ x with kd:=2,ou:=(-1),rd:=(.slice (some ⟨ga,0,none⟩) 2 2),wr:=(.slice (some ⟨gb,0,none⟩) 2 2),ak:=v }) c L pb base [x.cn,x.N-1] [] (some ⟨ga,0,none⟩) none now hg hs hq1 (fun k hk=>by cases hk) (by simp) (by simp) hnow hcl hLl wx hX0 h_rd_ (OwnR.nil _ _ _ _) hb1).mono fun e w' hq_=>?_
  obtain⟨he_,⟨v_,hB_,hR_2⟩,ho_rd,h3_⟩:=hq_
  have hT_:=hX0.tys (es:=[141])
  exact⟨v_,he_,⟨hR_2,ho_rd,(h_wr_.keptT h3_ hT_ rfl)⟩,hm0_.turnP h3_ (pilT_up hm0_.kept rfl) hB_ (off_tysP hm hT_ rfl)⟩
 obtain⟨hR2,h2_rd,h2_wr⟩:=hX2
 refine hgE 5 [] [] [] [] [] ⟨[],(pdw_b4 x pb v2 ga gb),[],W2.heap.size⟩ ?_
 refine holds_end [] (show _=some ([],dupR [])by kernel_rfl) ?_
 intro wx hm
 exact⟨ga,gb,rfl,⟨_,hm.at_ 0 rfl,(hR2.keptT hm.kept (turned_tys hm2) rfl rfl rfl)⟩,(h2_rd.keptT hm.kept (turned_tys hm2) rfl),(h2_wr.keptT hm.kept (turned_tys hm2) rfl),(MemOk.bck hm2 hm).kept⟩
end Go.Proofs.YtcmpkkapkdlfhaaGreat
