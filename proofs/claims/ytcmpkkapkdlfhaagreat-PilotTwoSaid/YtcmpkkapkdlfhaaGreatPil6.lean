import Derived.Test.YtcmpkkapkdlfhaaGreatNums
namespace Go.Proofs.YtcmpkkapkdlfhaaGreat
open Go.RowKit
set_option maxHeartbeats 4000000
set_option maxRecDepth 100000
def prfu_v1(ep:Int)(ou:Int)(r:RecM):List Value:=[i6 1,i6 ep,i6 ou,.bool true,i6 r.fence,i6 r.de,i6 r.ds,sT r.block,.bool r.op,i6 r.ie,i6 r.is,i6 r.mask,sT r.staged]
theorem pil_refusedU(pb:Nat)(now fr ep ou:Int)(r:RecM)(w:World) :
  Calls Tryz.prog 119 #[.pointer (some ⟨pb,0,none⟩),i6 now,i6 fr,.agg #[i6 1,i6 ep,i6 ou,.bool true,i6 r.fence,i6 r.de,i6 r.ds,sT r.block,.bool r.op,i6 r.ie,i6 r.is,i6 r.mask,sT r.staged],.bool true] w (RetK (.bool false) w):=by
 refine cH (S:=(fun _=>False)) (n:=46) Tryz.func119 (MemOk.none w _) ?_
 refine hgS 31 (dz 17 0x10361110103091100010008000) [10] (rE 10 tT) [(w.heap.size,0,1),(w.heap.size,3,1)] [.code [1,0,0,1,0,1],.blk 0,.code [1,1]] [⟨w.heap.size,63,true,(prfu_v1 ep ou r)⟩] [] (w.heap.size+1) ?_
 refine hrt [] [.bool false] [] ?_
 intro wx hm
 exact⟨rfl,hm.kept⟩
def prfn_v1(ep:Int)(ou:Int)(r:RecM):List Value:=((prfu_v1 ep ou r).set 3 (.bool r.used))
theorem pil_refusedN(pb:Nat)(now fr ep ou:Int)(r:RecM)(w:World) :
  Calls Tryz.prog 119 #[.pointer (some ⟨pb,0,none⟩),i6 now,i6 fr,.agg #[i6 1,i6 ep,i6 ou,.bool r.used,i6 r.fence,i6 r.de,i6 r.ds,sT r.block,.bool r.op,i6 r.ie,i6 r.is,i6 r.mask,sT r.staged],.bool false] w (RetK (.bool false) w):=by
 refine cH (S:=(fun _=>False)) (n:=46) Tryz.func119 (MemOk.none w _) ?_
 refine hgE 20 (dz 10 0x10103091100010008000) [0,1,2,4,8,10,17,21] [tT,tT,tT,tT] [(w.heap.size,0,1),(w.heap.size,3,1)] [.ops [1,0,0,0] [8,9,10,11,12],.code [1,0,0,1],.blk 0,.code [1,1]] ⟨[(0,(pt pb 0)),(1,i6 now),(2,i6 fr),(4,.bool false),(8,(pt w.heap.size 0)),(10,.bool false),(17,.bool true),(21,.bool r.used)],[⟨w.heap.size,63,true,(prfn_v1 ep ou r)⟩],[],w.heap.size+1⟩ ?_
 rcases Bool.eq_false_or_eq_true (r.used)with d1|d1
 ·skip
  refine hgS 14 (dz 7 1062417) [10] [eD d1,eD d1,tT,eD d1,tT,tT] [] [.code [1,0,0,1,0,1],.blk 0,.code [1,1]] [⟨w.heap.size,63,true,(prfn_v1 ep ou r)⟩] [] (w.heap.size+1) ?_
  refine hrt [] [.bool false] [] ?_
  intro wx hm
  exact⟨rfl,hm.kept⟩
 ·skip
  refine hgS 14 (dz 7 1062656) [10] [eD d1,eD d1,tT,eD d1,tT,tT] [] [.code [1,0,0,1,0,1],.blk 0,.code [1,1]] [⟨w.heap.size,63,true,(prfn_v1 ep ou r)⟩] [] (w.heap.size+1) ?_
  refine hrt [] [.bool false] [] ?_
  intro wx hm
  exact⟨rfl,hm.kept⟩
section
variable (x:PilC)(pb:Nat)(v1:Value)(n g_kn g_rc:Nat)
def pef_v1:List Value:=[i6 1,i6 0,i6 x.ep]++rp 5 (i6 0)++[sT ⟨#[]⟩]
@[simp] def pef_b1(v0:Value)(g_kn:Nat)(g_rc:Nat):List Bk:=[⟨pb,98,true,(PilC.cells { x with nx:=(.func (.func 114) #[(pt pb 0)] #[]),lg:=false,kn:=(.slice (some ⟨g_kn,0,none⟩) n n),rc:=(.slice (some ⟨g_rc,0,none⟩) n n),ak:=v0 })⟩]
@[simp] def pef_b2:List Bk:=[⟨pb,98,true,(PilC.cells { x with nx:=(.func (.func 114) #[(pt pb 0)] #[]),lg:=false,ak:=v1 })⟩]
@[simp] def pef_b3:List Bk:=[⟨pb,98,true,(PilC.cells { x with nx:=(.func (.func 114) #[(pt pb 0)] #[]),lg:=false,kn:=(.slice (some ⟨g_kn,0,none⟩) n n),ak:=v1 })⟩]
@[simp] def pef_b4(v6:Value)(n:Nat)(g_kn:Nat)(g_rc:Nat):List Bk:=[⟨pb,98,true,(PilC.cells { x with nx:=(.func (.func 114) #[(pt pb 0)] #[]),lg:=false,kn:=(.slice (some ⟨g_kn,0,none⟩) n n),rc:=(.slice (some ⟨g_rc,0,none⟩) n n),ak:=v6 })⟩]
def pef_I(c:CM)(pb:Nat)(base:Nat)(now:Int)(L:List OneM)(n:Nat)(g_kn:Nat)(g_rc:Nat)(m:Nat)(st:St)(W0:World):Prop:=
 ∃(i:Nat)(v0:Value)(z:Nat),m+i=n∧i<=n∧PilR W0 base x.lb x.cb (⟨c.frm,c.last+(i:Int),onesF now x.sn x.ep c.last i⟩) (L++onesF now x.sn x.ep c.last i) v0∧OwnR W0 base 4 1 (some ⟨g_kn,0,none⟩) n n (flatV boolC (List.replicate n false))∧OwnR W0 base 61 10 (some ⟨g_rc,0,none⟩) n n (flatV RecM.cells (List.replicate n recZ))∧st=⟨[(0,(pt pb 0)),(1,i6 now),(33,i6 x.N),(34,i6 (i:Int))],(pef_b1 x pb n v0 g_kn g_rc),[],z⟩
end
theorem pilX_enterFence(x:PilC)(c:CM)(L:List OneM)(pb:Nat)(base:Nat)(n:Nat)(now:Int)(hN:x.N=(n:Int))(hNb:3<=x.N∧x.N<=6)(hou:x.ou=-1)(hnow:0<=now∧now<=1099511627776)(hcl:0<=c.last∧c.last+6<1099511627776)(hLl:L.length<=20)(w:World)(hX:PilX w base pb x c L)(hb0:base<=w.heap.size) :
  Calls Tryz.prog 90 #[.pointer (some ⟨pb,0,none⟩),i6 now] w (fun e w'=>∃gK gR,e=.returned (.tuple #[])∧PilX w' base pb ({ x with nx:=.func (.func 114) #[.pointer (some ⟨pb,0,none⟩)] #[],lg:=false,kn:=.slice (some ⟨gK,0,none⟩) n n,rc:=.slice (some ⟨gR,0,none⟩) n n }) (⟨c.frm,c.last+(n:Int),onesF now x.sn x.ep c.last n⟩) (L++onesF now x.sn x.ep c.last n)∧OwnR w' base 4 1 (some ⟨gK,0,none⟩) n n (flatV boolC (List.replicate n false))∧OwnR w' base 61 10 (some ⟨gR,0,none⟩) n n (flatV RecM.cells (List.replicate n recZ))∧Kept (PilT [141] base x.lb pb x.cb w) w w'):=by
 obtain⟨v,hP,hR⟩:=hX
 have hPT:=blk_ty hP
 refine cH (S:=(fun y=>y=pb)) (n:=55) Tryz.func90 (MemOk.startP hP) ?_
 have hNc:3<=n∧n<=6:=by omega
 refine hgS 8 (dz 3 0) [0,1,5,7] [] [] [.ops [0] [3],.code [1]] [⟨pb,98,true,(PilC.cells { x with ak:=v })⟩] [] w.heap.size ?_
 refine hcV (w:=w) (S':=(PilT [141] base x.lb pb x.cb w)) (Y:=Value) (fun v1=>.tuple #[]) (fun v1=>(pef_b2 x pb v1)) (fun v1 W_=>PilR W_ base x.lb x.cb ({ c with opn:=[] }) L v1) (show _=some (53,[(pt pb 0),.func (.func 114) #[(pt pb 0)] #[]],some 8,[])by kernel_rfl) tI (fun wx hm=>?_) (fun v1 W1 hX1 hm1=>?_)
 ·have hm0_:=(hm.wide (S':=PilT [141] base x.lb pb x.cb w) (fun _ h=>.inl h))
  have hb1:base<=wx.heap.size:=Nat.le_trans hb0 hm0_.kept.size
  have hR_:=(hR.keptT (es:=[98]) hm.kept (fun y hy=>by subst hy; exact⟨98,by simp,hPT⟩) rfl rfl rfl)
  have hX0:PilX wx base pb ({ x with ak:=v }) c L:=⟨_,hm.at_ 0 rfl,hR_⟩
  refine(pilX_enter (.func 114) #[(pt pb 0)] #[] hX0).mono fun e w' hq_=>?_
  obtain⟨he_,⟨v_,hB_,hR_2⟩,h3_⟩:=hq_
  have hT_:=hX0.tys (es:=[])
  exact⟨v_,he_,hR_2,hm0_.turnP h3_ (pilT_up hm0_.kept rfl) hB_ (off_tysP hm hT_ rfl)⟩
 have hR1:=hX1
 refine hgE 12 (dz 6 0x1000800000) [0,1,9,14] [] [(pb,0,1)] [.ops [1,0] [6,7,8,9,10],.code [1,1]] ⟨[(0,(pt pb 0)),(1,i6 now),(9,(pt pb 0)),(14,i6 x.N)],(pef_b2 x pb v1),[],W1.heap.size⟩ ?_
 refine holds_opV (w:=w) (S':=(PilT [141] base x.lb pb x.cb w)) (Y:=Nat) (dst:=(some 15)) (x:=Instr.makeSlice 92 (i6 x.N) (i6 x.N)) (fun g_kn=>.slice (some ⟨g_kn,0,none⟩) n n) (pef_b2 x pb v1) (fun g_kn W_=>PilR W_ base x.lb x.cb ({ c with opn:=[] }) L v1∧OwnR W_ base 4 1 (some ⟨g_kn,0,none⟩) n n (flatV boolC (List.replicate n false))) (fun g_kn=>[(15,.slice (some ⟨g_kn,0,none⟩) n n),(0,(pt pb 0)),(1,i6 now),(9,(pt pb 0)),(14,i6 x.N)]) (by kernel_rfl) (by kernel_rfl) (fun _=>rfl) (fun wx hm=>?_) (fun g_kn W2 hX2 hm2=>?_)
 ·have hm0_:=(MemOk.bck hm1 hm)
  have hR_:=(hR1.keptT hm.kept (turned_tys hm1) rfl rfl rfl)
  obtain⟨w',h1,h2,h3⟩:=run_newOwn (P:=Tryz.prog) wx 92 4 (.bool false) 1 n 1 _ (by kernel_rfl) (by kernel_rfl) (made_bools hNc.1 hNc.2) (flatV_rep rfl) (by decide) (by omega)
  rw[<-hN]at h1
  exact⟨_,w',h1,⟨(hR_.keptT (es:=[]) h3 (fun _ h=>h.elim) rfl rfl rfl),(h2.below (Nat.le_trans hb0 hm0_.kept.size))⟩,hm0_.offA (fun _ h=>h) h3 (fun _ h=>h.elim) (fun _ _ h=>h)⟩
 obtain⟨hR2,h2_kn⟩:=hX2
 refine hgE 16 (dz 10 0x1000800000013908000) [0,1,19,24] [] [(pb,57,1),(pb,0,1)] [.ops [1,1,0] [6,7,8,9,10],.code [1,1,1]] ⟨[(0,(pt pb 0)),(1,i6 now),(19,(pt pb 0)),(24,i6 x.N)],(pef_b3 x pb v1 n g_kn),[],W2.heap.size⟩ ?_
 refine holds_opV (w:=w) (S':=(PilT [141] base x.lb pb x.cb w)) (Y:=Nat) (dst:=(some 25)) (x:=Instr.makeSlice 83 (i6 x.N) (i6 x.N)) (fun g_rc=>.slice (some ⟨g_rc,0,none⟩) n n) (pef_b3 x pb v1 n g_kn) (fun g_rc W_=>PilR W_ base x.lb x.cb ({ c with opn:=[] }) L v1∧OwnR W_ base 4 1 (some ⟨g_kn,0,none⟩) n n (flatV boolC (List.replicate n false))∧OwnR W_ base 61 10 (some ⟨g_rc,0,none⟩) n n (flatV RecM.cells (List.replicate n recZ))) (fun g_rc=>[(25,.slice (some ⟨g_rc,0,none⟩) n n),(0,(pt pb 0)),(1,i6 now),(19,(pt pb 0)),(24,i6 x.N)]) (by kernel_rfl) (by kernel_rfl) (fun _=>rfl) (fun wx hm=>?_) (fun g_rc W3 hX3 hm3=>?_)
 ·have hm0_:=(MemOk.bck hm2 hm)
  have hR_:=(hR2.keptT hm.kept (turned_tys hm2) rfl rfl rfl)
  have h_kn_:=(h2_kn.keptT hm.kept (turned_tys hm2) rfl)
  obtain⟨w',h1,h2,h3⟩:=run_newOwn (P:=Tryz.prog) wx 83 61 (.agg #[.bool false,i6 0,i6 0,i6 0,sT ⟨#[]⟩,.bool false,i6 0,i6 0,i6 0,sT ⟨#[]⟩]) 10 n 96 _ (by kernel_rfl) (by kernel_rfl) (made_recs hNc.1 hNc.2) (flatV_rep rfl) (by decide) (by omega)
  rw[<-hN]at h1
  exact⟨_,w',h1,⟨(hR_.keptT (es:=[]) h3 (fun _ h=>h.elim) rfl rfl rfl),(h_kn_.kept h3 (fun _ _ h=>h)),(h2.below (Nat.le_trans hb0 hm0_.kept.size))⟩,hm0_.offA (fun _ h=>h) h3 (fun _ h=>h.elim) (fun _ _ h=>h)⟩
 obtain⟨hR3,h3_kn,h3_rc⟩:=hX3
 refine hgE 18 (dz 10 0x100080000013a08000) [0,1,33,34] [] [(pb,58,1),(pb,0,1)] [.code [1,1,1,1,0],.blk 0] ⟨[(0,(pt pb 0)),(1,i6 now),(33,i6 x.N),(34,i6 0)],[⟨pb,98,true,(PilC.cells { x with nx:=(.func (.func 114) #[(pt pb 0)] #[]),lg:=false,kn:=(.slice (some ⟨g_kn,0,none⟩) n n),rc:=(.slice (some ⟨g_rc,0,none⟩) n n),ak:=v1 })⟩],[],W3.heap.size⟩ ?_
 have hR4:PilR W3 base x.lb x.cb (⟨c.frm,c.last+(0:Int),onesF now x.sn x.ep c.last 0⟩) (L++onesF now x.sn x.ep c.last 0) v1:=by
  have hc_:({ c with opn:=[] }:CM)=⟨c.frm,c.last+(0:Int),onesF now x.sn x.ep c.last 0⟩:=by simp[onesF]
  have hL_:(L:List OneM)=L++onesF now x.sn x.ep c.last 0:=by simp[onesF]
  rw[<-hc_,<-hL_]
  exact hR3
 refine holds_loopW (w:=w) (S':=PilT [141] base x.lb pb x.cb w) (pef_I x c pb base now L n g_kn g_rc) n (by kernel_rfl) (fun W0 hm=>⟨⟨0,v1,_,by omega,by omega,(hR4.keptT hm.kept (turned_tys hm3) rfl rfl rfl),(h3_kn.keptT hm.kept (turned_tys hm3) rfl),(h3_rc.keptT hm.kept (turned_tys hm3) rfl),rfl⟩,(MemOk.bck hm3 hm)⟩) ?_
 rintro m _ W5 ⟨i,v0,z,hh5_0,hh5_1,hR5,h5_kn,h5_rc,rfl⟩ hm5 J hJ
 by_cases h1:i<n
 rotate_left
 ·skip
  refine hgE 10 (dz 2 0) [] [dF (((i:Int):Int)<x.N)] [] [] ⟨[],(pef_b1 x pb n v0 g_kn g_rc),[],W5.heap.size⟩ ?_
  obtain rfl:i=n:=by omega
  refine holds_end [] (show _=some ([],dupR [])by kernel_rfl) ?_
  intro wx hm
  exact⟨g_kn,g_rc,rfl,⟨_,hm.at_ 0 rfl,(hR5.keptT hm.kept (turned_tys hm5) rfl rfl rfl)⟩,(h5_kn.keptT hm.kept (turned_tys hm5) rfl),(h5_rc.keptT hm.kept (turned_tys hm5) rfl),(MemOk.bck hm5 hm).kept⟩
 refine hgS 38 (dz 21 0x13408000000010013508000000010) [0,1,33,34,44,45,46,52] [dT (((i:Int):Int)<x.N),oE (((i:Int)!=x.ou)=true) (bne_iff_ne.2 (by omega))] [(pb,53,1),(pb,52,1)] [.ops [1,1,1,1,0,0,1,1,0,0,1,1,0] [9],.blk 1,.code [1,1,1,1,0,0,1,1,1],.inv J,.blk 0] (pef_b1 x pb n v0 g_kn g_rc) [] W5.heap.size ?_
 refine hcV (w:=w) (S':=(PilT [141] base x.lb pb x.cb w)) (Y:=Value) (fun v6=>.tuple #[]) (fun v6=>(pef_b4 x pb v6 n g_kn g_rc)) (fun v6 W_=>PilR W_ base x.lb x.cb (askC ⟨c.frm,c.last+(i:Int),onesF now x.sn x.ep c.last i⟩ now (i:Int) (fenceQ x.sn x.ep)) ((L++onesF now x.sn x.ep c.last i)++[⟨(i:Int),c.last+(i:Int)+1,fenceQ x.sn x.ep,within14 now,within14 now⟩]) v6∧OwnR W_ base 4 1 (some ⟨g_kn,0,none⟩) n n (flatV boolC (List.replicate n false))∧OwnR W_ base 61 10 (some ⟨g_rc,0,none⟩) n n (flatV RecM.cells (List.replicate n recZ))) (show _=some (55,[(pt pb 0),i6 now,i6 (i:Int),.agg (List.toArray (pef_v1 x))],some 53,[])by kernel_rfl) tI (fun wx hm=>?_) (fun v6 W6 hX6 hm6=>?_)
 ·have hm0_:=(MemOk.bck hm5 hm)
  have hb1:base<=wx.heap.size:=Nat.le_trans hb0 hm0_.kept.size
  have hR_:=(hR5.keptT hm.kept (turned_tys hm5) rfl rfl rfl)
  have h_kn_:=(h5_kn.keptT hm.kept (turned_tys hm5) rfl)
  have h_rc_:=(h5_rc.keptT hm.kept (turned_tys hm5) rfl)
  have hX0:PilX wx base pb ({ x with nx:=(.func (.func 114) #[(pt pb 0)] #[]),lg:=false,kn:=(.slice (some ⟨g_kn,0,none⟩) n n),rc:=(.slice (some ⟨g_rc,0,none⟩) n n),ak:=v0 }) (⟨c.frm,c.last+(i:Int),onesF now x.sn x.ep c.last i⟩) (L++onesF now x.sn x.ep c.last i):=⟨_,hm.at_ 0 rfl,hR_⟩
  refine(pilX_ask now (i:Int) (fenceQ 0 x.ep) hX0 ⟨by simp only[onesF_len]; omega,by simp only; omega,by omega,by omega⟩ (by rw[List.length_append,onesF_len]; omega) hb1).mono fun e w' hq_=>?_
  obtain⟨he_,⟨v_,hB_,hR_2⟩,h3_⟩:=hq_
  have hT_:=hX0.tys (es:=[141])
  exact⟨v_,he_,⟨hR_2,(h_kn_.keptT h3_ hT_ rfl),(h_rc_.keptT h3_ hT_ rfl)⟩,hm0_.turnP h3_ (pilT_up hm0_.kept rfl) hB_ (off_tysP hm hT_ rfl)⟩
 obtain⟨hR6,h6_kn,h6_rc⟩:=hX6
 have hR7:PilR W6 base x.lb x.cb (⟨c.frm,c.last+((i+1):Int),onesF now x.sn x.ep c.last (i+1)⟩) (L++onesF now x.sn x.ep c.last (i+1)) v6:=by
  have hc_:(askC ⟨c.frm,c.last+(i:Int),onesF now x.sn x.ep c.last i⟩ now (i:Int) (fenceQ x.sn x.ep):CM)=⟨c.frm,c.last+((i+1):Int),onesF now x.sn x.ep c.last (i+1)⟩:=by rw[ask_M (within_id hnow),onesF_succ]; simp only[CM.mk.injEq,List.append_cancel_left_eq,List.cons.injEq,OneM.mk.injEq,and_true,true_and]; omega
  have hL_:((L++onesF now x.sn x.ep c.last i)++[⟨(i:Int),c.last+(i:Int)+1,fenceQ x.sn x.ep,within14 now,within14 now⟩]:List OneM)=L++onesF now x.sn x.ep c.last (i+1):=by rw[onesF_succ,within_id hnow,List.append_assoc]; congr 4; omega
  rw[<-hc_,<-hL_]
  exact hR6
 refine hgE 9 (dz 2 2) [0,1,33,34] [n64 (((i:Int)+1))] [] [.inv J,.blk 0] ⟨[(0,(pt pb 0)),(1,i6 now),(33,i6 x.N),(34,i6 ((i:Int)+1))],(pef_b4 x pb v6 n g_kn g_rc),[],W6.heap.size⟩ ?_
 rw[<-cast_succ i]
 intro a_ w9 hf hm
 exact hJ (m-1) _ a_ w9 (by omega) ⟨i+1,v6,_,by omega,by omega,(hR7.keptT hm.kept (turned_tys hm6) rfl rfl rfl),(h6_kn.keptT hm.kept (turned_tys hm6) rfl),(h6_rc.keptT hm.kept (turned_tys hm6) rfl),rfl⟩ hf (MemOk.bck hm6 hm)
section
variable (x:PilC)(pb:Nat)(now:Int)(w:World)(v:Value)(E:Int)(q:AskM)(r:RecM)
def pol_v1:List Value:=[i6 q.kind,i6 q.stripe,i6 q.epoch,i6 q.seq,i6 q.mask,i6 q.node,i6 q.oe,i6 q.os,sT q.block]
def pol_v2:List Value:=[i6 1,i6 E,i6 (-1),.bool r.used,i6 r.fence,i6 r.de,i6 r.ds,sT r.block,.bool r.op,i6 r.ie,i6 r.is,i6 r.mask,sT r.staged]
@[simp] def pol_b1:List Bk:=[⟨pb,98,true,(PilC.cells { x with ak:=v })⟩,⟨w.heap.size,59,true,(pol_v1 q)⟩,⟨w.heap.size+1,63,true,(pol_v2 E r)⟩]
@[simp] def pol_b2:List Bk:=[⟨pb,98,true,(PilC.cells { x with ep:=E,ak:=v })⟩,⟨w.heap.size,59,true,(pol_v1 q)⟩,⟨w.heap.size+1,63,true,(pol_v2 E r)⟩]
@[simp] def pol_b3:List Bk:=[⟨pb,98,true,(PilC.cells { x with ep:=E,ou:=(-1),ak:=v })⟩,⟨w.heap.size,59,true,(pol_v1 q)⟩,⟨w.heap.size+1,63,true,(pol_v2 E r)⟩]
def pol_g2s:List (Nat×Value):=[(0,(pt pb 0)),(1,i6 now),(9,(pt (w.heap.size+1) 0))]
def pol_g2v:List (Option Value):=[some ((pt pb 0)),some ((pt pb 0)),some ((pt (w.heap.size+1) 1)),some (i6 E),some ((pt (w.heap.size+1) 2)),some (i6 (-1)),some ((pt pb 0)),some ((pt pb 44)),some ((pt pb 52)),some (.tuple #[]),some ((pt pb 0)),some ((pt pb 44)),some ((pt pb 53)),some (.tuple #[])]
def pol_g2m:List (List Bk):=[(pol_b1 x pb w v E q r),(pol_b2 x pb w v E q r),(pol_b3 x pb w v E q r)]
def pol_g2t:List (Option Nat):=[none,none,none,none,none,none,none,none,none,some 0,none,none,none,some 1]
theorem pol_g2_9:∀sz,opG Tryz.prog (opsOf (getCode (bodyOf Tryz.f54) [1,0,1,0,0])) ⟨slG (opsOf (getCode (bodyOf Tryz.f54) [1,0,1,0,0])) (pol_g2v pb w E) (slI (opsOf (getCode (bodyOf Tryz.f54) [1,0,1,0,0])) (pol_g2s pb now w) 9) (needsOf (opsOf (getCode (bodyOf Tryz.f54) [1,0,1,0,0])) 9),(pol_b1 x pb w v E q r),[],sz⟩ 9 (oA 0 52 1)=some ([],dupR [(pb,52,1)],undef,(pol_b2 x pb w v E q r),sz):=fun sz=>by kernel_rfl
theorem pol_g2_13:∀sz,opG Tryz.prog (opsOf (getCode (bodyOf Tryz.f54) [1,0,1,0,0])) ⟨slG (opsOf (getCode (bodyOf Tryz.f54) [1,0,1,0,0])) (pol_g2v pb w E) (slI (opsOf (getCode (bodyOf Tryz.f54) [1,0,1,0,0])) (pol_g2s pb now w) 13) (needsOf (opsOf (getCode (bodyOf Tryz.f54) [1,0,1,0,0])) 13),(pol_b2 x pb w v E q r),[],sz⟩ 13 (oA 0 53 1)=some ([],dupR [(pb,53,1)],undef,(pol_b3 x pb w v E q r),sz):=fun sz=>by kernel_rfl
def pol_g2C(c:CM)(pb:Nat)(base:Nat)(now:Int)(w:World)(v:Value)(L:List OneM)(n:Nat)(E:Int)(q:AskM)(r:RecM)(i_:Nat):Prop:=CertG (wpOp Tryz.prog (opsOf (getCode (bodyOf Tryz.f54) [1,0,1,0,0])) (sem Tryz.prog (bodyOf Tryz.f54) (bodyPost Tryz.prog Tryz.f54 (fun e w'=>∃gK gR,e=.returned (.tuple #[])∧PilX w' base pb ({ x with nx:=.func (.func 114) #[(pt pb 0)] #[],lg:=false,ep:=E,ou:=-1,kn:=.slice (some ⟨gK,0,none⟩) n n,rc:=.slice (some ⟨gR,0,none⟩) n n }) (⟨c.frm,c.last+(n:Int),onesF now x.sn E c.last n⟩) (L++onesF now x.sn E c.last n)∧OwnR w' base 4 1 (some ⟨gK,0,none⟩) n n (flatV boolC (List.replicate n false))∧OwnR w' base 61 10 (some ⟨gR,0,none⟩) n n (flatV RecM.cells (List.replicate n recZ))∧Kept (PilT [141] base x.lb pb x.cb w) w w')) [.code [1,0,1,0,1],.blk 0])) [] 40 (opsOf (getCode (bodyOf Tryz.f54) [1,0,1,0,0])) (slI (opsOf (getCode (bodyOf Tryz.f54) [1,0,1,0,0])) (pol_g2s pb now w) i_) (pol_g2t) 2 (MG w (fun y=>y=pb) (pol_g2m x pb w v E q r) [] (w.heap.size+2)) (Turned (pol_b1 x pb w v E q r)) (PvG (pol_g2v pb w E) (fun _ _ _=>False)) i_
end
theorem pilX_onLease(x:PilC)(c:CM)(L:List OneM)(pb:Nat)(base:Nat)(n:Nat)(now fr E:Int)(q:AskM)(r:RecM)(hE:0<E)(hN:x.N=(n:Int))(hNb:3<=x.N∧x.N<=6)(hnow:0<=now∧now<=1099511627776)(hcl:0<=c.last∧c.last+6<1099511627776)(hLl:L.length<=20)(w:World)(hX:PilX w base pb x c L)(hb0:base<=w.heap.size) :
  Calls Tryz.prog 54 #[.pointer (some ⟨pb,0,none⟩),i6 now,i6 fr,.agg #[i6 q.kind,i6 q.stripe,i6 q.epoch,i6 q.seq,i6 q.mask,i6 q.node,i6 q.oe,i6 q.os,sT q.block],.agg #[i6 1,i6 E,i6 (-1),.bool r.used,i6 r.fence,i6 r.de,i6 r.ds,sT r.block,.bool r.op,i6 r.ie,i6 r.is,i6 r.mask,sT r.staged]] w (fun e w'=>∃gK gR,e=.returned (.tuple #[])∧PilX w' base pb ({ x with nx:=.func (.func 114) #[.pointer (some ⟨pb,0,none⟩)] #[],lg:=false,ep:=E,ou:=-1,kn:=.slice (some ⟨gK,0,none⟩) n n,rc:=.slice (some ⟨gR,0,none⟩) n n }) (⟨c.frm,c.last+(n:Int),onesF now x.sn E c.last n⟩) (L++onesF now x.sn E c.last n)∧OwnR w' base 4 1 (some ⟨gK,0,none⟩) n n (flatV boolC (List.replicate n false))∧OwnR w' base 61 10 (some ⟨gR,0,none⟩) n n (flatV RecM.cells (List.replicate n recZ))∧Kept (PilT [141] base x.lb pb x.cb w) w w'):=by
 obtain⟨v,hP,hR⟩:=hX
 have hPT:=blk_ty hP
 refine cH (S:=(fun y=>y=pb)) (n:=40) Tryz.func54 (MemOk.startP hP) ?_
 refine hgE 23 (dz 12 0x1031010129100010028000) [0,1,9] [tT,tT,tT,tT,dT ((E:Int)>0)] [(w.heap.size+1,0,1),(w.heap.size+1,1,1)] [.code [1,0,1,0,0],.code [1,0,1,0,1],.blk 0] ⟨[(0,(pt pb 0)),(1,i6 now),(9,(pt (w.heap.size+1) 0))],(pol_b1 x pb w v E q r),[],w.heap.size+2⟩ ?_
 have pol_g2_c9:pol_g2C x c pb base now w v L n E q r 9:=cert_store (s:=0) (v:=undef) (by kernel_rfl) (by kernel_rfl) (by kernel_rfl) (by kernel_rfl) (by kernel_rfl) (pol_g2_9 x pb now w v E q r) trivial
 have pol_g2_c13:pol_g2C x c pb base now w v L n E q r 13:=cert_store (s:=1) (v:=undef) (by kernel_rfl) (by kernel_rfl) (by kernel_rfl) (by kernel_rfl) (by kernel_rfl) (pol_g2_13 x pb now w v E q r) trivial
 have pol_g2_R:∀e_∈(rZs [0,1,2,4,6,7,8,10,11,12]++[⟨3,(oA 2 1 1),[],[(w.heap.size+1,1,1)]⟩,⟨5,(oA 2 2 1),[],[(w.heap.size+1,2,1)]⟩]:List RegE),pol_g2C x c pb base now w v L n E q r e_.i:=certs_reg (by kernel_rfl) _ (fun sz=>by kernel_rfl)
 refine holds_mixG (vs:=(pol_g2v pb w E)) (ms:=(pol_g2m x pb w v E q r)) (stg:=(pol_g2t)) (J:=2) (sl':=[(0,(pt pb 0)),(1,i6 now)]) (bk':=(pol_b3 x pb w v E q r)) (fun _ _ _=>False) [0,1] (by kernel_rfl) (by kernel_rfl) (by kernel_rfl) (fun _ _ _ _ h=>h.elim) (certs_mix pol_g2_R [9,13] ⟨pol_g2_c9,pol_g2_c13,tI⟩ (by kernel_rfl)) (by kernel_rfl) (by kernel_rfl) (by kernel_rfl) (fun z2 hz2=>?_)
 replace hz2:w.heap.size+2<=z2:=hz2
 refine hgS 6 (dz 2 0) [31,32] [] [] [.ops [1,0,1,0,1] [2],.blk 0] (pol_b3 x pb w v E q r) [] z2 ?_
 refine hcV (w:=w) (S':=(PilT [141] base x.lb pb x.cb w)) (Y:=Value×Nat×Nat) (fun yq=>.tuple #[]) (fun yq=>[⟨pb,98,true,(PilC.cells { x with nx:=(.func (.func 114) #[(pt pb 0)] #[]),lg:=false,ep:=E,ou:=(-1),kn:=(.slice (some ⟨yq.2.1,0,none⟩) n n),rc:=(.slice (some ⟨yq.2.2,0,none⟩) n n),ak:=yq.1 })⟩,⟨w.heap.size,59,true,(pol_v1 q)⟩,⟨w.heap.size+1,63,true,(pol_v2 E r)⟩]) (fun yq W_=>PilR W_ base x.lb x.cb (⟨c.frm,c.last+(n:Int),onesF now x.sn E c.last n⟩) (L++onesF now x.sn E c.last n) yq.1∧OwnR W_ base 4 1 (some ⟨yq.2.1,0,none⟩) n n (flatV boolC (List.replicate n false))∧OwnR W_ base 61 10 (some ⟨yq.2.2,0,none⟩) n n (flatV RecM.cells (List.replicate n recZ))) (show _=some (90,[(pt pb 0),i6 now],some 33,[])by kernel_rfl) tI (fun wx hm=>?_) (fun yq W1 hX1 hm1=>?_)
 ·have hm0_:=(hm.wide (S':=PilT [141] base x.lb pb x.cb w) (fun _ h=>.inl h))
  have hb1:base<=wx.heap.size:=Nat.le_trans hb0 hm0_.kept.size
  have hR_:=(hR.keptT (es:=[98]) hm.kept (fun y hy=>by subst hy; exact⟨98,by simp,hPT⟩) rfl rfl rfl)
  have hX0:PilX wx base pb ({ x with ep:=E,ou:=(-1),ak:=v }) c L:=⟨_,hm.at_ 0 rfl,hR_⟩
  refine(pilX_enterFence ({ x with ep:=E,ou:=(-1),ak:=v }) c L pb base n now hN hNb rfl hnow hcl hLl wx hX0 hb1).mono fun e w' hq_=>?_
  obtain⟨gK,gR,he_,⟨v_,hB_,hR_2⟩,ho_kn,ho_rc,h3_⟩:=hq_
  have hT_:=hX0.tys (es:=[141])
  exact⟨(v_,gK,gR),he_,⟨hR_2,ho_kn,ho_rc⟩,hm0_.turnP h3_ (pilT_up hm0_.kept rfl) hB_ (off_tysP hm hT_ rfl)⟩
 obtain⟨v1,gK,gR⟩:=yq
 obtain⟨hR1,h1_kn,h1_rc⟩:=hX1
 refine hgE 5 [] [] [] [] [] ⟨[],[⟨pb,98,true,(PilC.cells { x with nx:=(.func (.func 114) #[(pt pb 0)] #[]),lg:=false,ep:=E,ou:=(-1),kn:=(.slice (some ⟨gK,0,none⟩) n n),rc:=(.slice (some ⟨gR,0,none⟩) n n),ak:=v1 })⟩,⟨w.heap.size,59,true,(pol_v1 q)⟩,⟨w.heap.size+1,63,true,(pol_v2 E r)⟩],[],W1.heap.size⟩ ?_
 refine holds_end [] (show _=some ([],dupR [])by kernel_rfl) ?_
 intro wx hm
 exact⟨gK,gR,rfl,⟨_,hm.at_ 0 rfl,(hR1.keptT hm.kept (turned_tys hm1) rfl rfl rfl)⟩,(h1_kn.keptT hm.kept (turned_tys hm1) rfl),(h1_rc.keptT hm.kept (turned_tys hm1) rfl),(MemOk.bck hm1 hm).kept⟩
end Go.Proofs.YtcmpkkapkdlfhaaGreat
