import Derived.Test.YtcmpkkapkdlfhaaGreatPil14
namespace Go.Proofs.YtcmpkkapkdlfhaaGreat
open Go.RowKit
set_option maxHeartbeats 4000000
set_option maxRecDepth 100000
section
variable (x:PilC)(pb:Nat)(w:World)(v:Value)(ub:Nat)(ep ou:Int)(q:AskM)(r:RecM)
def pou_v1:List Value:=[i6 q.kind,i6 q.stripe,i6 q.epoch,i6 q.seq,i6 q.mask,i6 q.node,i6 q.oe,i6 q.os,sT q.block]
def pou_v2:List Value:=[i6 1,i6 ep,i6 ou,.bool r.used,i6 r.fence,i6 r.de,i6 r.ds,sT r.block,.bool r.op,i6 r.ie,i6 r.is,i6 r.mask,sT r.staged]
@[simp] def pou_b1:List Bk:=[⟨pb,98,true,(PilC.cells { x with ud:=((pt ub 0)),ak:=v })⟩,⟨w.heap.size,59,true,(pou_v1 q)⟩,⟨w.heap.size+1,63,true,(pou_v2 ep ou r)⟩]
theorem pou_q4(now:Int)(w:World)(v:Value)(i:Nat)(ub:Nat)(fr:Int)(ep:Int)(ou:Int)(q:AskM)(r:RecM)(z2:Nat):Out.prune [0,1,19,22,24,26] (qList Tryz.prog 49 w (fun y=>y=pb) ((opsOf (getCode (bodyOf Tryz.f112) [1,1,0])).toList.take 12) ⟨[(0,(pt pb 0)),(1,i6 now),(2,i6 fr),(8,(pt w.heap.size 0)),(9,(pt (w.heap.size+1) 0))],(pou_b1 x pb w v ub ep ou q r),[],z2⟩ [.op oh0,.op oh0,.op oh0,.op oh0,.op (oA 0 68 1),.op oh0,.op oh0,.call (i6 (i:Int)),.op oh0,.op (oA 1 0 1),.op oh0,.op (oA 2 0 1)])=some ⟨[∀w',MemC w (fun y=>y=pb) (pou_b1 x pb w v ub ep ou q r) [] z2 w'->Calls Tryz.prog 46 #[(pt pb 0),i6 fr] w' (RetK (i6 (i:Int)) w')],dupR [(pb,68,1),(w.heap.size,0,1),(w.heap.size+1,0,1)],⟨[(0,(pt pb 0)),(1,i6 now),(19,(pt ub 0)),(22,i6 (i:Int)),(24,i6 q.kind),(26,i6 1)],(pou_b1 x pb w v ub ep ou q r),[],z2⟩⟩:=by kernel_rfl
end
theorem pilX_onUpdate(x:PilC)(c:CM)(L:List OneM)(pb:Nat)(base:Nat)(E:World->Prop)(hE:∀w w',E w->Kept (fun _=>False) w w'->E w')(U U2:List PartM)(hU2:U2.length=U.length)(hU8:U.length<=6)(ub gP cU i:Nat)(mk te ts:Int)(bg:Bool)(now fr ep ou:Int)(q:AskM)(r:RecM)(hg:3<=x.N∧x.N<=6∧1<=x.S∧x.S<=8)(hs:0<=x.sn∧x.sn<x.S)(hfr:0<=fr∧fr<x.N)(hic:(fr+x.N-x.sn%x.N)%x.N=(i:Int))(hsaid:∀wx,OwnR wx base 178 7 (some ⟨ub,0,none⟩) 1 1 (updC x.sn mk te ts (.slice (some ⟨gP,0,none⟩) U.length cU) bg)->OwnR wx base 180 4 (some ⟨gP,0,none⟩) U.length cU (flatV PartM.cells U)->Calls Tryz.prog 123 #[.pointer (some ⟨ub,0,none⟩),i6 (i:Int),i6 q.kind,i6 1] wx (fun e w'=>e=.returned (.tuple #[])∧OwnR w' base 180 4 (some ⟨gP,0,none⟩) U.length cU (flatV PartM.cells U2)∧Kept (ownS (some ⟨gP,0,none⟩)) wx w'))(hmore:c.opn.length≠0->∀wx,PilX wx base pb ({ x with ud:=(.pointer (some ⟨ub,0,none⟩)) }) c L->OwnR wx base 178 7 (some ⟨ub,0,none⟩) 1 1 (updC x.sn mk te ts (.slice (some ⟨gP,0,none⟩) U.length cU) bg)->OwnR wx base 180 4 (some ⟨gP,0,none⟩) U.length cU (flatV PartM.cells U2)->E wx)(hlast:c.opn.length=0->(stateL U2 2=1∧∀wx,PilX wx base pb ({ x with ud:=(.pointer (some ⟨ub,0,none⟩)) }) c L->OwnR wx base 178 7 (some ⟨ub,0,none⟩) 1 1 (updC x.sn mk te ts (.slice (some ⟨gP,0,none⟩) U.length cU) bg)->OwnR wx base 180 4 (some ⟨gP,0,none⟩) U.length cU (flatV PartM.cells U2)->base<=wx.heap.size->Calls Tryz.prog 89 #[.pointer (some ⟨pb,0,none⟩),i6 now] wx (fun e w'=>e=.returned (.tuple #[])∧E w'∧Kept (PilT [141,178] base x.lb pb x.cb wx) wx w'))∨(stateL U2 2=2∧(0<=x.ed∧x.ed<1099511627776)∧∀wx,PilX wx base pb (({ x with ud:=(.pointer (some ⟨ub,0,none⟩)) }).ended 0 ⟨#[]⟩) { c with opn:=[] } L->(∀base',PartyX 124 141 wx base' x.cb { c with opn:=[] })->E wx))(w:World)(hX:PilX w base pb ({ x with ud:=(.pointer (some ⟨ub,0,none⟩)) }) c L)(h_ud:OwnR w base 178 7 (some ⟨ub,0,none⟩) 1 1 (updC x.sn mk te ts (.slice (some ⟨gP,0,none⟩) U.length cU) bg))(h_pt:OwnR w base 180 4 (some ⟨gP,0,none⟩) U.length cU (flatV PartM.cells U))(hb0:base<=w.heap.size) :
  Calls Tryz.prog 112 #[.pointer (some ⟨pb,0,none⟩),i6 now,i6 fr,.agg #[i6 q.kind,i6 q.stripe,i6 q.epoch,i6 q.seq,i6 q.mask,i6 q.node,i6 q.oe,i6 q.os,sT q.block],.agg #[i6 1,i6 ep,i6 ou,.bool r.used,i6 r.fence,i6 r.de,i6 r.ds,sT r.block,.bool r.op,i6 r.ie,i6 r.is,i6 r.mask,sT r.staged]] w (fun e w'=>e=.returned (.tuple #[])∧E w'∧Kept (PilT [141,178,180] base x.lb pb x.cb w) w w'):=by
 obtain⟨v,hP,hR⟩:=hX
 have hPT:=blk_ty hP
 refine cH (S:=(fun y=>y=pb)) (n:=49) Tryz.func112 (MemOk.startP hP) ?_
 refine hgS 15 (dz 6 0xd002800000) [0,1,2,8,9,10,11,12,13] [] [(w.heap.size+1,0,13)] [.ops [1,0,0] [4],.code [1,0,1],.code [1,1]] (pou_b1 x pb w v ub ep ou q r) [] (w.heap.size+2) ?_
 refine hcq (.bool false) _ _ (some 14) [] tI rfl (fun wx hm=>pil_refusedN pb now fr ep ou r wx) fun z2 hz2=>?_
 refine hgE 7 [oh0] [0,1,2,8,9] [fF] [] [.code [1,1,0],.code [1,1,1]] ⟨[(0,(pt pb 0)),(1,i6 now),(2,i6 fr),(8,(pt w.heap.size 0)),(9,(pt (w.heap.size+1) 0))],(pou_b1 x pb w v ub ep ou q r),[],z2⟩ ?_
 refine holds_draw (f:=1) (ls:=(bA 13 4095)) 12 _ _ (by kernel_rfl) (by kernel_rfl) (by kernel_rfl) (by kernel_rfl) (pou_q4 x pb now w v i ub fr ep ou q r z2) ⟨(fun wx hm=>by rw[<-hic]; exact pil_column ({ x with ud:=((pt ub 0)),ak:=v }) pb fr hg hs hfr wx (hm.2.at_ 0 rfl)),trivial⟩ fun z4 hz4=>?_
 replace hz4:z2<=z4:=hz4
 refine holds_callAnyU (i:=12) (ls':=(bA 13 8191)) (w:=w) (S':=(PilT [141,178,180] base x.lb pb x.cb w)) (Y:=Unit) (fun _=>.tuple #[]) (fun _=>(pou_b1 x pb w v ub ep ou q r)) (fun _ W_=>PilR W_ base x.lb x.cb c L v∧OwnR W_ base 178 7 (some ⟨ub,0,none⟩) 1 1 (updC x.sn mk te ts (.slice (some ⟨gP,0,none⟩) U.length cU) bg)∧OwnR W_ base 180 4 (some ⟨gP,0,none⟩) U.length cU (flatV PartM.cells U2)) (fun _=>[(27,.tuple #[]),(0,(pt pb 0)),(1,i6 now),(19,(pt ub 0)),(22,i6 (i:Int)),(24,i6 q.kind),(26,i6 1)]) (by kernel_rfl) (by kernel_rfl) (show _=some (123,[(pt ub 0),i6 (i:Int),i6 q.kind,i6 1],some 27,[])by kernel_rfl) tI (fun _=>rfl) (fun wx hm=>?_) (fun y_ W1 hX1 hm1=>?_)
 ·have hm0_:=(hm.wide (S':=PilT [141,178,180] base x.lb pb x.cb w) (fun _ h=>.inl h))
  have hb1:base<=wx.heap.size:=Nat.le_trans hb0 hm0_.kept.size
  have hR_:=(hR.keptT (es:=[98]) hm.kept (fun y hy=>by subst hy; exact⟨98,by simp,hPT⟩) rfl rfl rfl)
  have h_ud_:=(h_ud.keptT (es:=[98]) hm.kept (fun y hy=>by subst hy; exact⟨98,by simp,hPT⟩) rfl)
  have h_pt_:=(h_pt.keptT (es:=[98]) hm.kept (fun y hy=>by subst hy; exact⟨98,by simp,hPT⟩) rfl)
  have hX0:PilX wx base pb ({ x with ud:=((pt ub 0)),ak:=v }) c L:=⟨_,hm.at_ 0 rfl,hR_⟩
  refine(hsaid wx h_ud_ h_pt_).mono fun e w' hq_=>?_
  obtain⟨he_,ho_pt,h3_⟩:=hq_
  have hT_:∀y,ownS (some ⟨gP,0,none⟩) y->TysIn [180] wx y:=fun y hy=>⟨180,by simp,h_pt_.ty y hy⟩
  exact⟨(),he_,⟨(hR_.keptT h3_ hT_ rfl rfl rfl),(h_ud_.keptT h3_ hT_ rfl),ho_pt⟩,hm0_.offA (fun _ h=>h) h3_ (fun y hy=>pilT_in hm0_.kept (h_pt_.own y hy).1 (hT_ y hy) rfl) (off_tys hm hT_ rfl)⟩
 obtain⟨hR1,h1_ud,h1_pt⟩:=hX1
 refine holds_done (by kernel_rfl) ?_
 refine hgE 10 (dz 4 270565376) [0,1,31] [] [(pb,2,1)] [.ops [1,1,1,0,0] [4,5],.code [1,1,1,0,1],.code [1,1,1,1]] ⟨[(0,(pt pb 0)),(1,i6 now),(31,(pt x.cb 0))],(pou_b1 x pb w v ub ep ou q r),[],W1.heap.size⟩ ?_
 refine hcq (i6 (c.opn.length:Int)) _ _ (some 32) [] tI rfl (fun wx hm=>open_partyX ((hR1.keptT hm.kept (turned_tys hm1) rfl rfl rfl)).1) fun z7 hz7=>?_
 by_cases hop:c.opn.length=0
 rotate_left
 ·skip
  refine hgS 6 [oh0,oh1] [0,1] [dT (((c.opn.length:Int):Int)>0)] [] [.code [1,1,1,0,1,0],.code [1,1,1,1]] (pou_b1 x pb w v ub ep ou q r) [] z7 ?_
  refine hrt [] [] [] ?_
  intro wx hm
  exact⟨rfl,hmore hop _ ⟨_,hm.at_ 0 rfl,(hR1.keptT hm.kept (turned_tys hm1) rfl rfl rfl)⟩ (h1_ud.keptT hm.kept (turned_tys hm1) rfl) (h1_pt.keptT hm.kept (turned_tys hm1) rfl),(MemOk.bck hm1 hm).kept⟩
 refine hgE 14 (dz 7 0x14408000000) [0,1,38] [dF (((c.opn.length:Int):Int)>0)] [(pb,68,1)] [.ops [1,1,1,1,0] [5],.code [1,1,1,1,1]] ⟨[(0,(pt pb 0)),(1,i6 now),(38,(pt ub 0))],(pou_b1 x pb w v ub ep ou q r),[],z7⟩ ?_
 refine hcq (i6 (stateL U2 2)) _ _ (some 39) [] tI rfl (fun wx hm=>state_upd x.sn mk te ts U2 (by omega) gP cU ub base bg wx (own_blk (hU2▸(h1_ud.keptT hm.kept (turned_tys hm1) rfl))) (hU2▸(h1_pt.keptT hm.kept (turned_tys hm1) rfl))) fun z11 hz11=>?_
 rcases hlast hop with⟨hst,hq⟩|⟨hst,hed,hq⟩
 ·rw[hst]
  change Holds _ _ _ _ W1 (Turned (pou_b1 x pb w v ub ep ou q r)) _ [.ops [1,1,1,1,0] [],.code [1,1,1,1,1]] ⟨[(39,i6 1),(0,(pt pb 0)),(1,i6 now),(38,(pt ub 0))],(pou_b1 x pb w v ub ep ou q r),[],z11⟩
  refine hgS 14 (dz 5 256) [42,43] [tT] [] [.ops [1,1,1,1,1,0,1,0] [2],.blk 0] (pou_b1 x pb w v ub ep ou q r) [] z11 ?_
  refine hcV (w:=w) (S':=(PilT [141,178,180] base x.lb pb x.cb w)) (Y:=Unit) (fun _=>.tuple #[]) (fun _=>[]) (fun _ W_=>E W_) (show _=some (89,[(pt pb 0),i6 now],some 44,[])by kernel_rfl) tI (fun wx hm=>?_) (fun y_ W2 hE2 hm2=>?_)
  ·have hm0_:=(MemOk.bck hm1 hm)
   have hb1:base<=wx.heap.size:=Nat.le_trans hb0 hm0_.kept.size
   have hR_:=(hR1.keptT hm.kept (turned_tys hm1) rfl rfl rfl)
   have h_ud_:=(h1_ud.keptT hm.kept (turned_tys hm1) rfl)
   have h_pt_:=(h1_pt.keptT hm.kept (turned_tys hm1) rfl)
   have hX0:PilX wx base pb ({ x with ud:=((pt ub 0)),ak:=v }) c L:=⟨_,hm.at_ 0 rfl,hR_⟩
   refine(hq wx hX0 h_ud_ h_pt_ hb1).mono fun e w' hq_=>?_
   obtain⟨he_,hE_,h3_⟩:=hq_
   exact⟨(),he_,hE_,hm0_.none_.offA (fun _ h=>h) h3_ (pilT_up hm0_.kept rfl) (fun b hb=>by cases hb)⟩
  refine hgE 5 [] [] [] [] [] ⟨[],[],[],W2.heap.size⟩ ?_
  refine holds_end [] (show _=some ([],dupR [])by kernel_rfl) ?_
  intro wx hm
  exact⟨rfl,hE _ _ hE2 (hm.kept.mono (fun k _ h=>by obtain⟨b,hb,_⟩:=h; cases hb)),(MemOk.bck hm2 hm).kept⟩
 ·rw[hst]
  change Holds _ _ _ _ W1 (Turned (pou_b1 x pb w v ub ep ou q r)) _ [.ops [1,1,1,1,0] [],.code [1,1,1,1,1]] ⟨[(39,i6 2),(0,(pt pb 0)),(1,i6 now),(38,(pt ub 0))],(pou_b1 x pb w v ub ep ou q r),[],z11⟩
  refine hgS 19 (dz 7 1048576) [47] [fF,tT] [] [.ops [1,1,1,1,1,0,1,1,1,0] [1],.blk 0] (pou_b1 x pb w v ub ep ou q r) [] z11 ?_
  refine hcV (w:=w) (S':=(PilT [141,178,180] base x.lb pb x.cb w)) (Y:=Unit) (fun _=>.tuple #[]) (fun _=>[]) (fun _ W_=>E W_) (show _=some (47,[(pt pb 0),i6 0,sT ⟨#[]⟩],some 48,[])by kernel_rfl) tI (fun wx hm=>?_) (fun y_ W3 hE3 hm3=>?_)
  ·have hm0_:=(MemOk.bck hm1 hm)
   have hb1:base<=wx.heap.size:=Nat.le_trans hb0 hm0_.kept.size
   have hR_:=(hR1.keptT hm.kept (turned_tys hm1) rfl rfl rfl)
   have h_ud_:=(h1_ud.keptT hm.kept (turned_tys hm1) rfl)
   have h_pt_:=(h1_pt.keptT hm.kept (turned_tys hm1) rfl)
   have hX0:PilX wx base pb ({ x with ud:=((pt ub 0)),ak:=v }) c L:=⟨_,hm.at_ 0 rfl,hR_⟩
   refine(pilX_end ({ x with ud:=((pt ub 0)),ak:=v }) c L pb base 0 ⟨#[]⟩ hed wx hX0).mono fun e w' hq_=>?_
   obtain⟨he_,hX_,hD_,h3_⟩:=hq_
   exact⟨(),he_,hq _ hX_ hD_,hm0_.none_.offA (fun _ h=>h) h3_ (pilT_up hm0_.kept rfl) (fun b hb=>by cases hb)⟩
  refine hgE 5 [] [] [] [] [] ⟨[],[],[],W3.heap.size⟩ ?_
  refine holds_end [] (show _=some ([],dupR [])by kernel_rfl) ?_
  intro wx hm
  exact⟨rfl,hE _ _ hE3 (hm.kept.mono (fun k _ h=>by obtain⟨b,hb,_⟩:=h; cases hb)),(MemOk.bck hm3 hm).kept⟩
section
variable (x:PilC)(pb:Nat)(now:Int)(w:World)(v:Value)(n i gK gR:Nat)(ep ou:Int)(q:AskM)(r:RecM)(_:Unit)
def pof_v1:List Value:=[.bool true,i6 r.fence,i6 r.de,i6 r.ds,sT r.block,.bool r.op,i6 r.ie,i6 r.is,i6 r.mask,sT r.staged]
def pof_v2:List Value:=[i6 q.kind,i6 q.stripe,i6 q.epoch,i6 q.seq,i6 q.mask,i6 q.node,i6 q.oe,i6 q.os,sT q.block]
def pof_v3:List Value:=[i6 1,i6 ep,i6 ou,.bool true,i6 r.fence,i6 r.de,i6 r.ds,sT r.block,.bool r.op,i6 r.ie,i6 r.is,i6 r.mask,sT r.staged]
@[simp] def pof_b1:List Bk:=[⟨pb,98,true,(PilC.cells { x with db:=false,kn:=(.slice (some ⟨gK,0,none⟩) n n),rc:=(.slice (some ⟨gR,0,none⟩) n n),ak:=v })⟩,⟨w.heap.size,59,true,(pof_v2 q)⟩,⟨w.heap.size+1,63,true,(pof_v3 ep ou r)⟩]
def pof_y6s:List (Nat×Value):=[(0,(pt pb 0)),(1,i6 now),(9,(pt (w.heap.size+1) 0)),(10,i6 (i:Int))]
def pof_y6v(_:Unit):List (Option Value):=[some ((pt pb 0)),some ((pt pb 0)),some ((pt pb 44)),some ((pt pb 57)),some (.slice (some ⟨gK,0,none⟩) n n),some (i6 (i:Int)),some ((pt pb 0)),some ((pt pb 0)),some ((pt pb 44)),some ((pt pb 58)),some (.slice (some ⟨gR,0,none⟩) n n),some (i6 (i:Int)),some ((pt (w.heap.size+1) 3)),some (.agg (List.toArray (pof_v1 r))),some (.pointer (some ⟨gK,0+i*1,none⟩)),some (.tuple #[]),some (.pointer (some ⟨gR,0+i*10,none⟩)),some (.tuple #[])]
def pof_y6F(_:Unit)(k:Nat):Bool:=([true,true,true,true,true,true,true,true,true,true,true,true,true,true,true,true,true,true]:List Bool)[k]?.getD true
def pof_y6m(_:Unit):List (List Bk):=[(pof_b1 x pb w v n gK gR ep ou q r),(pof_b1 x pb w v n gK gR ep ou q r),(pof_b1 x pb w v n gK gR ep ou q r)]
abbrev pof_y6X(x:PilC)(c:CM)(base:Nat)(v:Value)(L:List OneM)(n:Nat)(i:Nat)(gK:Nat)(gR:Nat)(KS:List Bool)(RS:List RecM)(r:RecM)(c_:Nat)(_:Unit)(W_:World):Prop:=match c_ with|0=>PilR W_ base x.lb x.cb c L v∧OwnR W_ base 4 1 (some ⟨gK,0,none⟩) n n (flatV boolC KS)∧OwnR W_ base 61 10 (some ⟨gR,0,none⟩) n n (flatV RecM.cells RS)|1=>PilR W_ base x.lb x.cb c L v∧OwnR W_ base 4 1 (some ⟨gK,0,none⟩) n n (flatV boolC (KS.set i true))∧OwnR W_ base 61 10 (some ⟨gR,0,none⟩) n n (flatV RecM.cells RS)|2=>PilR W_ base x.lb x.cb c L v∧OwnR W_ base 4 1 (some ⟨gK,0,none⟩) n n (flatV boolC (KS.set i true))∧OwnR W_ base 61 10 (some ⟨gR,0,none⟩) n n (flatV RecM.cells (RS.set i { r with used:=true }))|_=>True
def pof_y6C(c:CM)(pb:Nat)(base:Nat)(now:Int)(w:World)(v:Value)(L:List OneM)(n:Nat)(i:Nat)(E:World->Prop)(gK:Nat)(gR:Nat)(KS:List Bool)(RS:List RecM)(ep:Int)(ou:Int)(q:AskM)(r:RecM)(z4:Nat)(i_:Nat):Prop:=cY Tryz.prog Tryz.f114 [1,1,1,0] 44 [] (bodyPost Tryz.prog Tryz.f114 (fun e w'=>e=.returned (.tuple #[])∧E w'∧Kept (PilT [141,4,61] base x.lb pb x.cb w) w w')) [.code [1,1,1,1]] (pof_y6s pb now w i) [none,none,none,none,none,none,none,none,none,none,none,none,none,none,none,some 0,none,some 1] 2 (pof_y6v pb w n i gK gR r) pof_y6F w (PilT [141,4,61] base x.lb pb x.cb w) (pof_y6m x pb w v n gK gR ep ou q r) z4 (pof_y6X x c base v L n i gK gR KS RS r) i_
end
theorem pilX_onFence(x:PilC)(c:CM)(L:List OneM)(pb:Nat)(base:Nat)(E:World->Prop)(hE:∀w w',E w->Kept (fun _=>False) w w'->E w')(n i:Nat)(KS:List Bool)(RS:List RecM)(gK gR:Nat)(now fr ep ou:Int)(q:AskM)(r:RecM)(hN:x.N=(n:Int))(hg:3<=x.N∧x.N<=6∧1<=x.S∧x.S<=8)(hs:0<=x.sn∧x.sn<x.S)(hin:i<n)(hfr:0<=fr∧fr<x.N)(hic:(fr+x.N-x.sn%x.N)%x.N=(i:Int))(hK:KS.length=n)(hRl:RS.length=n)(hmore:c.opn.length≠0->∀wx,PilX wx base pb ({ x with db:=false,kn:=(.slice (some ⟨gK,0,none⟩) n n),rc:=(.slice (some ⟨gR,0,none⟩) n n) }) c L->OwnR wx base 4 1 (some ⟨gK,0,none⟩) n n (flatV boolC (KS.set i true))->OwnR wx base 61 10 (some ⟨gR,0,none⟩) n n (flatV RecM.cells (RS.set i { r with used:=true }))->E wx)(hlast:c.opn.length=0->(KS.set i true)=List.replicate n true∧(∀r'∈(RS.set i { r with used:=true }),r'.op=false)∧∀wx,PilX wx base pb ({ x with lv:=lvS x.lv (Int.toNat x.sn) ⟨true,x.ep,x.ou,0,x.en⟩,nx:=.nilFunc,lg:=false,db:=false,stl:=false,kn:=.slice (some ⟨gK,0,none⟩) n n,rc:=.slice (some ⟨gR,0,none⟩) n n }) ({ c with opn:=[] }) L->base<=wx.heap.size->Calls Tryz.prog 32 #[.pointer (some ⟨pb,0,none⟩),i6 now] wx (fun e w'=>e=.returned (.tuple #[])∧E w'∧Kept (PilT [141] base x.lb pb x.cb wx) wx w'))(w:World)(hX:PilX w base pb ({ x with db:=false,kn:=(.slice (some ⟨gK,0,none⟩) n n),rc:=(.slice (some ⟨gR,0,none⟩) n n) }) c L)(h_kn:OwnR w base 4 1 (some ⟨gK,0,none⟩) n n (flatV boolC KS))(h_rc:OwnR w base 61 10 (some ⟨gR,0,none⟩) n n (flatV RecM.cells RS))(hb0:base<=w.heap.size) :
  Calls Tryz.prog 114 #[.pointer (some ⟨pb,0,none⟩),i6 now,i6 fr,.agg #[i6 q.kind,i6 q.stripe,i6 q.epoch,i6 q.seq,i6 q.mask,i6 q.node,i6 q.oe,i6 q.os,sT q.block],.agg #[i6 1,i6 ep,i6 ou,.bool true,i6 r.fence,i6 r.de,i6 r.ds,sT r.block,.bool r.op,i6 r.ie,i6 r.is,i6 r.mask,sT r.staged]] w (fun e w'=>e=.returned (.tuple #[])∧E w'∧Kept (PilT [141,4,61] base x.lb pb x.cb w) w w'):=by
 obtain⟨v,hP,hR⟩:=hX
 have hPT:=blk_ty hP
 refine cH (S:=(fun y=>y=pb)) (n:=44) Tryz.func114 (MemOk.startP hP) ?_
 have hKn:=flatV_len (f:=boolC) (z:=1) (fun _=>rfl) KS
 have hRn:=flatV_len (f:=RecM.cells) (z:=10) (fun _=>rfl) RS
 refine hgS 15 (dz 6 0xd002800000) [0,1,2,9,11,12,13,14] [] [(w.heap.size+1,0,13)] [.ops [1,0,0] [4],.code [1,0,1],.code [1,1]] (pof_b1 x pb w v n gK gR ep ou q r) [] (w.heap.size+2) ?_
 refine hcq (.bool false) _ _ (some 15) [] tI rfl (fun wx hm=>pil_refusedU pb now fr ep ou r wx) fun z2 hz2=>?_
 refine hgS 10 (dz 3 0) [0,1,9,16,17] [fF] [] [.ops [1,1,0] [2,3],.code [1,1,1]] (pof_b1 x pb w v n gK gR ep ou q r) [] z2 ?_
 refine hcq (i6 (i:Int)) 46 [(pt pb 0),i6 fr] (some 18) [] tI rfl (fun wx hm=>by rw[<-hic]; exact pil_column ({ x with db:=false,kn:=(.slice (some ⟨gK,0,none⟩) n n),rc:=(.slice (some ⟨gR,0,none⟩) n n),ak:=v }) pb fr hg hs hfr wx (hm.at_ 0 rfl)) fun z4 hz4=>?_
 refine hgE 6 [oh0] [0,1,9,10] [] [] [.code [1,1,1,0],.code [1,1,1,1]] ⟨[(0,(pt pb 0)),(1,i6 now),(9,(pt (w.heap.size+1) 0)),(10,i6 (i:Int))],(pof_b1 x pb w v n gK gR ep ou q r),[],z4⟩ ?_
 have pof_y6_X:StayY w (PilT [141,4,61] base x.lb pb x.cb w) (pof_y6m x pb w v n gK gR ep ou q r) (pof_y6X x c base v L n i gK gR KS RS r):=by
  intro c_ d wx w' bk hb hm hx hk
  match c_,hb,hx with
  |0,hb,hx=>
   obtain rfl:=Option.some.inj hb
   exact⟨(hx.1.keptT hk (turned_tys hm) rfl rfl rfl),(hx.2.1.keptT hk (turned_tys hm) rfl),(hx.2.2.keptT hk (turned_tys hm) rfl)⟩
  |1,hb,hx=>
   obtain rfl:=Option.some.inj hb
   exact⟨(hx.1.keptT hk (turned_tys hm) rfl rfl rfl),(hx.2.1.keptT hk (turned_tys hm) rfl),(hx.2.2.keptT hk (turned_tys hm) rfl)⟩
  |2,hb,hx=>
   obtain rfl:=Option.some.inj hb
   exact⟨(hx.1.keptT hk (turned_tys hm) rfl rfl rfl),(hx.2.1.keptT hk (turned_tys hm) rfl),(hx.2.2.keptT hk (turned_tys hm) rfl)⟩
  |c_+3,hb,hx=>exact trivial
 have pof_y6_c15:pof_y6C x c pb base now w v L n i E gK gR KS RS ep ou q r z4 15:=cyS (s:=0) (x:=fun d=>Instr.storeAt 4 (.pointer (some ⟨gK,0+i*1,none⟩)) (.bool true)) (fun(d:Unit)(_:Unit)=>d) (fun d wx bk hb hm hx hcame=>by
  obtain rfl:=Option.some.inj hb
  obtain⟨w',h1,h2,h3,h4⟩:=own_storeG (P:=Tryz.prog) (t:=4) (v:=.bool true) (0+i*1) 1 hx.2.1 rfl (by omega) (by kernel_rfl) (ones_all rfl)
  rw[show(0+i*1)=i*1 by omega,show(.bool true:Value).cells.toList=boolC true from rfl,flatV_put (f:=boolC) (z:=1) (fun _=>rfl) (by omega)]at h2
  exact⟨(),w',h1,rfl,⟨(hx.1.keptT h3 (own_tys hx.2.1) rfl rfl rfl),h2,(hx.2.2.keptT h3 (own_tys hx.2.1) rfl)⟩,hm.offA (fun _ h=>h) h3 (fun y hy=>.inl (.inr (.inr (.inl ⟨(h_kn.own y hy).1,4,by decide,h_kn.ty y hy⟩)))) (off_tys hm (own_tys hx.2.1) rfl),Nat.le_of_eq h4.symm⟩)
 have pof_y6_c17:pof_y6C x c pb base now w v L n i E gK gR KS RS ep ou q r z4 17:=cyS (s:=1) (x:=fun d=>Instr.storeAt 61 (.pointer (some ⟨gR,0+i*10,none⟩)) (.agg (List.toArray (pof_v1 r)))) (fun(d:Unit)(_:Unit)=>d) (fun d wx bk hb hm hx hcame=>by
  obtain rfl:=Option.some.inj hb
  obtain⟨w',h1,h2,h3,h4⟩:=own_storeG (P:=Tryz.prog) (t:=61) (v:=.agg (List.toArray (pof_v1 r))) (0+i*10) 10 hx.2.2 rfl (by omega) (by kernel_rfl) (ones_all rfl)
  rw[show(0+i*10)=i*10 by omega,show(.agg (List.toArray (pof_v1 r)):Value).cells.toList=RecM.cells { r with used:=true }from rfl,flatV_put (f:=RecM.cells) (z:=10) (fun _=>rfl) (by omega)]at h2
  exact⟨(),w',h1,rfl,⟨(hx.1.keptT h3 (own_tys hx.2.2) rfl rfl rfl),(hx.2.1.keptT h3 (own_tys hx.2.2) rfl),h2⟩,hm.offA (fun _ h=>h) h3 (fun y hy=>.inl (.inr (.inr (.inl ⟨(h_rc.own y hy).1,61,by decide,h_rc.ty y hy⟩)))) (off_tys hm (own_tys hx.2.2) rfl),Nat.le_of_eq h4.symm⟩)
 have pof_y6_R:∀e_∈(rZsY 2 [0,1,2,3,5,6,7,8,9,11,12]++[rY 4 2 0 57 1 pb,rY 10 2 0 58 1 pb,⟨13,2,(oA 2 3 10),fun _=>[],fun _=>[(w.heap.size+1,3,10)]⟩,⟨14,2,oh2,fun _=>[oE ((0:Int)<=(i:Int)∧(i:Int)<((n:Nat):Int))],fun _=>[]⟩,⟨16,2,oh2,fun _=>[oE ((0:Int)<=(i:Int)∧(i:Int)<((n:Nat):Int))],fun _=>[]⟩]:List (RegY (Unit))),pof_y6C x c pb base now w v L n i E gK gR KS RS ep ou q r z4 e_.i:=certsY_reg _ pof_y6_X (fun d=>by kernel_rfl) (by kernel_rfl) (fun d sz=>by kernel_rfl)
 have pof_y6_A:∀i_,i_<18->pof_y6C x c pb base now w v L n i E gK gR KS RS ep ou q r z4 i_:=allY (l:=[15,17]) (by kernel_rfl) pof_y6_R ⟨pof_y6_c15,pof_y6_c17,trivial⟩
 refine holds_mixY (Δ:=Unit) (PilT [141,4,61] base x.lb pb x.cb w) (pof_y6v pb w n i gK gR r) pof_y6F (pof_y6m x pb w v n gK gR ep ou q r) (pof_y6X x c base v L n i gK gR KS RS r) [0,1] (fun d=>[(0,(pt pb 0)),(1,i6 now)]) (fun d=>(pof_b1 x pb w v n gK gR ep ou q r)) () (fun _ h=>.inl h) (by kernel_rfl) (by kernel_rfl) (by kernel_rfl) (fun wx hm=>⟨(hR.keptT (es:=[98]) hm.kept.drew (fun y hy=>by subst hy; exact⟨98,by simp,hPT⟩) rfl rfl rfl),(h_kn.keptT (es:=[98]) hm.kept.drew (fun y hy=>by subst hy; exact⟨98,by simp,hPT⟩) rfl),(h_rc.keptT (es:=[98]) hm.kept.drew (fun y hy=>by subst hy; exact⟨98,by simp,hPT⟩) rfl)⟩) (by kernel_rfl) pof_y6_A (fun d=>by kernel_rfl) (fun d=>by kernel_rfl) (fun d W1 hfin hX1 hm01 hm1=>?_)
 obtain⟨hR1,h1_kn,h1_rc⟩:=hX1
 replace hR1:PilR W1 base x.lb x.cb c L v:=hR1
 replace h1_kn:OwnR W1 base 4 1 (some ⟨gK,0,none⟩) n n (flatV boolC (KS.set i true)):=h1_kn
 replace h1_rc:OwnR W1 base 61 10 (some ⟨gR,0,none⟩) n n (flatV RecM.cells (RS.set i { r with used:=true })):=h1_rc
 replace hm1:MemOk w (PilT [141,4,61] base x.lb pb x.cb w) (pof_b1 x pb w v n gK gR ep ou q r) [] W1.heap.size W1:=hm1
 change Holds _ _ _ _ W1 (Turned (pof_b1 x pb w v n gK gR ep ou q r)) _ [.code [1,1,1,1]] ⟨[(0,(pt pb 0)),(1,i6 now)],(pof_b1 x pb w v n gK gR ep ou q r),[],W1.heap.size⟩
 refine hgE 9 (dz 4 270565376) [0,1,38] [] [(pb,2,1)] [.ops [1,1,1,1,0] [4,5],.code [1,1,1,1,1]] ⟨[(0,(pt pb 0)),(1,i6 now),(38,(pt x.cb 0))],(pof_b1 x pb w v n gK gR ep ou q r),[],W1.heap.size⟩ ?_
 refine hcq (i6 (c.opn.length:Int)) _ _ (some 39) [] tI rfl (fun wx hm=>open_partyX ((hR1.keptT hm.kept (turned_tys hm1) rfl rfl rfl)).1) fun z8 hz8=>?_
 by_cases hop:c.opn.length=0
 rotate_left
 ·skip
  refine hgE 7 (dz 2 0) [] [oE (((c.opn.length:Int)==0)=false) (decide_eq_false (by omega))] [] [] ⟨[],(pof_b1 x pb w v n gK gR ep ou q r),[],z8⟩ ?_
  refine holds_end [] (show _=some ([],dupR [])by kernel_rfl) ?_
  intro wx hm
  exact⟨rfl,hmore hop _ ⟨_,hm.at_ 0 rfl,(hR1.keptT hm.kept (turned_tys hm1) rfl rfl rfl)⟩ (h1_kn.keptT hm.kept (turned_tys hm1) rfl) (h1_rc.keptT hm.kept (turned_tys hm1) rfl),(MemOk.bck hm1 hm).kept⟩
 refine hgS 9 (dz 4 16) [41,42] [oE (((c.opn.length:Int)==0)=true) (decide_eq_true (by omega))] [] [.ops [1,1,1,1,1,0] [2]] (pof_b1 x pb w v n gK gR ep ou q r) [] z8 ?_
 refine hcV (w:=w) (S':=(PilT [141,4,61] base x.lb pb x.cb w)) (Y:=Unit) (fun _=>.tuple #[]) (fun _=>[]) (fun _ W_=>E W_) (show _=some (126,[(pt pb 0),i6 now],some 43,[])by kernel_rfl) tI (fun wx hm=>?_) (fun y_ W2 hE2 hm2=>?_)
 ·have hm0_:=(MemOk.bck hm1 hm)
  have hb1:base<=wx.heap.size:=Nat.le_trans hb0 hm0_.kept.size
  have hR_:=(hR1.keptT hm.kept (turned_tys hm1) rfl rfl rfl)
  have h_kn_:=(h1_kn.keptT hm.kept (turned_tys hm1) rfl)
  have h_rc_:=(h1_rc.keptT hm.kept (turned_tys hm1) rfl)
  have hX0:PilX wx base pb ({ x with db:=false,kn:=(.slice (some ⟨gK,0,none⟩) n n),rc:=(.slice (some ⟨gR,0,none⟩) n n),ak:=v }) c L:=⟨_,hm.at_ 0 rfl,hR_⟩
  refine(pilX_enterSettle { x with db:=false } c L pb base E hE n (RS.set i { r with used:=true }) gK gR now (by omega) (by simp[hRl]) (hlast hop).2.1 (fun wy hXy hby=>pilX_ready { x with db:=false,nx:=.func (.func 140) #[(pt pb 0)] #[],lg:=false,stl:=false,kn:=.slice (some ⟨gK,0,none⟩) n n,rc:=.slice (some ⟨gR,0,none⟩) n n } { c with opn:=[] } L pb base E hE now hg hs (hlast hop).2.2 wy hXy hby) wx hX0 (by rw[<-(hlast hop).1]; exact h_kn_) h_rc_ hb1).mono fun e w' hq_=>?_
  obtain⟨he_,hE_,h3_⟩:=hq_
  exact⟨(),he_,hE_,hm0_.none_.offA (fun _ h=>h) h3_ (pilT_up hm0_.kept rfl) (fun b hb=>by cases hb)⟩
 refine hgE 4 [] [] [] [] [] ⟨[],[],[],W2.heap.size⟩ ?_
 refine holds_end [] (show _=some ([],dupR [])by kernel_rfl) ?_
 intro wx hm
 exact⟨rfl,hE _ _ hE2 (hm.kept.mono (fun k _ h=>by obtain⟨b,hb,_⟩:=h; cases hb)),(MemOk.bck hm2 hm).kept⟩
end Go.Proofs.YtcmpkkapkdlfhaaGreat
