import Derived.Test.YtcmpkkapkdlfhaaGreatPil11
namespace Go.Proofs.YtcmpkkapkdlfhaaGreat
open Go.RowKit
set_option maxHeartbeats 4000000
set_option maxRecDepth 100000
section
variable (x:PilC)(pb:Nat)(w:World)(v1:Value)(gR:Nat)(s0 ep ou:Int)(q:AskM)(r:RecM)(b2:Nat->ByteArray)(_:Option Addr×Nat)
def prr_v1:List Value:=[i6 q.kind,i6 q.stripe,i6 q.epoch,i6 q.seq,i6 q.mask,i6 q.node,i6 q.oe,i6 q.os,sT q.block]
def prr_v2:List Value:=[i6 s0,i6 ep,i6 ou,.bool r.used,i6 r.fence,i6 r.de,i6 r.ds,sT r.block,.bool r.op,i6 r.ie,i6 r.is,i6 r.mask,sT r.staged]
@[simp] def prr_b1:List Bk:=[⟨pb,98,true,(PilC.cells { x with bl:=b2,kd:=1,ou:=(-1),rd:=(.slice (some ⟨gR,0,none⟩) 1 1),ak:=v1 })⟩,⟨w.heap.size,59,true,(prr_v1 q)⟩,⟨w.heap.size+1,63,true,(prr_v2 s0 ep ou r)⟩]
def prr_y6s:List (Nat×Value):=[(0,(pt pb 0)),(10,(pt pb 44))]
def prr_y6v(d:Option Addr×Nat):List (Option Value):=[some ((pt pb 0)),some ((pt pb 0)),some ((pt pb 0)),some (.agg #[i6 x.N,i6 x.S]),some ((pt pb 44)),some ((pt pb 44)),some ((pt pb 48)),some (i6 x.cn),some ((pt pb 0)),some ((pt pb 44)),some ((pt pb 44)),some ((pt pb 53)),some (i6 (-1)),some (i6 (-1)),some ((pt pb 0)),some (.slice d.1 1 d.2),some (.tuple #[sT (b2 (Int.toNat x.cn)),i6 0]),some (.tuple #[sT (b2 (Int.toNat x.cn)),i6 0]),some (sT (b2 (Int.toNat x.cn))),some (i6 0),some (sT (b2 (Int.toNat x.cn))),some (i6 0)]
def prr_y6F(_:Option Addr×Nat)(k:Nat):Bool:=([true,true,true,true,true,true,true,true,true,true,true,true,true,true,true,true,true,true,true,true,true,true]:List Bool)[k]?.getD true
def prr_y6m(_:Option Addr×Nat):List (List Bk):=[(prr_b1 x pb w v1 gR s0 ep ou q r b2),(prr_b1 x pb w v1 gR s0 ep ou q r b2),(prr_b1 x pb w v1 gR s0 ep ou q r b2)]
abbrev prr_y6X(x:PilC)(c:CM)(base:Nat)(v1:Value)(L:List OneM)(gR:Nat)(b2:Nat->ByteArray)(c_:Nat)(d:Option Addr×Nat)(W_:World):Prop:=match c_ with|0=>PilR W_ base x.lb x.cb c L v1∧OwnR W_ base 3 1 (some ⟨gR,0,none⟩) 1 1 (flatV intC [x.cn])|1=>PilR W_ base x.lb x.cb c L v1∧OwnR W_ base 3 1 (some ⟨gR,0,none⟩) 1 1 (flatV intC [x.cn])∧OwnR W_ base 9 1 d.1 1 d.2 (strsV [b2 (Int.toNat x.cn)])|2=>PilR W_ base x.lb x.cb c L v1∧OwnR W_ base 3 1 (some ⟨gR,0,none⟩) 1 1 (flatV intC [x.cn])∧OwnR W_ base 9 1 d.1 1 d.2 (strsV [b2 (Int.toNat x.cn)])|_=>True
def prr_y6C(c:CM)(pb:Nat)(base:Nat)(w:World)(W1:World)(v1:Value)(L:List OneM)(E:World->Prop)(gR:Nat)(s0:Int)(ep:Int)(ou:Int)(q:AskM)(r:RecM)(b2:Nat->ByteArray)(i_:Nat):Prop:=cY Tryz.prog Tryz.f84 [1,1,1,1,0] 55 [] (bodyPost Tryz.prog Tryz.f84 (fun e w'=>e=.returned (.tuple #[])∧E w'∧Kept (PilT [141] base x.lb pb x.cb w) w w')) [.code [1,1,1,1,1]] (prr_y6s pb) [none,none,none,none,none,none,none,none,none,none,none,none,none,none,none,some 0,some 1,none,none,none,none,none] 2 (prr_y6v x pb b2) prr_y6F W1 (fun y=>(Turned (prr_b1 x pb w v1 gR s0 ep ou q r b2)) y∨(PilT [141] base x.lb pb x.cb W1) y) (prr_y6m x pb w v1 gR s0 ep ou q r b2) W1.heap.size (prr_y6X x c base v1 L gR b2) i_
end
theorem pilX_onReadR(x:PilC)(c:CM)(L:List OneM)(pb:Nat)(base:Nat)(E:World->Prop)(hE:∀w w',E w->Kept (fun _=>False) w w'->E w')(b2:Nat->ByteArray)(gR:Nat)(now fr s0 ep ou:Int)(q:AskM)(r:RecM)(hg:3<=x.N∧x.N<=6∧1<=x.S∧x.S<=8)(hs:0<=x.sn∧x.sn<x.S)(hcn:0<=x.cn∧x.cn<x.N-1)(hb16:(b2 (Int.toNat x.cn)).size=16)(hed:0<=x.ed∧x.ed<1099511627776)(htk:∀wx,PilX wx base pb ({ x with kd:=1,ou:=(-1),rd:=(.slice (some ⟨gR,0,none⟩) 1 1) }) c L->Calls Tryz.prog 105 #[.pointer (some ⟨pb,0,none⟩),i6 now,i6 fr,.agg #[i6 q.kind,i6 q.stripe,i6 q.epoch,i6 q.seq,i6 q.mask,i6 q.node,i6 q.oe,i6 q.os,sT q.block],.agg #[i6 s0,i6 ep,i6 ou,.bool r.used,i6 r.fence,i6 r.de,i6 r.ds,sT r.block,.bool r.op,i6 r.ie,i6 r.is,i6 r.mask,sT r.staged]] wx (fun e w'=>e=.returned (.bool ((c.opn.length:Int)==0))∧PilX w' base pb ({ x with bl:=b2,kd:=1,ou:=(-1),rd:=(.slice (some ⟨gR,0,none⟩) 1 1) }) c L∧Kept (PilT [] base x.lb pb x.cb wx) wx w'))(hmore:c.opn.length≠0->∀wx,PilX wx base pb ({ x with bl:=b2,kd:=1,ou:=(-1),rd:=(.slice (some ⟨gR,0,none⟩) 1 1) }) c L->OwnR wx base 3 1 (some ⟨gR,0,none⟩) 1 1 (flatV intC [x.cn])->E wx)(hlast:c.opn.length=0->∀wx,PilX wx base pb (({ x with bl:=b2,kd:=1,ou:=(-1),rd:=(.slice (some ⟨gR,0,none⟩) 1 1) }).ended 0 (b2 (Int.toNat x.cn))) { c with opn:=[] } L->(∀base',PartyX 124 141 wx base' x.cb { c with opn:=[] })->E wx)(w:World)(hX:PilX w base pb ({ x with kd:=1,ou:=(-1),rd:=(.slice (some ⟨gR,0,none⟩) 1 1) }) c L)(h_rd:OwnR w base 3 1 (some ⟨gR,0,none⟩) 1 1 (flatV intC [x.cn]))(hb0:base<=w.heap.size) :
  Calls Tryz.prog 84 #[.pointer (some ⟨pb,0,none⟩),i6 now,i6 fr,.agg #[i6 q.kind,i6 q.stripe,i6 q.epoch,i6 q.seq,i6 q.mask,i6 q.node,i6 q.oe,i6 q.os,sT q.block],.agg #[i6 s0,i6 ep,i6 ou,.bool r.used,i6 r.fence,i6 r.de,i6 r.ds,sT r.block,.bool r.op,i6 r.ie,i6 r.is,i6 r.mask,sT r.staged]] w (fun e w'=>e=.returned (.tuple #[])∧E w'∧Kept (PilT [141] base x.lb pb x.cb w) w w'):=by
 obtain⟨v,hP,hR⟩:=hX
 have hPT:=blk_ty hP
 refine cH (S:=(fun y=>y=pb)) (n:=55) Tryz.func84 (MemOk.startP hP) ?_
 refine hgE 16 (dz 7 0xd002809001800000) [0,1,13,14,15,16,17] [] [(w.heap.size,0,9),(w.heap.size+1,0,13)] [.ops [1,0,0] [5,6],.code [1,0,1],.code [1,1]] ⟨[(0,(pt pb 0)),(1,i6 now),(13,(pt pb 0)),(14,i6 now),(15,i6 fr),(16,.agg (List.toArray (prr_v1 q))),(17,.agg (List.toArray (prr_v2 s0 ep ou r)))],[⟨pb,98,true,(PilC.cells { x with kd:=1,ou:=(-1),rd:=(.slice (some ⟨gR,0,none⟩) 1 1),ak:=v })⟩,⟨w.heap.size,59,true,(prr_v1 q)⟩,⟨w.heap.size+1,63,true,(prr_v2 s0 ep ou r)⟩],[],w.heap.size+2⟩ ?_
 refine holds_callV (w:=w) (S':=(PilT [141] base x.lb pb x.cb w)) (Y:=Value) (fun v1=>.bool ((c.opn.length:Int)==0)) (fun v1=>(prr_b1 x pb w v1 gR s0 ep ou q r b2)) (fun v1 W_=>PilR W_ base x.lb x.cb c L v1∧OwnR W_ base 3 1 (some ⟨gR,0,none⟩) 1 1 (flatV intC [x.cn])) (fun v1=>[(18,.bool ((c.opn.length:Int)==0)),(0,(pt pb 0)),(1,i6 now),(13,(pt pb 0)),(14,i6 now),(15,i6 fr),(16,.agg (List.toArray (prr_v1 q))),(17,.agg (List.toArray (prr_v2 s0 ep ou r)))]) (show _=some (105,[(pt pb 0),i6 now,i6 fr,.agg (List.toArray (prr_v1 q)),.agg (List.toArray (prr_v2 s0 ep ou r))],some 18,[])by kernel_rfl) tI (fun _=>rfl) (fun wx hm=>?_) (fun v1 W1 hX1 hm1=>?_)
 ·have hm0_:=(hm.wide (S':=PilT [141] base x.lb pb x.cb w) (fun _ h=>.inl h))
  have hR_:=(hR.keptT (es:=[98]) hm.kept (fun y hy=>by subst hy; exact⟨98,by simp,hPT⟩) rfl rfl rfl)
  have h_rd_:=(h_rd.keptT (es:=[98]) hm.kept (fun y hy=>by subst hy; exact⟨98,by simp,hPT⟩) rfl)
  have hX0:PilX wx base pb ({ x with kd:=1,ou:=(-1),rd:=(.slice (some ⟨gR,0,none⟩) 1 1),ak:=v }) c L:=⟨_,hm.at_ 0 rfl,hR_⟩
  have hT_:=hX0.tys (es:=[])
  refine(htk wx hX0).mono fun e w' hq_=>?_
  obtain⟨he_,⟨v_,hB_,hR_2⟩,h3_⟩:=hq_
  exact⟨v_,he_,⟨hR_2,(h_rd_.keptT h3_ hT_ rfl)⟩,hm0_.turnP h3_ (pilT_up hm0_.kept rfl) hB_ (off_tysP hm hT_ rfl)⟩
 obtain⟨hR1,h1_rd⟩:=hX1
 by_cases hop:c.opn.length=0
 rotate_left
 ·skip
  refine hgS 6 [oh0,oh1] [0,1] [oE ((!((c.opn.length:Int)==0))=true) (by rw[show((c.opn.length:Int)==0)=false from by rw[beq_eq_false_iff_ne]; omega]; rfl)] [] [.code [1,0,1,0],.code [1,1]] (prr_b1 x pb w v1 gR s0 ep ou q r b2) [] W1.heap.size ?_
  refine hrt [] [] [] ?_
  intro wx hm
  exact⟨rfl,hmore hop _ ⟨_,hm.at_ 0 rfl,(hR1.keptT hm.kept (turned_tys hm1) rfl rfl rfl)⟩ (h1_rd.keptT hm.kept (turned_tys hm1) rfl),(MemOk.bck hm1 hm).kept⟩
 refine hgE 27 (dz 13 0x12c080000000000) [0,10] [oE ((!((c.opn.length:Int)==0))=false) (by rw[show((c.opn.length:Int)==0)=true from by rw[beq_iff_eq]; omega]; rfl),fF] [(pb,44,1)] [.code [1,1,1,1,0],.code [1,1,1,1,1]] ⟨[(0,(pt pb 0)),(10,(pt pb 44))],(prr_b1 x pb w v1 gR s0 ep ou q r b2),[],W1.heap.size⟩ ?_
 have prr_y6_X:StayY W1 (fun y=>(Turned (prr_b1 x pb w v1 gR s0 ep ou q r b2)) y∨(PilT [141] base x.lb pb x.cb W1) y) (prr_y6m x pb w v1 gR s0 ep ou q r b2) (prr_y6X x c base v1 L gR b2):=by
  intro c_ d wx w' bk hb hm hx hk
  match c_,hb,hx with
  |0,hb,hx=>
   obtain rfl:=Option.some.inj hb
   exact⟨(hx.1.keptT hk (turned_tys hm) rfl rfl rfl),(hx.2.keptT hk (turned_tys hm) rfl)⟩
  |1,hb,hx=>
   obtain rfl:=Option.some.inj hb
   exact⟨(hx.1.keptT hk (turned_tys hm) rfl rfl rfl),(hx.2.1.keptT hk (turned_tys hm) rfl),(hx.2.2.keptT hk (turned_tys hm) rfl)⟩
  |2,hb,hx=>
   obtain rfl:=Option.some.inj hb
   exact⟨(hx.1.keptT hk (turned_tys hm) rfl rfl rfl),(hx.2.1.keptT hk (turned_tys hm) rfl),(hx.2.2.keptT hk (turned_tys hm) rfl)⟩
  |c_+3,hb,hx=>exact trivial
 have prr_y6_c13:prr_y6C x c pb base w W1 v1 L E gR s0 ep ou q r b2 13:=certY_call (B:=0) (f:=46) (args:=fun d=>[(pt pb 0),i6 (-1)]) (ob:=fun d=>[]) (fun d=>i6 (-1)) (by kernel_rfl) (.inr ⟨15,by kernel_rfl,List.mem_of_getElem? (i:=1) (by kernel_rfl)⟩) (fun d=>by kernel_rfl) (fun d=>by kernel_rfl) (fun d=>by kernel_rfl) (fun d=>trivial) (fun c_ d wx bk hc hb hm hx=>by
   obtain rfl:c_=0:=by omega
   obtain rfl:(prr_b1 x pb w v1 gR s0 ep ou q r b2)=bk:=Option.some.inj hb
   exact pil_columnNone ({ x with bl:=b2,kd:=1,ou:=(-1),rd:=(.slice (some ⟨gR,0,none⟩) 1 1),ak:=v1 }) pb hg hs wx (hm.at_ 0 rfl)) prr_y6_X
 have prr_y6_c15:prr_y6C x c pb base w W1 v1 L E gR s0 ep ou q r b2 15:=cyC (s:=0) (f:=87) (args:=fun d=>[(pt pb 0)]) (ob:=fun d=>[]) (fun(d:Option Addr×Nat)(e_:Option Addr×Nat)=>e_) (fun d=>.slice d.1 1 d.2) (fun d=>trivial) (fun d wx bk hb hm hx hcame=>by
  obtain rfl:=Option.some.inj hb
  have hb1:base<=wx.heap.size:=Nat.le_trans (Nat.le_trans hb0 hm1.kept.size) hm.kept.size
  have h_rd_:=hx.2
  have hX0:PilX wx base pb ({ x with bl:=b2,kd:=1,ou:=(-1),rd:=(.slice (some ⟨gR,0,none⟩) 1 1),ak:=v1 }) c L:=⟨_,hm.at_ 0 rfl,hx.1⟩
  refine(pil_texts ({ x with bl:=b2,kd:=1,ou:=(-1),rd:=(.slice (some ⟨gR,0,none⟩) 1 1),ak:=v1 }) pb [x.cn] gR 1 (by simp) (fun k hk=>by obtain rfl:=List.mem_singleton.1 hk; omega) wx (hm.at_ 0 rfl) (h_rd_.own gR ⟨_,rfl,rfl⟩).2 (fun j v hj=>by rw[Nat.zero_add]; exact own_cell h_rd_ hj)).mono fun e w' hq_=>?_
  obtain⟨A_,c_,he_,ho_tx,h3_⟩:=hq_
  exact⟨(A_,c_),he_,rfl,⟨(hx.1.keptT (es:=[]) h3_ (fun _ h=>h.elim) rfl rfl rfl),(hx.2.kept h3_ (fun _ _ h=>h)),(ho_tx.below hb1)⟩,hm.offA (fun _ h=>h) h3_ (fun _ h=>h.elim) (fun _ _ h=>h),h3_.size⟩)
 have prr_y6_c16:prr_y6C x c pb base w W1 v1 L E gR s0 ep ou q r b2 16:=cyC (s:=1) (f:=107) (args:=fun d=>[.agg #[i6 x.N,i6 x.S],i6 x.cn,i6 (-1),.slice d.1 1 d.2]) (ob:=fun d=>[]) (fun(d:Option Addr×Nat)(_:Unit)=>d) (fun d=>.tuple #[sT (b2 (Int.toNat x.cn)),i6 0]) (fun d=>trivial) (fun d wx bk hb hm hx hcame=>by
  obtain rfl:=Option.some.inj hb
  have hb1:base<=wx.heap.size:=Nat.le_trans (Nat.le_trans hb0 hm1.kept.size) hm.kept.size
  have h_rd_:=hx.2.1
  have h_tx_:=hx.2.2
  have hX0:PilX wx base pb ({ x with bl:=b2,kd:=1,ou:=(-1),rd:=(.slice (some ⟨gR,0,none⟩) 1 1),ak:=v1 }) c L:=⟨_,hm.at_ 0 rfl,hx.1⟩
  obtain⟨g_,hg_,_⟩:=h_tx_.cell (j:=0) rfl
  obtain⟨d1_,d2_⟩:=d
  subst hg_
  refine(plan_got x.N x.S x.cn hg hcn (b2 (Int.toNat x.cn)) hb16 g_ d2_ wx (h_tx_.own g_ ⟨_,rfl,rfl⟩).2 (fun j v hj=>by rw[Nat.zero_add]; exact own_cell h_tx_ hj)).mono fun e w' hq_=>?_
  obtain⟨he_,h3_⟩:=hq_
  exact⟨(),he_,rfl,⟨(hx.1.keptT (es:=[]) h3_ (fun _ h=>h.elim) rfl rfl rfl),(hx.2.1.kept h3_ (fun _ _ h=>h)),(hx.2.2.kept h3_ (fun _ _ h=>h))⟩,hm.offA (fun _ h=>h) h3_ (fun _ h=>h.elim) (fun _ _ h=>h),h3_.size⟩)
 have prr_y6_R:∀e_∈(rZsY 2 [0,1,2,4,5,6,8,9,10,11,14,17,18,19,20,21]++[rY 3 2 0 0 2 pb,rY 7 2 0 48 1 pb,rY 12 2 0 53 1 pb]:List (RegY (Option Addr×Nat))),prr_y6C x c pb base w W1 v1 L E gR s0 ep ou q r b2 e_.i:=certsY_reg _ prr_y6_X (fun d=>by kernel_rfl) (by kernel_rfl) (fun d sz=>by kernel_rfl)
 have prr_y6_A:∀i_,i_<22->prr_y6C x c pb base w W1 v1 L E gR s0 ep ou q r b2 i_:=allY (l:=[13,15,16]) (by kernel_rfl) prr_y6_R ⟨prr_y6_c13,prr_y6_c15,prr_y6_c16,trivial⟩
 refine holds_mixY (Δ:=Option Addr×Nat) (fun y=>(Turned (prr_b1 x pb w v1 gR s0 ep ou q r b2)) y∨(PilT [141] base x.lb pb x.cb W1) y) (prr_y6v x pb b2) prr_y6F (prr_y6m x pb w v1 gR s0 ep ou q r b2) (prr_y6X x c base v1 L gR b2) [0,11] (fun d=>[(0,(pt pb 0)),(11,sT (b2 (Int.toNat x.cn)))]) (fun d=>(prr_b1 x pb w v1 gR s0 ep ou q r b2)) (none,0) (fun _ h=>.inl h) (by kernel_rfl) (by kernel_rfl) (by kernel_rfl) (fun wx hm=>⟨(hR1.keptT hm.kept.drew (turned_tys hm1) rfl rfl rfl),(h1_rd.keptT hm.kept.drew (turned_tys hm1) rfl)⟩) (by kernel_rfl) prr_y6_A (fun d=>by kernel_rfl) (fun d=>by kernel_rfl) (fun d W2 hfin hX2 hm02 hm2=>?_)
 replace hm2:=hm1.bckS hm2 (fun y hy=>hy.elim (fun⟨b,hb,hr,he⟩=>he▸hm1.own b hb hr) (fun h=>pilT_up hm1.kept rfl y h))
 obtain⟨Atx,ctx⟩:=d
 obtain⟨hR2,h2_rd,h2_tx⟩:=hX2
 replace hR2:PilR W2 base x.lb x.cb c L v1:=hR2
 replace h2_rd:OwnR W2 base 3 1 (some ⟨gR,0,none⟩) 1 1 (flatV intC [x.cn]):=h2_rd
 replace h2_tx:OwnR W2 base 9 1 Atx 1 ctx (strsV [b2 (Int.toNat x.cn)]):=h2_tx
 replace hm2:MemOk w (PilT [141] base x.lb pb x.cb w) (prr_b1 x pb w v1 gR s0 ep ou q r b2) [] W2.heap.size W2:=hm2
 change Holds _ _ _ _ W2 (Turned (prr_b1 x pb w v1 gR s0 ep ou q r b2)) _ [.code [1,1,1,1,1]] ⟨[(0,(pt pb 0)),(11,sT (b2 (Int.toNat x.cn)))],(prr_b1 x pb w v1 gR s0 ep ou q r b2),[],W2.heap.size⟩
 refine hgS 6 (dz 2 0) [52,53] [] [] [.ops [1,1,1,1,1] [2]] (prr_b1 x pb w v1 gR s0 ep ou q r b2) [] W2.heap.size ?_
 refine hcV (w:=w) (S':=(PilT [141] base x.lb pb x.cb w)) (Y:=Unit) (fun _=>.tuple #[]) (fun _=>[]) (fun _ W_=>E W_) (show _=some (47,[(pt pb 0),i6 0,sT (b2 (Int.toNat x.cn))],some 54,[])by kernel_rfl) tI (fun wx hm=>?_) (fun y_ W3 hE3 hm3=>?_)
 ·have hm0_:=(MemOk.bck hm2 hm)
  have hb1:base<=wx.heap.size:=Nat.le_trans hb0 hm0_.kept.size
  have hR_:=(hR2.keptT hm.kept (turned_tys hm2) rfl rfl rfl)
  have h_rd_:=(h2_rd.keptT hm.kept (turned_tys hm2) rfl)
  have h_tx_:=(h2_tx.keptT hm.kept (turned_tys hm2) rfl)
  have hX0:PilX wx base pb ({ x with bl:=b2,kd:=1,ou:=(-1),rd:=(.slice (some ⟨gR,0,none⟩) 1 1),ak:=v }) c L:=⟨_,hm.at_ 0 rfl,hR_⟩
  refine(pilX_end ({ x with bl:=b2,kd:=1,ou:=(-1),rd:=(.slice (some ⟨gR,0,none⟩) 1 1),ak:=v }) c L pb base 0 (b2 (Int.toNat x.cn)) hed wx hX0).mono fun e w' hq_=>?_
  obtain⟨he_,hX_,hD_,h3_⟩:=hq_
  exact⟨(),he_,hlast hop _ hX_ hD_,hm0_.none_.offA (fun _ h=>h) h3_ (pilT_up hm0_.kept rfl) (fun b hb=>by cases hb)⟩
 refine hgE 4 [] [] [] [] [] ⟨[],[],[],W3.heap.size⟩ ?_
 refine holds_end [] (show _=some ([],dupR [])by kernel_rfl) ?_
 intro wx hm
 exact⟨rfl,hE _ _ hE3 (hm.kept.mono (fun k _ h=>by obtain⟨b,hb,_⟩:=h; cases hb)),(MemOk.bck hm3 hm).kept⟩
def prw_v1(q:AskM):List Value:=(prr_v1 q)
def prw_v2(s0:Int)(ep:Int)(ou:Int)(r:RecM):List Value:=(prr_v2 s0 ep ou r)
@[simp] def prw_b1(x:PilC)(pb:Nat)(w:World)(v1:Value)(s0:Int)(ep:Int)(ou:Int)(q:AskM)(r:RecM)(b2:Nat->ByteArray):List Bk:=[⟨pb,98,true,(PilC.cells { x with bl:=b2,kd:=2,ak:=v1 })⟩,⟨w.heap.size,59,true,(prw_v1 q)⟩,⟨w.heap.size+1,63,true,(prw_v2 s0 ep ou r)⟩]
theorem pilX_onReadW(x:PilC)(c:CM)(L:List OneM)(pb:Nat)(base:Nat)(E:World->Prop)(hE:∀w w',E w->Kept (fun _=>False) w w'->E w')(b2:Nat->ByteArray)(gR gW:Nat)(now fr s0 ep ou:Int)(q:AskM)(r:RecM)(htk:∀wx,PilX wx base pb ({ x with kd:=2 }) c L->Calls Tryz.prog 105 #[.pointer (some ⟨pb,0,none⟩),i6 now,i6 fr,.agg #[i6 q.kind,i6 q.stripe,i6 q.epoch,i6 q.seq,i6 q.mask,i6 q.node,i6 q.oe,i6 q.os,sT q.block],.agg #[i6 s0,i6 ep,i6 ou,.bool r.used,i6 r.fence,i6 r.de,i6 r.ds,sT r.block,.bool r.op,i6 r.ie,i6 r.is,i6 r.mask,sT r.staged]] wx (fun e w'=>e=.returned (.bool ((c.opn.length:Int)==0))∧PilX w' base pb ({ x with bl:=b2,kd:=2 }) c L∧Kept (PilT [] base x.lb pb x.cb wx) wx w'))(hmore:c.opn.length≠0->∀wx,PilX wx base pb ({ x with bl:=b2,kd:=2 }) c L->OwnR wx base 3 1 (some ⟨gR,0,none⟩) 2 2 (flatV intC [x.cn,x.N-1])->OwnR wx base 3 1 (some ⟨gW,0,none⟩) 2 2 (flatV intC [x.cn,x.N-1])->E wx)(hlast:c.opn.length=0->∀wx,PilX wx base pb ({ x with bl:=b2,kd:=2 }) c L->OwnR wx base 3 1 (some ⟨gR,0,none⟩) 2 2 (flatV intC [x.cn,x.N-1])->OwnR wx base 3 1 (some ⟨gW,0,none⟩) 2 2 (flatV intC [x.cn,x.N-1])->base<=wx.heap.size->Calls Tryz.prog 52 #[.pointer (some ⟨pb,0,none⟩),i6 now] wx (fun e w'=>e=.returned (.tuple #[])∧E w'∧Kept (PilT [141,178] base x.lb pb x.cb wx) wx w'))(w:World)(hX:PilX w base pb ({ x with kd:=2 }) c L)(h_rd:OwnR w base 3 1 (some ⟨gR,0,none⟩) 2 2 (flatV intC [x.cn,x.N-1]))(h_wr:OwnR w base 3 1 (some ⟨gW,0,none⟩) 2 2 (flatV intC [x.cn,x.N-1]))(hb0:base<=w.heap.size) :
  Calls Tryz.prog 84 #[.pointer (some ⟨pb,0,none⟩),i6 now,i6 fr,.agg #[i6 q.kind,i6 q.stripe,i6 q.epoch,i6 q.seq,i6 q.mask,i6 q.node,i6 q.oe,i6 q.os,sT q.block],.agg #[i6 s0,i6 ep,i6 ou,.bool r.used,i6 r.fence,i6 r.de,i6 r.ds,sT r.block,.bool r.op,i6 r.ie,i6 r.is,i6 r.mask,sT r.staged]] w (fun e w'=>e=.returned (.tuple #[])∧E w'∧Kept (PilT [141,178] base x.lb pb x.cb w) w w'):=by
 obtain⟨v,hP,hR⟩:=hX
 have hPT:=blk_ty hP
 refine cH (S:=(fun y=>y=pb)) (n:=55) Tryz.func84 (MemOk.startP hP) ?_
 refine hgE 16 (dz 7 0xd002809001800000) [0,1,13,14,15,16,17] [] [(w.heap.size,0,9),(w.heap.size+1,0,13)] [.ops [1,0,0] [5,6],.code [1,0,1],.code [1,1]] ⟨[(0,(pt pb 0)),(1,i6 now),(13,(pt pb 0)),(14,i6 now),(15,i6 fr),(16,.agg (List.toArray (prw_v1 q))),(17,.agg (List.toArray (prw_v2 s0 ep ou r)))],[⟨pb,98,true,(PilC.cells { x with kd:=2,ak:=v })⟩,⟨w.heap.size,59,true,(prw_v1 q)⟩,⟨w.heap.size+1,63,true,(prw_v2 s0 ep ou r)⟩],[],w.heap.size+2⟩ ?_
 refine holds_callV (w:=w) (S':=(PilT [141,178] base x.lb pb x.cb w)) (Y:=Value) (fun v1=>.bool ((c.opn.length:Int)==0)) (fun v1=>(prw_b1 x pb w v1 s0 ep ou q r b2)) (fun v1 W_=>PilR W_ base x.lb x.cb c L v1∧OwnR W_ base 3 1 (some ⟨gR,0,none⟩) 2 2 (flatV intC [x.cn,x.N-1])∧OwnR W_ base 3 1 (some ⟨gW,0,none⟩) 2 2 (flatV intC [x.cn,x.N-1])) (fun v1=>[(18,.bool ((c.opn.length:Int)==0)),(0,(pt pb 0)),(1,i6 now),(13,(pt pb 0)),(14,i6 now),(15,i6 fr),(16,.agg (List.toArray (prw_v1 q))),(17,.agg (List.toArray (prw_v2 s0 ep ou r)))]) (show _=some (105,[(pt pb 0),i6 now,i6 fr,.agg (List.toArray (prw_v1 q)),.agg (List.toArray (prw_v2 s0 ep ou r))],some 18,[])by kernel_rfl) tI (fun _=>rfl) (fun wx hm=>?_) (fun v1 W1 hX1 hm1=>?_)
 ·have hm0_:=(hm.wide (S':=PilT [141,178] base x.lb pb x.cb w) (fun _ h=>.inl h))
  have hR_:=(hR.keptT (es:=[98]) hm.kept (fun y hy=>by subst hy; exact⟨98,by simp,hPT⟩) rfl rfl rfl)
  have h_rd_:=(h_rd.keptT (es:=[98]) hm.kept (fun y hy=>by subst hy; exact⟨98,by simp,hPT⟩) rfl)
  have h_wr_:=(h_wr.keptT (es:=[98]) hm.kept (fun y hy=>by subst hy; exact⟨98,by simp,hPT⟩) rfl)
  have hX0:PilX wx base pb ({ x with kd:=2,ak:=v }) c L:=⟨_,hm.at_ 0 rfl,hR_⟩
  have hT_:=hX0.tys (es:=[])
  refine(htk wx hX0).mono fun e w' hq_=>?_
  obtain⟨he_,⟨v_,hB_,hR_2⟩,h3_⟩:=hq_
  exact⟨v_,he_,⟨hR_2,(h_rd_.keptT h3_ hT_ rfl),(h_wr_.keptT h3_ hT_ rfl)⟩,hm0_.turnP h3_ (pilT_up hm0_.kept rfl) hB_ (off_tysP hm hT_ rfl)⟩
 obtain⟨hR1,h1_rd,h1_wr⟩:=hX1
 by_cases hop:c.opn.length=0
 rotate_left
 ·skip
  refine hgS 6 [oh0,oh1] [0,1] [oE ((!((c.opn.length:Int)==0))=true) (by rw[show((c.opn.length:Int)==0)=false from by rw[beq_eq_false_iff_ne]; omega]; rfl)] [] [.code [1,0,1,0],.code [1,1]] (prw_b1 x pb w v1 s0 ep ou q r b2) [] W1.heap.size ?_
  refine hrt [] [] [] ?_
  intro wx hm
  exact⟨rfl,hmore hop _ ⟨_,hm.at_ 0 rfl,(hR1.keptT hm.kept (turned_tys hm1) rfl rfl rfl)⟩ (h1_rd.keptT hm.kept (turned_tys hm1) rfl) (h1_wr.keptT hm.kept (turned_tys hm1) rfl),(MemOk.bck hm1 hm).kept⟩
 refine hgS 29 (dz 15 0x10012c080000000000) [0,10,29,30] [oE ((!((c.opn.length:Int)==0))=false) (by rw[show((c.opn.length:Int)==0)=true from by rw[beq_iff_eq]; omega]; rfl),tT] [(pb,44,1)] [.ops [1,1,1,0,1,0,0] [2],.code [1,1,1,0,1,0,1],.code [1,1,1,1]] (prw_b1 x pb w v1 s0 ep ou q r b2) [] W1.heap.size ?_
 refine hcV (w:=w) (S':=(PilT [141,178] base x.lb pb x.cb w)) (Y:=Unit) (fun _=>.tuple #[]) (fun _=>[]) (fun _ W_=>E W_) (show _=some (52,[(pt pb 0),i6 now],some 31,[])by kernel_rfl) tI (fun wx hm=>?_) (fun y_ W2 hE2 hm2=>?_)
 ·have hm0_:=(MemOk.bck hm1 hm)
  have hb1:base<=wx.heap.size:=Nat.le_trans hb0 hm0_.kept.size
  have hR_:=(hR1.keptT hm.kept (turned_tys hm1) rfl rfl rfl)
  have h_rd_:=(h1_rd.keptT hm.kept (turned_tys hm1) rfl)
  have h_wr_:=(h1_wr.keptT hm.kept (turned_tys hm1) rfl)
  have hX0:PilX wx base pb ({ x with bl:=b2,kd:=2,ak:=v }) c L:=⟨_,hm.at_ 0 rfl,hR_⟩
  refine(hlast hop wx hX0 h_rd_ h_wr_ hb1).mono fun e w' hq_=>?_
  obtain⟨he_,hE_,h3_⟩:=hq_
  exact⟨(),he_,hE_,hm0_.none_.offA (fun _ h=>h) h3_ (pilT_up hm0_.kept rfl) (fun b hb=>by cases hb)⟩
 refine hgS 4 [] [0,10] [] [] [.code [1,1,1,0,1,0,1],.code [1,1,1,1]] [] [] W2.heap.size ?_
 refine hrt [] [] [] ?_
 intro wx hm
 exact⟨rfl,hE _ _ hE2 (hm.kept.mono (fun k _ h=>by obtain⟨b,hb,_⟩:=h; cases hb)),(MemOk.bck hm2 hm).kept⟩
end Go.Proofs.YtcmpkkapkdlfhaaGreat
