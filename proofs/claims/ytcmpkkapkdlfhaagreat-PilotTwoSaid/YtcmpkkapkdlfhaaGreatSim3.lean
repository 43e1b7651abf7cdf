import Derived.Test.YtcmpkkapkdlfhaaGreatSim2
import Derived.Test.YtcmpkkapkdlfhaaGreatPil18
namespace Go.Proofs.YtcmpkkapkdlfhaaGreat
open Go.RowKit
set_option maxHeartbeats 4000000
set_option maxRecDepth 100000
theorem hit_pilR{sy:SayR}{w:World}{base lb cb:Nat}{c:CM}{L:List OneM}{v:Value}{Kp R:List OneM}{o:OneM}(h:PilR w base lb cb c L v)(hc:c.opn=Kp++o::R)(hK:∀o'∈Kp,o'.id≠o.id) :
  Calls Tryz.prog 42 #[.pointer (some ⟨cb,0,none⟩),.agg #[i6 o.to,i6 c.frm,i6 o.id,.bool true,i6 0,i6 0,i6 0,i6 0,i6 0,i6 0,i6 0,i6 0,sT ⟨#[]⟩,i6 sy.st,i6 sy.ep,i6 sy.ou,.bool sy.rc.used,i6 sy.rc.fence,i6 sy.rc.de,i6 sy.rc.ds,sT sy.rc.block,.bool sy.rc.op,i6 sy.rc.ie,i6 sy.rc.is,i6 sy.rc.mask,sT sy.rc.staged]] w (fun e w'=>e=.returned (.tuple #[.agg #[i6 o.q.kind,i6 o.q.stripe,i6 o.q.epoch,i6 o.q.seq,i6 o.q.mask,i6 o.q.node,i6 o.q.oe,i6 o.q.os,sT o.q.block],.bool true])∧PilR w' base lb cb { c with opn:=Kp++R } L v∧Kept (PartyTX 141 base cb w) w w'):=by
 obtain⟨hQ,A,ca,hv,hA,hl⟩:=h
 refine(hit_partyX (sy:=sy) hQ hc hK).mono fun e w' hq=>?_
 obtain⟨h1,h2,h3⟩:=hq
 refine⟨h1,⟨h2,A,ca,hv,hA.kept h3 (fun y hy ht=>?_),Nat.le_trans hl h3.size⟩,h3⟩
 rcases ht with rfl|⟨_,ht⟩
 ·exact absurd (tyIn_one (hA.ty _ hy) hQ.blk) (by decide)
 ·exact tysIn_not rfl (hA.ty _ hy) ht
theorem pilT_upR{es:List TypeId}{base lb pb cb:Nat}{w wx:World}(hk:Kept (PilT es base lb pb cb w) w wx):∀y,PilT es base lb pb cb wx y->PilT es base lb pb cb w y∨w.heap.size<=y:=pilT_upS (fun _ h=>h) hk (by simp)
section
variable (x:PilC)(c:CM)(pb base:Nat)(now:Int)(w:World)(v:Value)(E2:Option Addr->Nat->Nat->World->Prop)(FN:Nat)(o:OneM)(sy:SayR)(g:Nat)(es:List TypeId)
def prc_v1:List Value:=[i6 o.to,i6 c.frm,i6 o.id,.bool true]++rp 8 (i6 0)++[sT ⟨#[]⟩,i6 sy.st,i6 sy.ep,i6 sy.ou,.bool sy.rc.used,i6 sy.rc.fence,i6 sy.rc.de,i6 sy.rc.ds,sT sy.rc.block,.bool sy.rc.op,i6 sy.rc.ie,i6 sy.rc.is,i6 sy.rc.mask,sT sy.rc.staged]
def prc_v2:List Value:=[i6 o.q.kind,i6 o.q.stripe,i6 o.q.epoch,i6 o.q.seq,i6 o.q.mask,i6 o.q.node,i6 o.q.oe,i6 o.q.os,sT o.q.block]
def prc_v3:List Value:=rp 8 (i6 0)++[sT ⟨#[]⟩]
def prc_v4:List Value:=[i6 sy.st,i6 sy.ep,i6 sy.ou,.bool sy.rc.used,i6 sy.rc.fence,i6 sy.rc.de,i6 sy.rc.ds,sT sy.rc.block,.bool sy.rc.op,i6 sy.rc.ie,i6 sy.rc.is,i6 sy.rc.mask,sT sy.rc.staged]
@[simp] def prc_b1:List Bk:=[⟨pb,98,true,(PilC.cells { x with busy:=true,nx:=(.func (.func FN) #[(pt pb 0)] #[]),ak:=v })⟩,⟨w.heap.size,65,false,(prc_v1 c o sy)⟩]
@[simp] def prc_b2(d:Option Nat):List Bk:=[⟨pb,98,true,(PilC.cells { x with busy:=true,nx:=(.func (.func FN) #[(pt pb 0)] #[]),ak:=v })⟩,⟨w.heap.size,65,false,(prc_v1 c o sy)⟩,⟨(d.getD 0),59,true,(prc_v2 o)⟩]
@[simp] def prc_b3:List Bk:=[⟨pb,98,true,(PilC.cells { x with busy:=true,nx:=(.func (.func FN) #[(pt pb 0)] #[]),ak:=v })⟩,⟨w.heap.size,65,false,(prc_v1 c o sy)⟩,⟨g,59,true,(prc_v2 o)⟩]
def prc_Q:Exit->Act->World->Prop:=bodyPost Tryz.prog Tryz.f19 (fun e w'=>∃A_ n_ c_,e=.returned (.slice A_ n_ c_)∧E2 A_ n_ c_ w'∧Kept (PilT es base x.lb pb x.cb w) w w')
def prc_y5s:List (Nat×Value):=[(0,(pt pb 0)),(1,i6 now),(5,(pt w.heap.size 0)),(6,.slice none 0 0)]
def prc_y5v(d:Option Nat):List (Option Value):=[some ((pt pb 0)),some ((pt pb 0)),some ((pt pb 2)),some ((pt x.cb 0)),some (.agg (List.toArray (prc_v1 c o sy))),some (.tuple #[.agg (List.toArray (prc_v2 o)),.bool true]),some (.tuple #[.agg (List.toArray (prc_v2 o)),.bool true]),some (.agg (List.toArray (prc_v2 o))),some (.bool true),some (.pointer (some ⟨(d.getD 0),0,none⟩)),some (.tuple #[]),some (.bool true)]
def prc_y5F(d:Option Nat)(k:Nat):Bool:=([true,true,true,true,true,true,true,true,true,d.isSome,true,true]:List Bool)[k]?.getD true
def prc_y5m(d:Option Nat):List (List Bk):=[(prc_b1 x c pb w v FN o sy),(prc_b1 x c pb w v FN o sy),(prc_b2 x c pb w v FN o sy d)]
abbrev prc_y5X(x:PilC)(c:CM)(base:Nat)(v:Value)(L:List OneM)(H:World->Prop)(Kp:List OneM)(R:List OneM)(z3:Nat)(c_:Nat)(d:Option Nat)(W_:World):Prop:=match c_ with|0=>(PilR W_ base x.lb x.cb c L v∧H W_)∧(∀g_,d=some g_->z3<=g_∧Blk W_ g_ 59 (prc_v3))|1=>(PilR W_ base x.lb x.cb { c with opn:=Kp++R } L v∧H W_)∧(∀g_,d=some g_->z3<=g_∧Blk W_ g_ 59 (prc_v3))|2=>((PilR W_ base x.lb x.cb { c with opn:=Kp++R } L v∧H W_)∧z3<=d.getD 0)∧True|_=>True
def prc_y5C(W1:World)(v:Value)(L:List OneM)(E2:Option Addr->Nat->Nat->World->Prop)(H:World->Prop)(FN:Nat)(Kp:List OneM)(R:List OneM)(o:OneM)(sy:SayR)(es:List TypeId)(z3:Nat)(i_:Nat):Prop:=cY Tryz.prog Tryz.f19 [1,1,0] 45 [] (prc_Q x pb base w E2 es) [.code [1,1,1]] (prc_y5s pb now w) [none,none,none,none,none,some 0,none,none,none,none,some 1,none] 2 (prc_y5v x c pb o sy) prc_y5F W1 (fun y=>(Turned (prc_b1 x c pb w v FN o sy)) y∨(PilT es base x.lb pb x.cb W1) y) (prc_y5m x c pb w v FN o sy) z3 (prc_y5X x c base v L H Kp R z3) i_
theorem prc_q7(W9:World)(v:Value)(FN:Nat)(o:OneM)(sy:SayR)(g:Nat):Out.prune [0,6,34,36,38,39,41] (qList Tryz.prog 45 W9 (Turned (prc_b3 x c pb w v FN o sy g)) ((opsOf (getCode (bodyOf Tryz.f19) [1,1,1,1,0])).toList.take 12) ⟨[(0,(pt pb 0)),(1,i6 now),(5,(pt w.heap.size 0)),(6,.slice none 0 0),(7,(pt g 0))],(prc_b3 x c pb w v FN o sy g),[],W9.heap.size⟩ [.op oh0,.op oh0,.op oh0,.op oh0,.op (oA 0 49 1),.op oh0,.call (i6 (within14 now)),.op oh0,.op (oA 1 0 1),.op (oA 2 0 9),.op oh0,.op (oA 1 13 13)])=some ⟨[∀w',MemC W9 (Turned (prc_b3 x c pb w v FN o sy g)) (prc_b3 x c pb w v FN o sy g) [] W9.heap.size w'->Calls Tryz.prog 31 #[i6 now] w' (RetK (i6 (within14 now)) w')],dupR [(pb,49,1),(w.heap.size,0,1),(g,0,9),(w.heap.size,13,13)],⟨[(0,(pt pb 0)),(6,.slice none 0 0),(34,.func (.func FN) #[(pt pb 0)] #[]),(36,i6 (within14 now)),(38,i6 o.to),(39,.agg (List.toArray (prc_v2 o))),(41,.agg (List.toArray (prc_v4 sy)))],(prc_b3 x c pb w v FN o sy g),[],W9.heap.size⟩⟩:=by kernel_rfl
end
theorem pilX_receive(x:PilC)(c:CM)(L:List OneM)(pb:Nat)(base:Nat)(es:List TypeId)(hes:es.contains 141=true)(E:World->Prop)(hE:∀w w',E w->Kept (fun _=>False) w w'->E w')(E2:Option Addr->Nat->Nat->World->Prop)(hEE:∀A n ca w w',E2 A n ca w->Kept (fun _=>False) w w'->E2 A n ca w')(H:World->Prop)(hH:∀w w' T es',H w->Kept T w w'->(∀y,T y->TysIn es' w y)->es'.all (fun e=>[98,124,141,65,59].contains e)=true->H w')(FN:Nat)(hFN:FN=54∨FN=114∨FN=84∨FN=112∨FN=95∨FN=80∨FN=120∨FN=149)(Kp R:List OneM)(o:OneM)(sy:SayR)(now:Int)(hc:c.opn=Kp++o::R)(hK:∀o'∈Kp,o'.id≠o.id)(hfr:(0<=o.to∧o.to<6)∨o.to=100∨(200<=o.to∧o.to<202))(hfrm:200<=c.frm∧c.frm<202)(hid:1<=o.id∧o.id<=1099511627776)(hsy:SayOk sy)(w:World)(hX:PilX w base pb ({ x with busy:=true,nx:=(.func (.func FN) #[.pointer (some ⟨pb,0,none⟩)] #[]) }) c L)(hb0:base<=w.heap.size)(hH0:H w)(hnext:∀wx,PilX wx base pb ({ x with busy:=true,nx:=(.func (.func FN) #[.pointer (some ⟨pb,0,none⟩)] #[]) }) { c with opn:=Kp++R } L->H wx->base<=wx.heap.size->Calls Tryz.prog FN #[.pointer (some ⟨pb,0,none⟩),i6 (within14 now),i6 o.to,.agg #[i6 o.q.kind,i6 o.q.stripe,i6 o.q.epoch,i6 o.q.seq,i6 o.q.mask,i6 o.q.node,i6 o.q.oe,i6 o.q.os,sT o.q.block],.agg #[i6 sy.st,i6 sy.ep,i6 sy.ou,.bool sy.rc.used,i6 sy.rc.fence,i6 sy.rc.de,i6 sy.rc.ds,sT sy.rc.block,.bool sy.rc.op,i6 sy.rc.ie,i6 sy.rc.is,i6 sy.rc.mask,sT sy.rc.staged]] wx (fun e w'=>e=.returned (.tuple #[])∧E w'∧Kept (PilT es base x.lb pb x.cb wx) wx w'))(hsent:∀wx,E wx->Calls Tryz.prog 37 #[.pointer (some ⟨pb,0,none⟩)] wx (fun e w'=>∃A n ca,e=.returned (.slice A n ca)∧E2 A n ca w'∧Kept (PilT es base x.lb pb x.cb wx) wx w')) :
  Calls Tryz.prog 19 #[.pointer (some ⟨pb,0,none⟩),i6 now,.agg #[i6 o.to,i6 c.frm,i6 o.id,.bool true,i6 0,i6 0,i6 0,i6 0,i6 0,i6 0,i6 0,i6 0,sT ⟨#[]⟩,i6 sy.st,i6 sy.ep,i6 sy.ou,.bool sy.rc.used,i6 sy.rc.fence,i6 sy.rc.de,i6 sy.rc.ds,sT sy.rc.block,.bool sy.rc.op,i6 sy.rc.ie,i6 sy.rc.is,i6 sy.rc.mask,sT sy.rc.staged]] w (fun e w'=>∃A_ n_ c_,e=.returned (.slice A_ n_ c_)∧E2 A_ n_ c_ w'∧Kept (PilT es base x.lb pb x.cb w) w w'):=by
 obtain⟨v,hP,hR⟩:=hX
 have hPT:=blk_ty hP
 refine cH (S:=(fun y=>y=pb)) (n:=45) Tryz.func19 (MemOk.startP hP) ?_
 refine hgE 18 (dz 9 0x1a001800012b0800000) [0,1,5,6,14,15] [fF] [(pb,43,1),(w.heap.size,0,26)] [.ops [1,0,0] [7,8,9],.code [1,0,1],.code [1,1]] ⟨[(0,(pt pb 0)),(1,i6 now),(5,(pt w.heap.size 0)),(6,.slice none 0 0),(14,.bool false),(15,.agg (List.toArray (prc_v1 c o sy)))],[⟨pb,98,true,(PilC.cells { x with busy:=true,nx:=(.func (.func FN) #[(pt pb 0)] #[]),ak:=v })⟩,⟨w.heap.size,65,true,(prc_v1 c o sy)⟩],[],w.heap.size+1⟩ ?_
 refine holds_gndF (bk':=(prc_b1 x c pb w v FN o sy)) [true,false] rfl (fun W1 hm hmz=>?_)
 have hR1:PilR W1 base x.lb x.cb c L v:=(hR.keptT (es:=[98]) hm.kept (fun y hy=>by subst hy; exact⟨98,by simp,hPT⟩) rfl rfl rfl)
 have hH1:H W1:=hH _ _ _ [98] hH0 hm.kept (fun y hy=>by subst hy; exact⟨98,by simp,hPT⟩) rfl
 have hm1:MemOk w (PilT es base x.lb pb x.cb w) (prc_b1 x c pb w v FN o sy) [] W1.heap.size W1:=hmz.wide (fun _ h=>.inl h)
 clear hm hmz
 refine hgS 3 [] [0,1,5,6,14,15] [] [] [.ops [1,0,0] [7,8,9],.code [1,0,1],.code [1,1]] (prc_b1 x c pb w v FN o sy) [] W1.heap.size ?_
 refine hcq (.bool true) _ _ (some 16) [false=false] ⟨rfl,tI⟩ rfl (fun wx hm=>msgRight_ans o.to c.frm o.id sy hfr (.inr (.inr hfrm)) hid hsy wx) fun z3 hz3=>?_
 refine hgE 9 (dz 3 64) [0,1,5,6] [fF,fF,fF] [] [.code [1,1,0],.code [1,1,1]] ⟨[(0,(pt pb 0)),(1,i6 now),(5,(pt w.heap.size 0)),(6,.slice none 0 0)],(prc_b1 x c pb w v FN o sy),[],z3⟩ ?_
 have hpl:pb<w.heap.size:=hP.lt
 have hw1:=hm1.kept.size
 have prc_y5_X:StayY W1 (fun y=>(Turned (prc_b1 x c pb w v FN o sy)) y∨(PilT es base x.lb pb x.cb W1) y) (prc_y5m x c pb w v FN o sy) (prc_y5X x c base v L H Kp R z3):=by
  intro c_ d wx w' bk hb hm hx hk
  match c_,hb,hx with
  |0,hb,hx=>
   obtain rfl:=Option.some.inj hb
   refine⟨⟨hx.1.1.keptT hk (turned_tys hm) rfl rfl rfl,hH _ _ _ _ hx.1.2 hk (turned_tys hm) rfl⟩,fun g_ hg_=>⟨(hx.2 g_ hg_).1,(hx.2 g_ hg_).2.kept hk (fun⟨b,hb,hr,he⟩=>?_)⟩⟩
   have h9:=(hx.2 g_ hg_).1
   simp at hb
   rcases hb with rfl|rfl
   ·dsimp only at he
    omega
   ·cases hr
  |1,hb,hx=>
   obtain rfl:=Option.some.inj hb
   refine⟨⟨hx.1.1.keptT hk (turned_tys hm) rfl rfl rfl,hH _ _ _ _ hx.1.2 hk (turned_tys hm) rfl⟩,fun g_ hg_=>⟨(hx.2 g_ hg_).1,(hx.2 g_ hg_).2.kept hk (fun⟨b,hb,hr,he⟩=>?_)⟩⟩
   have h9:=(hx.2 g_ hg_).1
   simp at hb
   rcases hb with rfl|rfl
   ·dsimp only at he
    omega
   ·cases hr
  |2,hb,hx=>
   obtain rfl:=Option.some.inj hb
   exact⟨⟨⟨hx.1.1.1.keptT hk (turned_tys hm) rfl rfl rfl,hH _ _ _ _ hx.1.1.2 hk (turned_tys hm) rfl⟩,hx.1.2⟩,trivial⟩
  |c_+3,hb,hx=>exact trivial
 have prc_y5_c5:prc_y5C x c pb base now w W1 v L E2 H FN Kp R o sy es z3 5:=cyC (s:=0) (f:=42) (args:=fun d=>[(pt x.cb 0),.agg (List.toArray (prc_v1 c o sy))]) (ob:=fun d=>[]) (fun(d:Option Nat)(_:Unit)=>d) (fun d=>.tuple #[.agg (List.toArray (prc_v2 o)),.bool true]) (fun d=>trivial) (fun d wx bk hb hm hx hcame=>by
  obtain rfl:=Option.some.inj hb
  refine(hit_pilR (sy:=sy) hx.1.1 hc hK).mono fun e w' hq=>?_
  obtain⟨h1,h2,h3⟩:=hq
  refine⟨(),h1,rfl,⟨⟨h2,hH _ _ _ [124,141] hx.1.2 h3 (fun y hy=>?_) rfl⟩,fun g_ hg_=>⟨(hx.2 g_ hg_).1,(hx.2 g_ hg_).2.kept h3 (fun ht=>?_)⟩⟩,hm.offA (fun _ h=>h) h3 (fun y hy=>?_) (fun b hb hy=>?_),h3.size⟩
  ·rcases hy with rfl|⟨_,e,he,ht⟩
   ·exact⟨124,by simp,hx.1.1.1.blk⟩
   ·exact⟨e,by simp at he ⊢; exact .inr he,ht⟩
  ·rcases ht with he|⟨_,ht⟩
   ·exact absurd (tyIn_one (blk_ty (hx.2 g_ hg_).2) (he▸hx.1.1.1.blk)) (by decide)
   ·exact tysIn_not rfl (blk_ty (hx.2 g_ hg_).2) ht
  ·rcases hy with rfl|⟨h4,h5⟩
   ·exact .inl (.inr (.inr (.inl rfl)))
   ·exact pilT_inS (fun _ h=>.inr h) hm.kept h4 h5 (by simpa using hes)
  ·have hbt:=blk_ty (hm.blk b hb)
   rcases hy with he|⟨_,ht⟩
   ·exact absurd (tyIn_one (he▸hbt) hx.1.1.1.blk) (by simp at hb; rcases hb with rfl|rfl<;>simp)
   ·exact tysIn_not (by simp at hb; rcases hb with rfl|rfl<;>rfl) hbt ht)
 have prc_y5_c9:prc_y5C x c pb base now w W1 v L E2 H FN Kp R o sy es z3 9:=cyN 1 59 (prc_v3) (fun _ g=>some g) (fun g=>(pt g 0)) (fun c_ d wx w' bk hcB hb hm hx hk hz hBl=>by
  have hs:=prc_y5_X c_ d wx w' bk hb hm hx hk
  match c_,hb,hx,hs,hcB with
  |0,hb,hx,hs,hcB=>exact⟨hs.1,(fun g_ hg_=>by obtain rfl:=Option.some.inj hg_; exact⟨hz,hBl⟩)⟩
  |1,hb,hx,hs,hcB=>exact⟨hs.1,(fun g_ hg_=>by obtain rfl:=Option.some.inj hg_; exact⟨hz,hBl⟩)⟩
  |c_+2,hb,hx,hs,hcB=>exact absurd hcB (by omega))
 have prc_y5_c10:prc_y5C x c pb base now w W1 v L E2 H FN Kp R o sy es z3 10:=cyS (s:=1) (x:=fun d=>Instr.storeAt 59 (.pointer (some ⟨(d.getD 0),0,none⟩)) (.agg (List.toArray (prc_v2 o)))) (fun(d:Option Nat)(_:Unit)=>d) (fun d wx bk hb hm hx hcame=>by
  obtain rfl:=Option.some.inj hb
  obtain⟨g_,rfl⟩:∃g_,d=some g_:=Option.isSome_iff_exists.1 (hcame 9 (List.mem_of_getElem? (i:=0) (by kernel_rfl)) (dst_ne (k:=7) (by kernel_rfl)))
  obtain⟨hzg,hBg⟩:=hx.2 g_ rfl
  obtain⟨w',h1,hB1,hk1,hz1⟩:=store_to (P:=Tryz.prog) (t:=59) (v:=.agg (List.toArray (prc_v2 o))) (by kernel_rfl) hBg rfl (by show 0+9<=9; omega) (ones_all rfl) rfl
  refine⟨(),w',h1,rfl,⟨⟨⟨hx.1.1.keptT (es:=[59]) hk1 (fun y hy=>by subst hy; exact⟨59,by simp,blk_ty hBg⟩) rfl rfl rfl,hH _ _ _ [59] hx.1.2 hk1 (fun y hy=>by subst hy; exact⟨59,by simp,blk_ty hBg⟩) rfl⟩,hzg⟩,trivial⟩,hm.adopt (g:=g_) hk1 hB1 (by omega) (fun b hb e=>?_),Nat.le_of_eq hz1.symm⟩
  have h8:=blk_ty (hm.blk b hb)
  simp at hb
  rcases hb with rfl|rfl<;>exact ty_off (blk_ty hBg) e h8 rfl)
 have prc_y5_R:∀e_∈(rZsY 2 [0,1,2,6,7,8,11]++[rY 3 2 0 2 1 pb,rY 4 2 1 0 26 w.heap.size]:List (RegY (Option Nat))),prc_y5C x c pb base now w W1 v L E2 H FN Kp R o sy es z3 e_.i:=certsY_reg _ prc_y5_X (fun d=>by kernel_rfl) (by kernel_rfl) (fun d sz=>by kernel_rfl)
 have prc_y5_A:∀i_,i_<12->prc_y5C x c pb base now w W1 v L E2 H FN Kp R o sy es z3 i_:=allY (l:=[5,9,10]) (by kernel_rfl) prc_y5_R ⟨prc_y5_c5,prc_y5_c9,prc_y5_c10,trivial⟩
 refine holds_mixY (Δ:=Option Nat) (fun y=>(Turned (prc_b1 x c pb w v FN o sy)) y∨(PilT es base x.lb pb x.cb W1) y) (prc_y5v x c pb o sy) prc_y5F (prc_y5m x c pb w v FN o sy) (prc_y5X x c base v L H Kp R z3) [0,1,5,6,7,8] (fun d=>[(0,(pt pb 0)),(1,i6 now),(5,(pt w.heap.size 0)),(6,.slice none 0 0),(7,.pointer (some ⟨(d.getD 0),0,none⟩)),(8,.bool true)]) (fun d=>(prc_b2 x c pb w v FN o sy d)) none (fun _ h=>.inl h) (by kernel_rfl) (by kernel_rfl) (by kernel_rfl) (fun wx hm=>⟨⟨(hR1.keptT hm.kept.drew (turned_tys hm1) rfl rfl rfl),hH _ _ _ _ hH1 hm.kept.drew (turned_tys hm1) rfl⟩,fun _ h=>by cases h⟩) (by kernel_rfl) prc_y5_A (fun d=>by kernel_rfl) (fun d=>by kernel_rfl) (fun d W9 hfin hX9 hz9 hm9=>?_)
 obtain⟨g,rfl⟩:∃g,d=some g:=Option.isSome_iff_exists.1 (hfin 9 (Nat.le_of_ble_eq_true (by kernel_rfl)) (dst_ne (k:=7) (by kernel_rfl)))
 obtain⟨⟨⟨hR9,hH9⟩,hg0⟩,_⟩:=hX9
 replace hg0:z3<=g:=hg0
 replace hm9:=hm1.bckS hm9 (fun y hy=>hy.elim (fun⟨b,hb,hr,he⟩=>he▸hm1.own b hb hr) (fun h=>pilT_upR hm1.kept y h))
 replace hm9:MemOk w (PilT es base x.lb pb x.cb w) (prc_b3 x c pb w v FN o sy g) [] W9.heap.size W9:=hm9
 change Holds _ _ _ _ W9 (Turned (prc_b3 x c pb w v FN o sy g)) _ [.code [1,1,1]] ⟨[(0,(pt pb 0)),(1,i6 now),(5,(pt w.heap.size 0)),(6,.slice none 0 0),(7,(pt g 0)),(8,.bool true)],(prc_b3 x c pb w v FN o sy g),[],W9.heap.size⟩
 refine hgE 12 (dz 3 0) [0,1,5,6,7] [fF] [] [.code [1,1,1,1,0],.code [1,1,1,1,1]] ⟨[(0,(pt pb 0)),(1,i6 now),(5,(pt w.heap.size 0)),(6,.slice none 0 0),(7,(pt g 0))],(prc_b3 x c pb w v FN o sy g),[],W9.heap.size⟩ ?_
 refine holds_draw (f:=1) (ls:=(bA 13 4095)) 12 _ _ (by kernel_rfl) (by kernel_rfl) (by kernel_rfl) (by kernel_rfl) (prc_q7 x c pb now w W9 v FN o sy g) ⟨(fun wx hm=>pwithin_any now wx),trivial⟩ fun z7 hz7=>?_
 replace hz7:W9.heap.size<=z7:=hz7
 refine holds_callAnyU (i:=12) (ls':=(bA 13 8191)) (w:=w) (S':=(PilT es base x.lb pb x.cb w)) (Y:=Unit) (fun _=>.tuple #[]) (fun _=>[]) (fun _ W_=>E W_) (fun _=>[(42,.tuple #[]),(0,(pt pb 0)),(6,.slice none 0 0),(34,.func (.func FN) #[(pt pb 0)] #[]),(36,i6 (within14 now)),(38,i6 o.to),(39,.agg (List.toArray (prc_v2 o))),(41,.agg (List.toArray (prc_v4 sy)))]) (by kernel_rfl) (by kernel_rfl) (show _=some (FN,[(pt pb 0),i6 (within14 now),i6 o.to,.agg (List.toArray (prc_v2 o)),.agg (List.toArray (prc_v4 sy))],some 42,[])by rcases hFN with rfl|rfl|rfl|rfl|rfl|rfl|rfl|rfl<;>kernel_rfl) tI (fun _=>rfl) (fun wx hm=>?_) (fun y_ W2 hE2 hm2=>?_)
 ·have hm0_:=(MemOk.bck hm9 hm)
  have hb1:base<=wx.heap.size:=Nat.le_trans hb0 hm0_.kept.size
  have hR_:=(hR9.keptT hm.kept (turned_tys hm9) rfl rfl rfl)
  have hX0:PilX wx base pb ({ x with busy:=true,nx:=(.func (.func FN) #[(pt pb 0)] #[]),ak:=v }) ({ c with opn:=Kp++R }) L:=⟨_,hm.at_ 0 rfl,hR_⟩
  refine(hnext wx hX0 (hH _ _ _ _ hH9 hm.kept (turned_tys hm9) rfl) hb1).mono fun e w' hq_=>?_
  obtain⟨he_,hE_,h3_⟩:=hq_
  exact⟨(),he_,hE_,hm0_.none_.offA (fun _ h=>h) h3_ (pilT_upR hm0_.kept) (fun b hb=>by cases hb)⟩
 refine holds_done (by kernel_rfl) ?_
 refine hgE 6 [oh0] [6,43] [] [] [.ops [1,1,1,1,1,0] [1,2],.code [1,1,1,1,1,1]] ⟨[(6,.slice none 0 0),(43,(pt pb 0))],[],[],W2.heap.size⟩ ?_
 refine holds_callV (w:=w) (S':=(PilT es base x.lb pb x.cb w)) (Y:=Option Addr×Nat×Nat) (fun yq=>.slice yq.1 yq.2.1 yq.2.2) (fun yq=>[]) (fun yq W_=>E2 yq.1 yq.2.1 yq.2.2 W_) (fun yq=>[(44,.slice yq.1 yq.2.1 yq.2.2),(6,.slice none 0 0),(43,(pt pb 0))]) (show _=some (37,[(pt pb 0)],some 44,[])by kernel_rfl) tI (fun _=>rfl) (fun wx hm=>?_) (fun yq W3 hX3 hm3=>?_)
 ·have hm0_:=(MemOk.bck hm2 hm)
  refine(hsent wx (hE _ _ hE2 (hm.kept.mono (fun k _ h=>by obtain⟨b,hb,_⟩:=h; cases hb)))).mono fun e w' hq_=>?_
  obtain⟨A_,n_,c_,he_,h2_,h3_⟩:=hq_
  exact⟨(A_,n_,c_),he_,h2_,hm0_.offA (fun _ h=>h) h3_ (pilT_upR hm0_.kept) (fun b hb=>by cases hb)⟩
 obtain⟨A,n,ca⟩:=yq
 change Holds _ _ _ _ W3 (Turned []) _ [.ops [1,1,1,1,1,0] [2],.code [1,1,1,1,1,1]] ⟨[(44,.slice A n ca),(6,.slice none 0 0),(43,(pt pb 0))],[],[],W3.heap.size⟩
 refine hgS 5 [oh0] [6] [] [] [.code [1,1,1,1,1,1]] [] [] W3.heap.size ?_
 refine hrt [] [.slice A n ca] [] ?_
 intro wx hm
 exact⟨A,n,ca,rfl,hEE _ _ _ _ _ hX3 (hm.kept.mono (fun k _ h=>by obtain⟨b,hb,_⟩:=h; cases hb)),(MemOk.bck hm3 hm).kept⟩
end Go.Proofs.YtcmpkkapkdlfhaaGreat
namespace Go.Proofs.YtcmpkkapkdlfhaaGreat
open Go.RowKit
theorem PilX.kept0{w w':World}{base pb:Nat}{x:PilC}{c:CM}{L:List OneM}(h:PilX w base pb x c L)(hk:Kept (fun _=>False) w w'):PilX w' base pb x c L:=by
 obtain⟨v,hB,hR⟩:=h
 exact⟨v,hB.kept hk (fun h=>h),hR.keptT (es:=[]) hk (fun _ h=>h.elim) rfl rfl rfl⟩
theorem PilS.kept0{w w':World}{base pb:Nat}{x:PilC}{c:CM}(h:PilS w base pb x c)(hk:Kept (fun _=>False) w w'):PilS w' base pb x c:=h.keptT (es:=[]) hk (fun _ h=>h.elim) rfl rfl rfl
theorem PilS.law{w w':World}{base pb lb:Nat}{x:PilC}{c:CM}{es:List TypeId}(h:PilS w base pb x c)(hk:Kept (PilT es base lb pb x.cb w) w w')(hl:w.heap.size<=lb)(he:es.all (fun e=>TL17.contains e)=true):Kept (LawT w) w w':=
 hk.mono fun y hy ht=>by
  rcases ht with rfl|rfl|⟨_,e,h1,h2⟩|⟨h1,_⟩
  ·exact⟨98,rfl,blk_ty h.1⟩
  ·exact⟨124,rfl,h.2.blk⟩
  ·exact⟨e,by have h3:=List.all_eq_true.1 he e (by simpa using h1); simpa using h3,h2⟩
  ·exact absurd hy (by omega)
def StbG(F:World->Prop):Prop:=∀w w' (T:Nat->Prop) (es:List TypeId),F w->Kept T w w'->(∀y,T y->TysIn es w y)->es.all (fun e=>[98,124,141,65,59].contains e)=true->F w'
theorem StbG.kept0{F:World->Prop}(h:StbG F){w w':World}(hf:F w)(hk:Kept (fun _=>False) w w'):F w':=h w w' _ [] hf hk (fun _ h=>h.elim) rfl
def StbS(F:World->Prop):Prop:=∀w w' (T:Nat->Prop),F w->Kept T w w'->(∀y,T y->TysIn [98] w y)->F w'
theorem StbS.kept0{F:World->Prop}(h:StbS F){w w':World}(hf:F w)(hk:Kept (fun _=>False) w w'):F w':=h w w' _ hf hk (fun _ h=>h.elim)
theorem StbG.s{F:World->Prop}(h:StbG F):StbS F:=fun w w' T hf hk hT=>h w w' T _ hf hk hT rfl
theorem stbS_party{cb:Nat}{c:CM}:StbS (fun W=>∀base',PartyX 124 141 W base' cb c):=fun _ _ _ h hk hT base'=>(h base').keptT hk hT rfl rfl
theorem recv_any{w:World}{B0 pb:Nat}{x:PilC}{c:CM}{α:Type}(X:α->PilC)(C:α->CM)(Ls:α->List OneM)(G:α->World->Prop)(es:List TypeId)(hes:es.contains 141=true)(hesl:es.all (fun e=>TL17.contains e)=true)(H:World->Prop)(hH:StbG H)(hG:∀a,StbS (G a))(hcb:∀a,(X a).cb=x.cb)(FN:Nat)(hFN:FN=54∨FN=114∨FN=84∨FN=112∨FN=95∨FN=80∨FN=120∨FN=149)(R:List OneM)(o:OneM)(sy:SayR)(now:Int)
  (hS:PilS w B0 pb x c) (hbu:x.busy=true) (hnx:x.nx=.func (.func FN) #[.pointer (some ⟨pb,0,none⟩)] #[]) (hc:c.opn=o::R) (hfr:(0<=o.to∧o.to<6)∨o.to=100∨(200<=o.to∧o.to<202)) (hfrm:200<=c.frm∧c.frm<202) (hid:1<=o.id∧o.id<=1099511627776) (hsy:SayOk sy) (hb0:B0<=w.heap.size) (hH0:H w)
  (hnext:∀wx,PilX wx B0 pb { x with lb:=w.heap.size } { c with opn:=R } []->H wx->B0<=wx.heap.size->Calls Tryz.prog FN #[.pointer (some ⟨pb,0,none⟩),i6 (within14 now),i6 o.to,.agg #[i6 o.q.kind,i6 o.q.stripe,i6 o.q.epoch,i6 o.q.seq,i6 o.q.mask,i6 o.q.node,i6 o.q.oe,i6 o.q.os,sT o.q.block],.agg #[i6 sy.st,i6 sy.ep,i6 sy.ou,.bool sy.rc.used,i6 sy.rc.fence,i6 sy.rc.de,i6 sy.rc.ds,sT sy.rc.block,.bool sy.rc.op,i6 sy.rc.ie,i6 sy.rc.is,i6 sy.rc.mask,sT sy.rc.staged]] wx (fun e w'=>e=.returned (.tuple #[])∧(∃a,PilX w' B0 pb { X a with lb:=w.heap.size } (C a) (Ls a)∧G a w')∧Kept (PilT es B0 w.heap.size pb x.cb wx) wx w')) :
  Calls Tryz.prog 19 #[.pointer (some ⟨pb,0,none⟩),i6 now,.agg #[i6 o.to,i6 c.frm,i6 o.id,.bool true,i6 0,i6 0,i6 0,i6 0,i6 0,i6 0,i6 0,i6 0,sT ⟨#[]⟩,i6 sy.st,i6 sy.ep,i6 sy.ou,.bool sy.rc.used,i6 sy.rc.fence,i6 sy.rc.de,i6 sy.rc.ds,sT sy.rc.block,.bool sy.rc.op,i6 sy.rc.ie,i6 sy.rc.is,i6 sy.rc.mask,sT sy.rc.staged]] w (fun e w'=>∃a A ca,e=.returned (.slice A (Ls a).length ca)∧OwnR w' w.heap.size 65 26 A (Ls a).length ca (lettersC (C a).frm (Ls a))∧PilS w' B0 pb (X a) (C a)∧G a w'∧Kept (PilT es B0 w.heap.size pb x.cb w) w w'∧Kept (LawT w) w w'):=by
 obtain⟨lb,N,S,cb,lv,busy,kd,at_,da,sn,cn,nx,lg,en,ep,ou,db,te,ts,kn,rc,stl,rd,wr,bl,ud,ak,er,dt,ed⟩:=x
 dsimp only at hbu hnx hnext hcb ⊢
 subst hbu hnx
 have hX:=hS.pilX (lb':=w.heap.size) (Nat.le_refl _)
 refine(pilX_receive (⟨w.heap.size,N,S,cb,lv,true,kd,at_,da,sn,cn,.func (.func FN) #[.pointer (some ⟨pb,0,none⟩)] #[],lg,en,ep,ou,db,te,ts,kn,rc,stl,rd,wr,bl,ud,ak,er,dt,ed⟩:PilC) c [] pb B0 es hes
  (fun w'=>∃a,PilX w' B0 pb { X a with lb:=w.heap.size } (C a) (Ls a)∧G a w') (by rintro w1 w2 ⟨a,h3,h4⟩ hk; exact⟨a,h3.kept0 hk,(hG _).kept0 h4 hk⟩)
  (fun A n ca w'=>∃a,n=(Ls a).length∧OwnR w' w.heap.size 65 26 A n ca (lettersC (C a).frm (Ls a))∧PilS w' B0 pb (X a) (C a)∧G a w') (by rintro A n ca w1 w2 ⟨a,h1,h2,h4,h5⟩ hk; exact⟨a,h1,h2.kept hk (fun _ _ h=>h),h4.kept0 hk,(hG _).kept0 h5 hk⟩)
  H hH FN hFN [] R o sy now hc (fun _ h=>by cases h) hfr hfrm hid hsy w hX hb0 hH0 (fun wx h1 h2 h3=>by have h4:=hnext wx h1 h2 h3; exact h4) (fun wx hE=>?_)).mono fun e w' hq=>?_
 ·obtain⟨a,h3,h4⟩:=hE
  refine(pilX_sent1 { X a with lb:=w.heap.size } (C a) (Ls a) pb B0 wx h3).mono fun e w' hq=>?_
  obtain⟨A,ca,e1,e2,e3,e4,e5⟩:=hq
  obtain⟨v,hB,_⟩:=h3
  dsimp only at e2 e4
  rw[hcb a]at e4
  exact⟨A,(Ls a).length,ca,e1,⟨a,rfl,e2,e3,hG _ _ _ _ h4 e5 (fun y hy=>by subst hy; exact⟨98,by simp,blk_ty hB⟩)⟩,e4.mono fun y _ h=>h.mono rfl⟩
 ·obtain⟨A,n,ca,e1,⟨a,rfl,e2,e4,e5⟩,e6⟩:=hq
  exact⟨a,A,ca,e1,e2,e4,e5,e6,hS.law e6 (Nat.le_refl _) hesl⟩
end Go.Proofs.YtcmpkkapkdlfhaaGreat
namespace Go.Proofs.YtcmpkkapkdlfhaaGreat
open Go.RowKit
set_option maxHeartbeats 4000000
set_option maxRecDepth 100000
section
variable (s:SimM)(b:Nat)(now frm id:Int)(i:Nat)(E O:Int)(w:World)
def snk_v1:List Value:=[i6 8,i6 (i:Int)]++rp 6 (i6 0)++[sT ⟨#[]⟩]
def snk_v2:List Value:=[i6 1,i6 (E+1),i6 O,.bool false,i6 0,i6 0,i6 0,sT ⟨#[]⟩,.bool false,i6 0,i6 0,i6 0,sT ⟨#[]⟩]
def snk_v3:List Value:=[i6 frm,i6 100,i6 id,.bool false,i6 8,i6 (i:Int)]++rp 6 (i6 0)++[sT ⟨#[]⟩,i6 0,i6 0,i6 0,.bool false,i6 0,i6 0,i6 0,sT ⟨#[]⟩,.bool false,i6 0,i6 0,i6 0,sT ⟨#[]⟩]
def snk_v4:List Value:=rp 3 (i6 0)++[.bool false]++rp 8 (i6 0)++[sT ⟨#[]⟩]++rp 3 (i6 0)++[.bool false]++rp 3 (i6 0)++[sT ⟨#[]⟩,.bool false]++rp 3 (i6 0)++[sT ⟨#[]⟩]
def snk_v5:List Value:=[i6 100,i6 frm,i6 id,.bool true]++rp 8 (i6 0)++[sT ⟨#[]⟩,i6 0,i6 0,i6 0,.bool false,i6 0,i6 0,i6 0,sT ⟨#[]⟩,.bool false,i6 0,i6 0,i6 0,sT ⟨#[]⟩]
def snk_v6:List Value:=rp 3 (i6 0)++[.bool false]++rp 3 (i6 0)++[sT ⟨#[]⟩,.bool false]++rp 3 (i6 0)++[sT ⟨#[]⟩]
def snk_v7:List Value:=((((snk_v5 frm id).set 13 (i6 1)).set 14 (i6 (E+1))).set 15 (i6 O))
@[simp] def snk_b1:List Bk:=[⟨s.sb,54,false,s.cells⟩,⟨w.heap.size,65,true,(snk_v3 frm id i)⟩,⟨w.heap.size+1,65,true,(snk_v4)⟩,⟨w.heap.size+2,65,true,(snk_v5 frm id)⟩]
@[simp] def snk_b2(d:Option Nat):List Bk:=[⟨s.sb,54,false,s.cells⟩,⟨w.heap.size,65,true,(snk_v3 frm id i)⟩,⟨w.heap.size+1,65,true,(snk_v4)⟩,⟨w.heap.size+2,65,true,(snk_v5 frm id)⟩,⟨(d.getD 0),63,true,(snk_v2 E O)⟩]
@[simp] def snk_b3(g:Nat)(w:World):List Bk:=[⟨s.sb,54,false,s.cells⟩,⟨w.heap.size,65,true,(snk_v3 frm id i)⟩,⟨w.heap.size+1,65,true,(snk_v4)⟩,⟨w.heap.size+2,65,true,(snk_v5 frm id)⟩,⟨g,63,true,(snk_v2 E O)⟩]
def snk_Q:Exit->Act->World->Prop:=bodyPost Tryz.prog Tryz.f18 (fun e w'=>e=.returned (.tuple #[.agg (List.toArray (snk_v7 frm id E O)),.bool true])∧SimAt w' b (s.setK i ⟨E+1,frm,now+30,O⟩ (Int.toNat (frm-200)) id ⟨1,E+1,O,⟨false,0,0,0,⟨#[]⟩,false,0,0,0,⟨#[]⟩⟩⟩)∧Kept (fun y=>y=s.gL∨y=s.gI∨y=s.gS) w w')
def snk_y2s:List (Nat×Value):=[(0,(pt s.sb 0)),(1,i6 now),(5,(pt w.heap.size 0)),(6,(pt (w.heap.size+1) 0)),(7,.bool false),(8,(pt (w.heap.size+2) 0))]
def snk_y2v(d:Option Nat):List (Option Value):=[some ((pt s.sb 0)),some ((pt s.sb 0)),some ((pt s.sb 3)),some ((pt s.kb 0)),some (i6 now),some ((pt w.heap.size 0)),some (i6 frm),some ((pt w.heap.size 2)),some (i6 id),some ((pt w.heap.size 4)),some (.agg (List.toArray (snk_v1 i))),some (.tuple #[.agg (List.toArray (snk_v2 E O)),.bool true]),some (.tuple #[.agg (List.toArray (snk_v2 E O)),.bool true]),some (.agg (List.toArray (snk_v2 E O))),some (.bool true),some (.pointer (some ⟨(d.getD 0),0,none⟩)),some (.tuple #[]),some (.bool true)]
def snk_y2F(d:Option Nat)(k:Nat):Bool:=([true,true,true,true,true,true,true,true,true,true,true,true,true,true,true,d.isSome,true,true]:List Bool)[k]?.getD true
def snk_y2m(d:Option Nat):List (List Bk):=[(snk_b1 s frm id i w),(snk_b1 s frm id i w),(snk_b2 s frm id i E O w d)]
abbrev snk_y2X(s:SimM)(b:Nat)(now:Int)(frm:Int)(id:Int)(i:Nat)(E:Int)(O:Int)(w:World)(c_:Nat)(d:Option Nat)(W_:World):Prop:=match c_ with|0=>(SimAt W_ b s)∧(∀g_,d=some g_->(w.heap.size+3)<=g_∧Blk W_ g_ 63 (snk_v6))|1=>(SimAt W_ b (s.setK i ⟨E+1,frm,now+30,O⟩ (Int.toNat (frm-200)) id ⟨1,E+1,O,⟨false,0,0,0,⟨#[]⟩,false,0,0,0,⟨#[]⟩⟩⟩))∧(∀g_,d=some g_->(w.heap.size+3)<=g_∧Blk W_ g_ 63 (snk_v6))|2=>((SimAt W_ b (s.setK i ⟨E+1,frm,now+30,O⟩ (Int.toNat (frm-200)) id ⟨1,E+1,O,⟨false,0,0,0,⟨#[]⟩,false,0,0,0,⟨#[]⟩⟩⟩))∧w.heap.size+3<=d.getD 0)∧True|_=>True
def snk_y2C(i_:Nat):Prop:=cY Tryz.prog Tryz.f18 [1,1,1,0,1,0,0] 107 [] (snk_Q s b now frm id i E O w) [.code [1,1,1,0,1,0,1],.code [1,1,1,1]] (snk_y2s s now w) [none,none,none,none,none,none,none,none,none,none,none,some 0,none,none,none,none,some 1,none] 2 (snk_y2v s now frm id i E O w) snk_y2F w (fun y=>y=s.gL∨y=s.gI∨y=s.gS) (snk_y2m s frm id i E O w) (w.heap.size+3) (snk_y2X s b now frm id i E O w) i_
end
theorem ans_keeper(s:SimM)(b i:Nat)(now frm id E H U O v:Int)(hi:i<s.S)(hS8:s.S<=8)(hl:s.lea i=⟨E,H,U,O⟩)(hU:U<=now)(hE:0<=E∧E<16777215)(hnow:0<=now∧now<=1099511627776)(hfr:200<=frm∧frm<202)(hid:1<=id∧id<=1099511627776∧v<id)(hv:s.ids[Int.toNat (frm-200)]?=some v)(hil:s.ids.length=2)(hsl:s.says.length=2)(w:World)(hA:SimAt w b s)(hbw:b<=w.heap.size) :
  Calls Tryz.prog 18 #[.pointer (some ⟨s.sb,0,none⟩),i6 now,.agg #[i6 frm,i6 100,i6 id,.bool false,i6 8,i6 (i:Int),i6 0,i6 0,i6 0,i6 0,i6 0,i6 0,sT ⟨#[]⟩,i6 0,i6 0,i6 0,.bool false,i6 0,i6 0,i6 0,sT ⟨#[]⟩,.bool false,i6 0,i6 0,i6 0,sT ⟨#[]⟩]] w (fun e w'=>e=.returned (.tuple #[.agg #[i6 100,i6 frm,i6 id,.bool true,i6 0,i6 0,i6 0,i6 0,i6 0,i6 0,i6 0,i6 0,sT ⟨#[]⟩,i6 1,i6 (E+1),i6 O,.bool false,i6 0,i6 0,i6 0,sT ⟨#[]⟩,.bool false,i6 0,i6 0,i6 0,sT ⟨#[]⟩],.bool true])∧SimAt w' b (s.setK i ⟨E+1,frm,now+30,O⟩ (Int.toNat (frm-200)) id ⟨1,E+1,O,⟨false,0,0,0,⟨#[]⟩,false,0,0,0,⟨#[]⟩⟩⟩)∧Kept (fun y=>y=s.gL∨y=s.gI∨y=s.gS) w w'):=by
 refine cH (S:=(fun _=>False)) (n:=107) Tryz.func18 (MemOk.start (bk:=[⟨s.sb,54,false,s.cells⟩]) (wn:=[]) (fun b_ hb=>by obtain rfl:=List.mem_singleton.1 hb; exact hA.sim) (fun b_ hb hr=>by obtain rfl:=List.mem_singleton.1 hb; cases hr) (by simp) (by simp)) ?_
 have hgs:=hA.sim.lt
 have hsb:=hA.low.1
 have htk:=hA.tyK
 refine hgE 38 (dz 19 0x1001011801a00380001021800100180010118000103180000) [0,1,5,6,7,8] [fF,tT] [(w.heap.size,3,1),(w.heap.size,1,1),(w.heap.size,0,1),(w.heap.size,2,1),(w.heap.size+2,0,26),(w.heap.size,1,1)] [.code [1,1,1,0,1,0,0],.code [1,1,1,0,1,0,1],.code [1,1,1,1]] ⟨[(0,(pt s.sb 0)),(1,i6 now),(5,(pt w.heap.size 0)),(6,(pt (w.heap.size+1) 0)),(7,.bool false),(8,(pt (w.heap.size+2) 0))],(snk_b1 s frm id i w),[],w.heap.size+3⟩ ?_
 have snk_y2_X:StayY w (fun y=>y=s.gL∨y=s.gI∨y=s.gS) (snk_y2m s frm id i E O w) (snk_y2X s b now frm id i E O w):=by
  intro c_ d wx w' bk hb hm hx hk
  match c_,hb,hx with
  |0,hb,hx=>
   obtain rfl:=Option.some.inj hb
   refine⟨hx.1.kept hk (fun y ⟨b_,hb,hr,he⟩=>by simp at hb; rcases hb with rfl|rfl|rfl|rfl<;>simp at hr he<;>exact .inl (by omega)),fun g_ hg_=>⟨(hx.2 g_ hg_).1,(hx.2 g_ hg_).2.kept hk (fun⟨b_,hb,hr,he⟩=>?_)⟩⟩
   have h9:=(hx.2 g_ hg_).1
   simp at hb
   rcases hb with rfl|rfl|rfl|rfl<;>simp at hr he<;>omega
  |1,hb,hx=>
   obtain rfl:=Option.some.inj hb
   refine⟨hx.1.kept hk (fun y ⟨b_,hb,hr,he⟩=>by simp at hb; rcases hb with rfl|rfl|rfl|rfl<;>simp at hr he<;>exact .inl (by omega)),fun g_ hg_=>⟨(hx.2 g_ hg_).1,(hx.2 g_ hg_).2.kept hk (fun⟨b_,hb,hr,he⟩=>?_)⟩⟩
   have h9:=(hx.2 g_ hg_).1
   simp at hb
   rcases hb with rfl|rfl|rfl|rfl<;>simp at hr he<;>omega
  |2,hb,hx=>
   obtain rfl:=Option.some.inj hb
   exact⟨⟨hx.1.1.kept hk (fun y ⟨b_,hb,hr,he⟩=>by have h9:=hx.1.2; simp at hb; rcases hb with rfl|rfl|rfl|rfl|rfl<;>simp at hr he<;>exact .inl (by omega)),hx.1.2⟩,trivial⟩
  |c_+3,hb,hx=>exact trivial
 have snk_y2_c11:snk_y2C s b now frm id i E O w 11:=cyC (s:=0) (f:=39) (args:=fun d=>[(pt s.kb 0),i6 now,i6 frm,i6 id,.agg (List.toArray (snk_v1 i))]) (ob:=fun d=>[]) (fun(d:Option Nat)(_:Unit)=>d) (fun d=>.tuple #[.agg (List.toArray (snk_v2 E O)),.bool true]) (fun d=>trivial) (fun d wx bk hb hm hx hcame=>by
  obtain rfl:=Option.some.inj hb
  have hxs:=hx.1
  refine(keeperDo (i:Int) frm now E H U O s.leaL s.S s.gL s.gI s.gS s.cL s.kb 0 ⟨by omega,by omega⟩ hS8 (by simp[SimM.leaL]) (by rw[Int.toNat_natCast,SimM.leaL,List.getElem?_map,List.getElem?_range hi]; exact congrArg some hl) hU hE hnow id v s.ids s.says hfr hid hv hil hsl wx hxs.kee hxs.lea hxs.ids hxs.say).mono fun e w' hq=>?_
  obtain⟨h1,h2,h3,h4,h5⟩:=hq
  rw[Int.toNat_natCast]at h2
  exact⟨(),h1,rfl,⟨hxs.setK h5 h2 h3 h4,fun g_ hg_=>⟨(hx.2 g_ hg_).1,(hx.2 g_ hg_).2.kept h5 (fun hy=>absurd (htk _ hy) (by have:=(hx.2 g_ hg_).1; omega))⟩⟩,hm.offA (fun _ h=>h) h5 (fun y hy=>.inl hy) (fun b_ hb hy=>by
   have h8:=blk_ty (hm.blk b_ hb)
   have hK:TysIn [73,3,63] wx b_.g:=by
    rcases hy with h|h|h
    ·exact⟨73,by simp,h▸hxs.lea.ty _ ⟨_,rfl,rfl⟩⟩
    ·exact⟨3,by simp,h▸hxs.ids.ty _ ⟨_,rfl,rfl⟩⟩
    ·exact⟨63,by simp,h▸hxs.say.ty _ ⟨_,rfl,rfl⟩⟩
   exact tysIn_not (by simp at hb; rcases hb with rfl|rfl|rfl|rfl<;>rfl) h8 hK),h5.size⟩)
 have snk_y2_c15:snk_y2C s b now frm id i E O w 15:=cyN 1 63 (snk_v6) (fun _ g=>some g) (fun g=>(pt g 0)) (fun c_ d wx w' bk hcB hb hm hx hk hz hBl=>by
  have hs:=snk_y2_X c_ d wx w' bk hb hm hx hk
  match c_,hb,hx,hs,hcB with
  |0,hb,hx,hs,hcB=>exact⟨hs.1,(fun g_ hg_=>by obtain rfl:=Option.some.inj hg_; exact⟨hz,hBl⟩)⟩
  |1,hb,hx,hs,hcB=>exact⟨hs.1,(fun g_ hg_=>by obtain rfl:=Option.some.inj hg_; exact⟨hz,hBl⟩)⟩
  |c_+2,hb,hx,hs,hcB=>exact absurd hcB (by omega))
 have snk_y2_c16:snk_y2C s b now frm id i E O w 16:=cyS (s:=1) (x:=fun d=>Instr.storeAt 63 (.pointer (some ⟨(d.getD 0),0,none⟩)) (.agg (List.toArray (snk_v2 E O)))) (fun(d:Option Nat)(_:Unit)=>d) (fun d wx bk hb hm hx hcame=>by
  obtain rfl:=Option.some.inj hb
  obtain⟨g_,rfl⟩:∃g_,d=some g_:=Option.isSome_iff_exists.1 (hcame 15 (List.mem_of_getElem? (i:=0) (by kernel_rfl)) (dst_ne (k:=9) (by kernel_rfl)))
  obtain⟨hzg,hBg⟩:=hx.2 g_ rfl
  obtain⟨w',h1,hB1,hk1,hz1⟩:=store_to (P:=Tryz.prog) (t:=63) (v:=.agg (List.toArray (snk_v2 E O))) (by kernel_rfl) hBg rfl (by show 0+13<=13; omega) (ones_all rfl) rfl
  refine⟨(),w',h1,rfl,⟨⟨hx.1.kept hk1 (fun y hy=>.inl (by omega)),hzg⟩,trivial⟩,hm.adopt (g:=g_) hk1 hB1 (by omega) (fun b_ hb e=>?_),Nat.le_of_eq hz1.symm⟩
  have h8:=blk_ty (hm.blk b_ hb)
  simp at hb
  rcases hb with rfl|rfl|rfl|rfl<;>exact ty_off (blk_ty hBg) e h8 rfl)
 have snk_y2_R:∀e_∈(rZsY 2 [0,1,2,4,5,7,9,12,13,14,17]++[rY 3 2 0 3 1 s.sb,rY 6 2 1 0 1 w.heap.size,rY 8 2 1 2 1 w.heap.size,rY 10 2 1 4 9 w.heap.size]:List (RegY (Option Nat))),snk_y2C s b now frm id i E O w e_.i:=certsY_reg _ snk_y2_X (fun d=>by kernel_rfl) (by kernel_rfl) (fun d sz=>by kernel_rfl)
 have snk_y2_A:∀i_,i_<18->snk_y2C s b now frm id i E O w i_:=allY (l:=[11,15,16]) (by kernel_rfl) snk_y2_R ⟨snk_y2_c11,snk_y2_c15,snk_y2_c16,trivial⟩
 refine holds_mixY (Δ:=Option Nat) (fun y=>y=s.gL∨y=s.gI∨y=s.gS) (snk_y2v s now frm id i E O w) snk_y2F (snk_y2m s frm id i E O w) (snk_y2X s b now frm id i E O w) [0,5,6,7,8,9,10] (fun d=>[(0,(pt s.sb 0)),(5,(pt w.heap.size 0)),(6,(pt (w.heap.size+1) 0)),(7,.bool false),(8,(pt (w.heap.size+2) 0)),(9,.pointer (some ⟨(d.getD 0),0,none⟩)),(10,.bool true)]) (fun d=>(snk_b2 s frm id i E O w d)) none (fun _ h=>h.elim) (by kernel_rfl) (by kernel_rfl) (by kernel_rfl) (fun wx hm=>⟨hA.kept hm.kept.drew (fun _ h=>h.elim),fun _ h=>by cases h⟩) (by kernel_rfl) snk_y2_A (fun d=>by kernel_rfl) (fun d=>by kernel_rfl) (fun d W1 hfin hX1 hz1 hm1=>?_)
 obtain⟨g,rfl⟩:∃g,d=some g:=Option.isSome_iff_exists.1 (hfin 15 (Nat.le_of_ble_eq_true (by kernel_rfl)) (dst_ne (k:=9) (by kernel_rfl)))
 obtain⟨⟨hA1,hg0⟩,_⟩:=hX1
 replace hg0:w.heap.size+3<=g:=hg0
 replace hm1:MemOk w (fun y=>y=s.gL∨y=s.gI∨y=s.gS) (snk_b3 s frm id i E O g w) [] W1.heap.size W1:=hm1
 change Holds _ _ _ _ W1 (Turned (snk_b3 s frm id i E O g w)) _ [.code [1,1,1,0,1,0,1],.code [1,1,1,1]] ⟨[(0,(pt s.sb 0)),(5,(pt w.heap.size 0)),(6,(pt (w.heap.size+1) 0)),(7,.bool false),(8,(pt (w.heap.size+2) 0)),(9,(pt g 0)),(10,.bool true)],(snk_b3 s frm id i E O g w),[],W1.heap.size⟩
 refine hgS 16 (dz 7 0x1a002801a00380d0d3800d0048) [0,5,6,7,8] [] [(g,0,13),(w.heap.size+2,13,13),(w.heap.size+2,0,26),(w.heap.size+1,0,26)] [.code [1,1,1,0,1,0,1,1,1],.code [1,1,1,1]] [⟨s.sb,54,false,s.cells⟩,⟨w.heap.size,65,true,(snk_v3 frm id i)⟩,⟨w.heap.size+1,65,true,(snk_v7 frm id E O)⟩,⟨w.heap.size+2,65,true,(snk_v7 frm id E O)⟩,⟨g,63,true,(snk_v2 E O)⟩] [] W1.heap.size ?_
 refine hrt [[⟨false,2,0,26⟩]] [.agg (List.toArray (snk_v7 frm id E O)),.bool true] [(w.heap.size+1,0,26)] ?_
 intro wx hm
 exact⟨rfl,hA1.kept hm.kept (fun y ⟨b_,hb,hr,he⟩=>by simp at hb; rcases hb with rfl|rfl|rfl|rfl|rfl<;>simp at hr he<;>exact .inl (by omega)),(MemOk.bck hm1 hm).kept⟩
end Go.Proofs.YtcmpkkapkdlfhaaGreat
