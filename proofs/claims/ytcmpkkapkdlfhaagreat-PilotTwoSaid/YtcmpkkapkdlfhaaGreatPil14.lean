import Derived.Test.YtcmpkkapkdlfhaaGreatPil6
import Derived.Test.YtcmpkkapkdlfhaaGreatPil8
namespace Go.Proofs.YtcmpkkapkdlfhaaGreat
open Go.RowKit
set_option maxHeartbeats 4000000
set_option maxRecDepth 100000
section
variable (x:PilC)(pb:Nat)(now:Int)(v1:Value)(_:Unit)
@[simp] def pry_b1:List Bk:=[⟨pb,98,true,(PilC.cells { x with nx:=.nilFunc,lg:=false,db:=false,ak:=v1 })⟩]
@[simp] def pry_b2:List Bk:=[⟨pb,98,true,(PilC.cells { x with lv:=(lvS x.lv (Int.toNat x.sn) (⟨true,x.ep,x.ou,0,x.en⟩)),nx:=.nilFunc,lg:=false,db:=false,ak:=v1 })⟩]
def pry_y4s:List (Nat×Value):=[(0,(pt pb 0)),(1,i6 now),(4,(pt pb 44))]
def pry_y4v(_:Unit):List (Option Value):=[some ((pt pb 0)),some ((pt pb 44)),some ((pt pb 44)),some ((pt pb 47)),some (i6 x.sn),some ((pt pb 44)),some ((pt pb 44)),some ((pt pb 52)),some (i6 x.ep),some ((pt pb 44)),some ((pt pb 44)),some ((pt pb 53)),some (i6 x.ou),some ((pt pb 44)),some ((pt pb 44)),some ((pt pb 51)),some (i6 x.en),some (.agg #[.bool true,i6 x.ep,i6 x.ou,i6 0,i6 x.en]),some ((pt pb 0)),some ((pt pb 3)),some (.pointer (some ⟨pb,3+(Int.toNat x.sn)*5,none⟩)),some (.tuple #[])]
def pry_y4F(_:Unit)(k:Nat):Bool:=([true,true,true,true,true,true,true,true,true,true,true,true,true,true,true,true,true,true,true,true,true,true]:List Bool)[k]?.getD true
def pry_y4m(_:Unit):List (List Bk):=[(pry_b1 x pb v1),(pry_b2 x pb v1)]
abbrev pry_y4X(x:PilC)(c:CM)(base:Nat)(v1:Value)(L:List OneM)(c_:Nat)(_:Unit)(W_:World):Prop:=match c_ with|0=>PilR W_ base x.lb x.cb ({ c with opn:=[] }) L v1|1=>PilR W_ base x.lb x.cb ({ c with opn:=[] }) L v1|_=>True
def pry_y4C(c:CM)(pb:Nat)(base:Nat)(now:Int)(w:World)(W1:World)(v1:Value)(L:List OneM)(E:World->Prop)(i_:Nat):Prop:=cY Tryz.prog Tryz.f142 [1,1,0] 75 [] (bodyPost Tryz.prog Tryz.f142 (fun e w'=>e=.returned (.tuple #[])∧E w'∧Kept (PilT [141] base x.lb pb x.cb w) w w')) [.code [1,1,1]] (pry_y4s pb now) [none,none,none,none,none,none,none,none,none,none,none,none,none,none,none,none,none,none,none,none,none,some 0] 1 (pry_y4v x pb) pry_y4F W1 (fun y=>(Turned (pry_b1 x pb v1)) y∨(PilT [141] base x.lb pb x.cb W1) y) (pry_y4m x pb v1) W1.heap.size (pry_y4X x c base v1 L) i_
end
theorem pilX_ready(x:PilC)(c:CM)(L:List OneM)(pb:Nat)(base:Nat)(E:World->Prop)(hE:∀w w',E w->Kept (fun _=>False) w w'->E w')(now:Int)(hg:3<=x.N∧x.N<=6∧1<=x.S∧x.S<=8)(hs:0<=x.sn∧x.sn<x.S)(hdo:∀wx,PilX wx base pb ({ x with lv:=lvS x.lv (Int.toNat x.sn) ⟨true,x.ep,x.ou,0,x.en⟩,nx:=.nilFunc,lg:=false,db:=false }) ({ c with opn:=[] }) L->base<=wx.heap.size->Calls Tryz.prog 32 #[.pointer (some ⟨pb,0,none⟩),i6 now] wx (fun e w'=>e=.returned (.tuple #[])∧E w'∧Kept (PilT [141] base x.lb pb x.cb wx) wx w'))(w:World)(hX:PilX w base pb ({ x with db:=false }) c L)(hb0:base<=w.heap.size) :
  Calls Tryz.prog 142 #[.pointer (some ⟨pb,0,none⟩),i6 now] w (fun e w'=>e=.returned (.tuple #[])∧E w'∧Kept (PilT [141] base x.lb pb x.cb w) w w'):=by
 obtain⟨v,hP,hR⟩:=hX
 have hPT:=blk_ty hP
 refine cH (S:=(fun y=>y=pb)) (n:=75) Tryz.func142 (MemOk.startP hP) ?_
 refine hgS 6 [oh0] [0,1,5] [] [] [.ops [0] [1],.code [1]] [⟨pb,98,true,(PilC.cells { x with db:=false,ak:=v })⟩] [] w.heap.size ?_
 refine hcV (w:=w) (S':=(PilT [141] base x.lb pb x.cb w)) (Y:=Value) (fun v1=>.tuple #[]) (fun v1=>(pry_b1 x pb v1)) (fun v1 W_=>PilR W_ base x.lb x.cb ({ c with opn:=[] }) L v1) (show _=some (53,[(pt pb 0),.nilFunc],some 6,[])by kernel_rfl) tI (fun wx hm=>?_) (fun v1 W1 hX1 hm1=>?_)
 ·have hm0_:=(hm.wide (S':=PilT [141] base x.lb pb x.cb w) (fun _ h=>.inl h))
  have hb1:base<=wx.heap.size:=Nat.le_trans hb0 hm0_.kept.size
  have hR_:=(hR.keptT (es:=[98]) hm.kept (fun y hy=>by subst hy; exact⟨98,by simp,hPT⟩) rfl rfl rfl)
  have hX0:PilX wx base pb ({ x with db:=false,ak:=v }) c L:=⟨_,hm.at_ 0 rfl,hR_⟩
  refine(pilX_enterNil hX0).mono fun e w' hq_=>?_
  obtain⟨he_,⟨v_,hB_,hR_2⟩,h3_⟩:=hq_
  have hT_:=hX0.tys (es:=[])
  exact⟨v_,he_,hR_2,hm0_.turnP h3_ (pilT_up hm0_.kept rfl) hB_ (off_tysP hm hT_ rfl)⟩
 have hR1:=hX1
 refine hgE 12 (dz 4 0) [0,1,4] [] [] [.code [1,1,0],.code [1,1,1]] ⟨[(0,(pt pb 0)),(1,i6 now),(4,(pt pb 44))],(pry_b1 x pb v1),[],W1.heap.size⟩ ?_
 have pry_y4_X:StayY W1 (fun y=>(Turned (pry_b1 x pb v1)) y∨(PilT [141] base x.lb pb x.cb W1) y) (pry_y4m x pb v1) (pry_y4X x c base v1 L):=by
  intro c_ d wx w' bk hb hm hx hk
  match c_,hb,hx with
  |0,hb,hx=>
   obtain rfl:=Option.some.inj hb
   exact(hx.keptT hk (turned_tys hm) rfl rfl rfl)
  |1,hb,hx=>
   obtain rfl:=Option.some.inj hb
   exact(hx.keptT hk (turned_tys hm) rfl rfl rfl)
  |c_+2,hb,hx=>exact trivial
 have pry_y4_c21:pry_y4C x c pb base now w W1 v1 L E 21:=cyS (s:=0) (x:=fun d=>Instr.storeAt 88 (.pointer (some ⟨pb,3+(Int.toNat x.sn)*5,none⟩)) (.agg #[.bool true,i6 x.ep,i6 x.ou,i6 0,i6 x.en])) (fun(d:Unit)(_:Unit)=>d) (fun d wx bk hb hm hx hcame=>by
  obtain rfl:=Option.some.inj hb
  obtain⟨w',h1,hB1,hk1,hz1⟩:=store_to (P:=Tryz.prog) (t:=88) (v:=.agg #[.bool true,i6 x.ep,i6 x.ou,i6 0,i6 x.en]) (by kernel_rfl) (hm.at_ 0 rfl) rfl (by show(3+(Int.toNat x.sn)*5)+5<=73; omega) (ones_all rfl) (pil_setL ({ x with nx:=.nilFunc,lg:=false,db:=false,ak:=v1 }) (by omega) (⟨true,x.ep,x.ou,0,x.en⟩))
  exact⟨(),w',h1,rfl,(hx.keptT (es:=[98]) hk1 (fun y hy=>by subst hy; exact⟨98,by simp,blk_ty (hm.at_ 0 rfl)⟩) rfl rfl rfl),(hm.set1 0 rfl rfl hk1 hB1).2,Nat.le_of_eq hz1.symm⟩)
 have pry_y4_R:∀e_∈(rZsY 1 [0,1,2,3,5,6,7,9,10,11,13,14,15,17,18,19]++[rY 4 1 0 47 1 pb,rY 8 1 0 52 1 pb,rY 12 1 0 53 1 pb,rY 16 1 0 51 1 pb,⟨20,1,oh2,fun _=>[oE ((0:Int)<=x.sn∧x.sn<((8:Nat):Int))],fun _=>[]⟩]:List (RegY (Unit))),pry_y4C x c pb base now w W1 v1 L E e_.i:=certsY_reg _ pry_y4_X (fun d=>by kernel_rfl) (by kernel_rfl) (fun d sz=>by kernel_rfl)
 have pry_y4_A:∀i_,i_<22->pry_y4C x c pb base now w W1 v1 L E i_:=allY (l:=[21]) (by kernel_rfl) pry_y4_R ⟨pry_y4_c21,trivial⟩
 refine holds_mixY (Δ:=Unit) (fun y=>(Turned (pry_b1 x pb v1)) y∨(PilT [141] base x.lb pb x.cb W1) y) (pry_y4v x pb) pry_y4F (pry_y4m x pb v1) (pry_y4X x c base v1 L) [0,1,4] (fun d=>[(0,(pt pb 0)),(1,i6 now),(4,(pt pb 44))]) (fun d=>(pry_b2 x pb v1)) () (fun _ h=>.inl h) (by kernel_rfl) (by kernel_rfl) (by kernel_rfl) (fun wx hm=>(hR1.keptT hm.kept.drew (turned_tys hm1) rfl rfl rfl)) (by kernel_rfl) pry_y4_A (fun d=>by kernel_rfl) (fun d=>by kernel_rfl) (fun d W2 hfin hX2 hm02 hm2=>?_)
 replace hm2:=hm1.bckS hm2 (fun y hy=>hy.elim (fun⟨b,hb,hr,he⟩=>he▸hm1.own b hb hr) (fun h=>pilT_up hm1.kept rfl y h))
 have hR2:=hX2
 replace hR2:PilR W2 base x.lb x.cb ({ c with opn:=[] }) L v1:=hR2
 replace hm2:MemOk w (PilT [141] base x.lb pb x.cb w) (pry_b2 x pb v1) [] W2.heap.size W2:=hm2
 change Holds _ _ _ _ W2 (Turned (pry_b2 x pb v1)) _ [.code [1,1,1]] ⟨[(0,(pt pb 0)),(1,i6 now),(4,(pt pb 44))],(pry_b2 x pb v1),[],W2.heap.size⟩
 refine hgS 16 (dz 7 325091328) [72,73] [fF] [(pb,54,1)] [.ops [1,1,1,1] [2]] (pry_b2 x pb v1) [] W2.heap.size ?_
 refine hcV (w:=w) (S':=(PilT [141] base x.lb pb x.cb w)) (Y:=Unit) (fun _=>.tuple #[]) (fun _=>[]) (fun _ W_=>E W_) (show _=some (32,[(pt pb 0),i6 now],some 74,[])by kernel_rfl) tI (fun wx hm=>?_) (fun y_ W3 hE3 hm3=>?_)
 ·have hm0_:=(MemOk.bck hm2 hm)
  have hb1:base<=wx.heap.size:=Nat.le_trans hb0 hm0_.kept.size
  have hR_:=(hR2.keptT hm.kept (turned_tys hm2) rfl rfl rfl)
  have hX0:PilX wx base pb ({ x with lv:=(lvS x.lv (Int.toNat x.sn) (⟨true,x.ep,x.ou,0,x.en⟩)),nx:=.nilFunc,lg:=false,db:=false,ak:=v }) ({ c with opn:=[] }) L:=⟨_,hm.at_ 0 rfl,hR_⟩
  refine(hdo wx hX0 hb1).mono fun e w' hq_=>?_
  obtain⟨he_,hE_,h3_⟩:=hq_
  exact⟨(),he_,hE_,hm0_.none_.offA (fun _ h=>h) h3_ (pilT_up hm0_.kept rfl) (fun b hb=>by cases hb)⟩
 refine hgE 4 [] [] [] [] [] ⟨[],[],[],W3.heap.size⟩ ?_
 refine holds_end [] (show _=some ([],dupR [])by kernel_rfl) ?_
 intro wx hm
 exact⟨rfl,hE _ _ hE3 (hm.kept.mono (fun k _ h=>by obtain⟨b,hb,_⟩:=h; cases hb)),(MemOk.bck hm3 hm).kept⟩
section
variable (x:PilC)(pb:Nat)(now:Int)(v1:Value)(n gK gR:Nat)
@[simp] def pes_b1:List Bk:=[⟨pb,98,true,(PilC.cells { x with nx:=(.func (.func 140) #[(pt pb 0)] #[]),lg:=false,kn:=(.slice (some ⟨gK,0,none⟩) n n),rc:=(.slice (some ⟨gR,0,none⟩) n n),ak:=v1 })⟩]
@[simp] def pes_b2(v0:Value)(gK:Nat)(gR:Nat):List Bk:=[⟨pb,98,true,(PilC.cells { x with nx:=(.func (.func 140) #[(pt pb 0)] #[]),lg:=false,kn:=(.slice (some ⟨gK,0,none⟩) n n),rc:=(.slice (some ⟨gR,0,none⟩) n n),stl:=false,ak:=v0 })⟩]
theorem pes_q4(W1:World)(v1:Value)(n:Nat)(gK:Nat)(gR:Nat):Out.prune [0,1,4,5,6] (qList Tryz.prog 78 W1 (Turned (pes_b1 x pb v1 n gK gR)) (opsOf (getCode (bodyOf Tryz.f126) [1,1,0])).toList ⟨[(0,(pt pb 0)),(1,i6 now),(4,(pt pb 44))],(pes_b1 x pb v1 n gK gR),[],W1.heap.size⟩ [.op oh0,.op oh0,.op oh0,.op (oA 0 47 1),.op oh0,.op oh0,.op oh0,.op (oA 0 52 1),.op oh0,.op oh0,.op oh0,.op (oA 0 57 1),.op oh0,.op oh0,.op oh0,.op (oA 0 58 1),.call (.tuple #[.slice none 0 0,.slice none 0 0]),.op oh0,.op oh0,.op oh0,.op oh0,.op oh0])=some ⟨[∀w',MemC W1 (Turned (pes_b1 x pb v1 n gK gR)) (pes_b1 x pb v1 n gK gR) [] W1.heap.size w'->Calls Tryz.prog 141 #[i6 x.sn,i6 x.ep,.slice (some ⟨gK,0,none⟩) n n,.slice (some ⟨gR,0,none⟩) n n] w' (RetK (.tuple #[.slice none 0 0,.slice none 0 0]) w')],dupR [(pb,47,1),(pb,52,1),(pb,57,1),(pb,58,1)],⟨[(0,(pt pb 0)),(1,i6 now),(4,(pt pb 44)),(5,.slice none 0 0),(6,.slice none 0 0)],(pes_b1 x pb v1 n gK gR),[],W1.heap.size⟩⟩:=by kernel_rfl
def pes_I(c:CM)(pb:Nat)(base:Nat)(now:Int)(L:List OneM)(n:Nat)(gK:Nat)(gR:Nat)(R:List RecM)(m:Nat)(st:St)(W0:World):Prop:=
 ∃(v0:Value)(z:Nat),m=0∧PilR W0 base x.lb x.cb ({ c with opn:=[] }) L v0∧OwnR W0 base 4 1 (some ⟨gK,0,none⟩) n n (flatV boolC (List.replicate n true))∧OwnR W0 base 61 10 (some ⟨gR,0,none⟩) n n (flatV RecM.cells R)∧st=⟨[(0,(pt pb 0)),(1,i6 now),(4,(pt pb 44)),(5,.slice none 0 0),(6,.slice none 0 0),(39,.slice none 0 0),(40,i6 0),(41,i6 0)],(pes_b2 x pb n v0 gK gR),[],z⟩
end
theorem pilX_enterSettle(x:PilC)(c:CM)(L:List OneM)(pb:Nat)(base:Nat)(E:World->Prop)(hE:∀w w',E w->Kept (fun _=>False) w w'->E w')(n:Nat)(R:List RecM)(gK gR:Nat)(now:Int)(hn:0<n∧n<=6)(hRn:R.length=n)(hRo:∀r∈R,r.op=false)(hdo:∀wx,PilX wx base pb ({ x with nx:=.func (.func 140) #[.pointer (some ⟨pb,0,none⟩)] #[],lg:=false,stl:=false,kn:=.slice (some ⟨gK,0,none⟩) n n,rc:=.slice (some ⟨gR,0,none⟩) n n }) ({ c with opn:=[] }) L->base<=wx.heap.size->Calls Tryz.prog 142 #[.pointer (some ⟨pb,0,none⟩),i6 now] wx (fun e w'=>e=.returned (.tuple #[])∧E w'∧Kept (PilT [141] base x.lb pb x.cb wx) wx w'))(w:World)(hX:PilX w base pb ({ x with kn:=(.slice (some ⟨gK,0,none⟩) n n),rc:=(.slice (some ⟨gR,0,none⟩) n n) }) c L)(h_kn:OwnR w base 4 1 (some ⟨gK,0,none⟩) n n (flatV boolC (List.replicate n true)))(h_rc:OwnR w base 61 10 (some ⟨gR,0,none⟩) n n (flatV RecM.cells R))(hb0:base<=w.heap.size) :
  Calls Tryz.prog 126 #[.pointer (some ⟨pb,0,none⟩),i6 now] w (fun e w'=>e=.returned (.tuple #[])∧E w'∧Kept (PilT [141] base x.lb pb x.cb w) w w'):=by
 obtain⟨v,hP,hR⟩:=hX
 have hPT:=blk_ty hP
 refine cH (S:=(fun y=>y=pb)) (n:=78) Tryz.func126 (MemOk.startP hP) ?_
 refine hgS 8 (dz 3 0) [0,1,9,11] [] [] [.ops [0] [3],.code [1]] [⟨pb,98,true,(PilC.cells { x with kn:=(.slice (some ⟨gK,0,none⟩) n n),rc:=(.slice (some ⟨gR,0,none⟩) n n),ak:=v })⟩] [] w.heap.size ?_
 refine hcV (w:=w) (S':=(PilT [141] base x.lb pb x.cb w)) (Y:=Value) (fun v1=>.tuple #[]) (fun v1=>(pes_b1 x pb v1 n gK gR)) (fun v1 W_=>PilR W_ base x.lb x.cb ({ c with opn:=[] }) L v1∧OwnR W_ base 4 1 (some ⟨gK,0,none⟩) n n (flatV boolC (List.replicate n true))∧OwnR W_ base 61 10 (some ⟨gR,0,none⟩) n n (flatV RecM.cells R)) (show _=some (53,[(pt pb 0),.func (.func 140) #[(pt pb 0)] #[]],some 12,[])by kernel_rfl) tI (fun wx hm=>?_) (fun v1 W1 hX1 hm1=>?_)
 ·have hm0_:=(hm.wide (S':=PilT [141] base x.lb pb x.cb w) (fun _ h=>.inl h))
  have hb1:base<=wx.heap.size:=Nat.le_trans hb0 hm0_.kept.size
  have hR_:=(hR.keptT (es:=[98]) hm.kept (fun y hy=>by subst hy; exact⟨98,by simp,hPT⟩) rfl rfl rfl)
  have h_kn_:=(h_kn.keptT (es:=[98]) hm.kept (fun y hy=>by subst hy; exact⟨98,by simp,hPT⟩) rfl)
  have h_rc_:=(h_rc.keptT (es:=[98]) hm.kept (fun y hy=>by subst hy; exact⟨98,by simp,hPT⟩) rfl)
  have hX0:PilX wx base pb ({ x with kn:=(.slice (some ⟨gK,0,none⟩) n n),rc:=(.slice (some ⟨gR,0,none⟩) n n),ak:=v }) c L:=⟨_,hm.at_ 0 rfl,hR_⟩
  refine(pilX_enter (.func 140) #[(pt pb 0)] #[] hX0).mono fun e w' hq_=>?_
  obtain⟨he_,⟨v_,hB_,hR_2⟩,h3_⟩:=hq_
  have hT_:=hX0.tys (es:=[])
  exact⟨v_,he_,⟨hR_2,(h_kn_.keptT h3_ hT_ rfl),(h_rc_.keptT h3_ hT_ rfl)⟩,hm0_.turnP h3_ (pilT_up hm0_.kept rfl) hB_ (off_tysP hm hT_ rfl)⟩
 obtain⟨hR1,h1_kn,h1_rc⟩:=hX1
 refine hgE 12 (dz 4 0) [0,1,4] [] [] [.code [1,1,0],.code [1,1,1]] ⟨[(0,(pt pb 0)),(1,i6 now),(4,(pt pb 44))],(pes_b1 x pb v1 n gK gR),[],W1.heap.size⟩ ?_
 refine holds_quiet _ _ (by kernel_rfl) (by kernel_rfl) (by kernel_rfl) (pes_q4 x pb now W1 v1 n gK gR) ⟨(fun wx hm=>settleAsks_none x.sn x.ep n R gK gR n n (by omega) (by omega) hRn hRo wx ((h1_kn.keptT hm.2.kept (turned_tys hm1) rfl).own gK ⟨_,rfl,rfl⟩).2 (fun j v hj=>by rw[Nat.zero_add]; exact own_cell (h1_kn.keptT hm.2.kept (turned_tys hm1) rfl) (by rw[flat_bools]; exact hj)) ((h1_rc.keptT hm.2.kept (turned_tys hm1) rfl).own gR ⟨_,rfl,rfl⟩).2 (fun j v hj=>by rw[Nat.zero_add]; exact own_cell (h1_rc.keptT hm.2.kept (turned_tys hm1) rfl) hj)),trivial⟩ fun z4 hz4=>?_
 replace hz4:W1.heap.size<=z4:=hz4
 refine hgE 18 (dz 7 330334208) [0,1,4,5,6,39,40,41] [] [(pb,59,1)] [.code [1,1,1,1,0,1,0],.blk 0,.code [1,1,1,1,1]] ⟨[(0,(pt pb 0)),(1,i6 now),(4,(pt pb 44)),(5,.slice none 0 0),(6,.slice none 0 0),(39,.slice none 0 0),(40,i6 0),(41,i6 0)],[⟨pb,98,true,(PilC.cells { x with nx:=(.func (.func 140) #[(pt pb 0)] #[]),lg:=false,kn:=(.slice (some ⟨gK,0,none⟩) n n),rc:=(.slice (some ⟨gR,0,none⟩) n n),stl:=false,ak:=v1 })⟩],[],z4⟩ ?_
 refine holds_loopW (w:=w) (S':=PilT [141] base x.lb pb x.cb w) (pes_I x c pb base now L n gK gR R) 0 (by kernel_rfl) (fun W0 hm=>⟨⟨v1,_,rfl,(hR1.keptT hm.kept (turned_tys hm1) rfl rfl rfl),(h1_kn.keptT hm.kept (turned_tys hm1) rfl),(h1_rc.keptT hm.kept (turned_tys hm1) rfl),rfl⟩,(MemOk.bck hm1 hm)⟩) ?_
 rintro m _ W2 ⟨v0,z,hh2_0,hR2,h2_kn,h2_rc,rfl⟩ hm2 J hJ
 refine hgS 20 (dz 8 1048576) [75,76] [fF,tT] [] [.ops [1,1,1,1,1,1,0] [2]] (pes_b2 x pb n v0 gK gR) [] W2.heap.size ?_
 refine hcV (w:=w) (S':=(PilT [141] base x.lb pb x.cb w)) (Y:=Unit) (fun _=>.tuple #[]) (fun _=>[]) (fun _ W_=>E W_) (show _=some (142,[(pt pb 0),i6 now],some 77,[])by kernel_rfl) tI (fun wx hm=>?_) (fun y_ W3 hE3 hm3=>?_)
 ·have hm0_:=(MemOk.bck hm2 hm)
  have hb1:base<=wx.heap.size:=Nat.le_trans hb0 hm0_.kept.size
  have hR_:=(hR2.keptT hm.kept (turned_tys hm2) rfl rfl rfl)
  have h_kn_:=(h2_kn.keptT hm.kept (turned_tys hm2) rfl)
  have h_rc_:=(h2_rc.keptT hm.kept (turned_tys hm2) rfl)
  have hX0:PilX wx base pb ({ x with nx:=(.func (.func 140) #[(pt pb 0)] #[]),lg:=false,kn:=(.slice (some ⟨gK,0,none⟩) n n),rc:=(.slice (some ⟨gR,0,none⟩) n n),stl:=false,ak:=v }) ({ c with opn:=[] }) L:=⟨_,hm.at_ 0 rfl,hR_⟩
  refine(hdo wx hX0 hb1).mono fun e w' hq_=>?_
  obtain⟨he_,hE_,h3_⟩:=hq_
  exact⟨(),he_,hE_,hm0_.none_.offA (fun _ h=>h) h3_ (pilT_up hm0_.kept rfl) (fun b hb=>by cases hb)⟩
 refine hgE 4 [] [] [] [] [] ⟨[],[],[],W3.heap.size⟩ ?_
 refine holds_end [] (show _=some ([],dupR [])by kernel_rfl) ?_
 intro wx hm
 exact⟨rfl,hE _ _ hE3 (hm.kept.mono (fun k _ h=>by obtain⟨b,hb,_⟩:=h; cases hb)),(MemOk.bck hm3 hm).kept⟩
def updP(AQ:PartM->AskM)(N sn:Int)(U:List PartM):List (Int×AskM):=U.map fun p=>((p.col+sn)%N,AQ p)
theorem updP_take{AQ:PartM->AskM}{N sn:Int}{U:List PartM}{i:Nat}{p:PartM}(h:U[i]?=some p):updP AQ N sn (U.take (i+1))=updP AQ N sn (U.take i)++[((p.col+sn)%N,AQ p)]:=by
 rw[List.take_add_one,h]; simp[updP]
theorem askFix{q:AskM}{s:Int}(h:q.stripe=s):{ q with stripe:=s }=q:=by subst h; rfl
theorem updP_len(AQ:PartM->AskM)(N sn:Int)(U:List PartM):(updP AQ N sn U).length=U.length:=by simp[updP]
section
variable (x:PilC)(pb:Nat)(now:Int)(W5:World)(c1 c2:Nat)(v0:Value)(U:List PartM)(AQ:PartM->AskM)(ub:Nat)(p:PartM)
def peu_v1:List Value:=[i6 ((AQ p).kind),i6 ((AQ p).stripe),i6 ((AQ p).epoch),i6 ((AQ p).seq),i6 ((AQ p).mask),i6 ((AQ p).node),i6 ((AQ p).oe),i6 ((AQ p).os),sT ((AQ p).block)]
@[simp] def peu_b1:List Bk:=[⟨pb,98,true,(PilC.cells { x with nx:=(.func (.func 112) #[(pt pb 0)] #[]),lg:=false,ud:=((pt ub 0)),ak:=v0 })⟩]
@[simp] def peu_b2:List Bk:=[⟨pb,98,true,(PilC.cells { x with nx:=(.func (.func 112) #[(pt pb 0)] #[]),lg:=false,ud:=((pt ub 0)),ak:=v0 })⟩,⟨W5.heap.size,59,true,(peu_v1 AQ p)⟩]
@[simp] def peu_b3(v1:Value)(ub:Nat):List Bk:=[⟨pb,98,true,(PilC.cells { x with nx:=(.func (.func 112) #[(pt pb 0)] #[]),lg:=false,ud:=((pt ub 0)),ak:=v1 })⟩]
def peu_I(c:CM)(pb:Nat)(base:Nat)(now:Int)(A1:Option Addr)(A2:Option Addr)(c1:Nat)(c2:Nat)(L:List OneM)(U:List PartM)(AQ:PartM->AskM)(ub:Nat)(gP:Nat)(cU:Nat)(mk:Int)(te:Int)(ts:Int)(m:Nat)(st:St)(W0:World):Prop:=
 ∃(i:Nat)(v0:Value)(z:Nat),m+i=U.length∧i<=U.length∧PilR W0 base x.lb x.cb (cmA c now (updP AQ x.N x.sn (U.take i))) (L++onesA now c.last (updP AQ x.N x.sn (U.take i))) v0∧OwnR W0 base 178 7 (some ⟨ub,0,none⟩) 1 1 (updC x.sn mk te ts (.slice (some ⟨gP,0,none⟩) U.length cU) true)∧OwnR W0 base 180 4 (some ⟨gP,0,none⟩) U.length cU (flatV PartM.cells U)∧OwnR W0 base 3 1 A1 U.length c1 (flatV colC U)∧OwnR W0 base 59 9 A2 U.length c2 (flatV (fun p_=>(AQ p_).cells) U)∧st=⟨[(0,(pt pb 0)),(1,i6 now),(4,.slice A1 U.length c1),(21,.slice A2 U.length c2),(22,i6 ((U.length:Nat):Int)),(23,i6 (i:Int))],(peu_b1 x pb v0 ub),[],z⟩
theorem peu_q9(i:Nat)(v0:Value)(U:List PartM)(AQ:PartM->AskM)(ub:Nat)(p:PartM)(gA:Nat)(gB:Nat):Out.prune [0,1,4,21,22,23,28,29,35,36] (qList Tryz.prog 39 W5 (Turned (peu_b1 x pb v0 ub)) ((opsOf (getCode (bodyOf Tryz.f89) [1,1,1,0,0,1,1,0,0,1])).toList.take 9) ⟨[(0,(pt pb 0)),(1,i6 now),(4,.slice (some ⟨gA,0,none⟩) U.length c1),(6,i6 (i:Int)),(7,(pt W5.heap.size 0)),(21,.slice (some ⟨gB,0,none⟩) U.length c2),(22,i6 ((U.length:Nat):Int)),(23,i6 (i:Int))],(peu_b2 x pb W5 v0 AQ ub p),[⟨gB,0+i*9,(peu_v1 AQ p)⟩,⟨gA,0+i*1,[i6 p.col]⟩],W5.heap.size+1⟩ [.op oh0,.op oh0,.op oh0,.op oh0,.op oh0,.op oh2,.op ⟨false,0,[⟨true,1,0,1⟩]⟩,.call (i6 ((p.col+x.sn)%x.N)),.op (oA 1 0 9)])=some ⟨[(0:Int)<=(i:Int)∧(i:Int)<((U.length:Nat):Int),∀w',MemC W5 (Turned (peu_b1 x pb v0 ub)) (peu_b2 x pb W5 v0 AQ ub p) [⟨gB,0+i*9,(peu_v1 AQ p)⟩,⟨gA,0+i*1,[i6 p.col]⟩] (W5.heap.size+1) w'->Calls Tryz.prog 81 #[(pt pb 0),i6 p.col] w' (RetK (i6 ((p.col+x.sn)%x.N)) w')],dupR [(gA,0+i*1,1),(W5.heap.size,0,9)],⟨[(0,(pt pb 0)),(1,i6 now),(4,.slice (some ⟨gA,0,none⟩) U.length c1),(21,.slice (some ⟨gB,0,none⟩) U.length c2),(22,i6 ((U.length:Nat):Int)),(23,i6 (i:Int)),(28,(pt pb 0)),(29,i6 now),(35,i6 ((p.col+x.sn)%x.N)),(36,.agg (List.toArray (peu_v1 AQ p)))],(peu_b2 x pb W5 v0 AQ ub p),[⟨gB,0+i*9,(peu_v1 AQ p)⟩,⟨gA,0+i*1,[i6 p.col]⟩],W5.heap.size+1⟩⟩:=by kernel_rfl
end
theorem pilX_enterUpdate(x:PilC)(c:CM)(L:List OneM)(pb:Nat)(base:Nat)(U:List PartM)(AQ:PartM->AskM)(hAQ:∀p,(AQ p).stripe=x.sn)(ub gP cU:Nat)(mk te ts:Int)(bg:Bool)(now:Int)(hg:3<=x.N∧x.N<=6∧1<=x.S∧x.S<=8)(hs:0<=x.sn∧x.sn<x.S)(hcol:∀p∈U,0<=p.col∧p.col<x.N)(hU:U.length<=6)(hnow:0<=now∧now<=1099511627776)(hcl:0<=c.last∧c.last+6<1099511627776)(hLl:L.length<=20)(hAs:∀wx,OwnR wx base 178 7 (some ⟨ub,0,none⟩) 1 1 (updC x.sn mk te ts (.slice (some ⟨gP,0,none⟩) U.length cU) bg)->OwnR wx base 180 4 (some ⟨gP,0,none⟩) U.length cU (flatV PartM.cells U)->base<=wx.heap.size->Calls Tryz.prog 113 #[.pointer (some ⟨ub,0,none⟩)] wx (fun e w'=>∃A1 c1 A2 c2,e=.returned (.tuple #[.slice A1 U.length c1,.slice A2 U.length c2])∧OwnR w' base 3 1 A1 U.length c1 (flatV colC U)∧OwnR w' base 59 9 A2 U.length c2 (flatV (fun p_=>(AQ p_).cells) U)∧OwnR w' base 178 7 (some ⟨ub,0,none⟩) 1 1 (updC x.sn mk te ts (.slice (some ⟨gP,0,none⟩) U.length cU) true)∧Kept (ownS (some ⟨ub,0,none⟩)) wx w'))(w:World)(hX:PilX w base pb ({ x with ud:=(.pointer (some ⟨ub,0,none⟩)) }) c L)(h_ud:OwnR w base 178 7 (some ⟨ub,0,none⟩) 1 1 (updC x.sn mk te ts (.slice (some ⟨gP,0,none⟩) U.length cU) bg))(h_pt:OwnR w base 180 4 (some ⟨gP,0,none⟩) U.length cU (flatV PartM.cells U))(hb0:base<=w.heap.size) :
  Calls Tryz.prog 89 #[.pointer (some ⟨pb,0,none⟩),i6 now] w (fun e w'=>e=.returned (.tuple #[])∧PilX w' base pb ({ x with nx:=.func (.func 112) #[.pointer (some ⟨pb,0,none⟩)] #[],lg:=false,ud:=.pointer (some ⟨ub,0,none⟩) }) (cmA c now (updP AQ x.N x.sn U)) (L++onesA now c.last (updP AQ x.N x.sn U))∧OwnR w' base 178 7 (some ⟨ub,0,none⟩) 1 1 (updC x.sn mk te ts (.slice (some ⟨gP,0,none⟩) U.length cU) true)∧OwnR w' base 180 4 (some ⟨gP,0,none⟩) U.length cU (flatV PartM.cells U)∧Kept (PilT [141,178] base x.lb pb x.cb w) w w'):=by
 obtain⟨v,hP,hR⟩:=hX
 have hPT:=blk_ty hP
 refine cH (S:=(fun y=>y=pb)) (n:=39) Tryz.func89 (MemOk.startP hP) ?_
 refine hgS 8 (dz 3 0) [0,1,8,10] [] [] [.ops [0] [3],.code [1]] [⟨pb,98,true,(PilC.cells { x with ud:=((pt ub 0)),ak:=v })⟩] [] w.heap.size ?_
 refine hcV (w:=w) (S':=(PilT [141,178] base x.lb pb x.cb w)) (Y:=Value) (fun v1=>.tuple #[]) (fun v1=>(peu_b3 x pb v1 ub)) (fun v1 W_=>PilR W_ base x.lb x.cb ({ c with opn:=[] }) L v1∧OwnR W_ base 178 7 (some ⟨ub,0,none⟩) 1 1 (updC x.sn mk te ts (.slice (some ⟨gP,0,none⟩) U.length cU) bg)∧OwnR W_ base 180 4 (some ⟨gP,0,none⟩) U.length cU (flatV PartM.cells U)) (show _=some (53,[(pt pb 0),.func (.func 112) #[(pt pb 0)] #[]],some 11,[])by kernel_rfl) tI (fun wx hm=>?_) (fun v1 W1 hX1 hm1=>?_)
 ·have hm0_:=(hm.wide (S':=PilT [141,178] base x.lb pb x.cb w) (fun _ h=>.inl h))
  have hb1:base<=wx.heap.size:=Nat.le_trans hb0 hm0_.kept.size
  have hR_:=(hR.keptT (es:=[98]) hm.kept (fun y hy=>by subst hy; exact⟨98,by simp,hPT⟩) rfl rfl rfl)
  have h_ud_:=(h_ud.keptT (es:=[98]) hm.kept (fun y hy=>by subst hy; exact⟨98,by simp,hPT⟩) rfl)
  have h_pt_:=(h_pt.keptT (es:=[98]) hm.kept (fun y hy=>by subst hy; exact⟨98,by simp,hPT⟩) rfl)
  have hX0:PilX wx base pb ({ x with ud:=((pt ub 0)),ak:=v }) c L:=⟨_,hm.at_ 0 rfl,hR_⟩
  refine(pilX_enter (.func 112) #[(pt pb 0)] #[] hX0).mono fun e w' hq_=>?_
  obtain⟨he_,⟨v_,hB_,hR_2⟩,h3_⟩:=hq_
  have hT_:=hX0.tys (es:=[])
  exact⟨v_,he_,⟨hR_2,(h_ud_.keptT h3_ hT_ rfl),(h_pt_.keptT h3_ hT_ rfl)⟩,hm0_.turnP h3_ (pilT_up hm0_.kept rfl) hB_ (off_tysP hm hT_ rfl)⟩
 obtain⟨hR1,h1_ud,h1_pt⟩:=hX1
 refine hgS 11 (dz 5 5436342272) [0,1,17] [] [(pb,68,1)] [.ops [1,0] [5,6,7,8,9,10],.code [1,1]] (peu_b3 x pb v1 ub) [] W1.heap.size ?_
 refine hcV (w:=w) (S':=(PilT [141,178] base x.lb pb x.cb w)) (Y:=Option Addr×Nat×Option Addr×Nat) (fun yq=>.tuple #[.slice yq.1 U.length yq.2.1,.slice yq.2.2.1 U.length yq.2.2.2]) (fun yq=>(peu_b3 x pb v1 ub)) (fun yq W_=>PilR W_ base x.lb x.cb ({ c with opn:=[] }) L v1∧OwnR W_ base 178 7 (some ⟨ub,0,none⟩) 1 1 (updC x.sn mk te ts (.slice (some ⟨gP,0,none⟩) U.length cU) true)∧OwnR W_ base 180 4 (some ⟨gP,0,none⟩) U.length cU (flatV PartM.cells U)∧OwnR W_ base 3 1 yq.1 U.length yq.2.1 (flatV colC U)∧OwnR W_ base 59 9 yq.2.2.1 U.length yq.2.2.2 (flatV (fun p_=>(AQ p_).cells) U)) (show _=some (113,[(pt ub 0)],some 18,[])by kernel_rfl) tI (fun wx hm=>?_) (fun yq W2 hX2 hm2=>?_)
 ·have hm0_:=(MemOk.bck hm1 hm)
  have hb1:base<=wx.heap.size:=Nat.le_trans hb0 hm0_.kept.size
  have hR_:=(hR1.keptT hm.kept (turned_tys hm1) rfl rfl rfl)
  have h_ud_:=(h1_ud.keptT hm.kept (turned_tys hm1) rfl)
  have h_pt_:=(h1_pt.keptT hm.kept (turned_tys hm1) rfl)
  have hX0:PilX wx base pb ({ x with nx:=(.func (.func 112) #[(pt pb 0)] #[]),lg:=false,ud:=((pt ub 0)),ak:=v1 }) ({ c with opn:=[] }) L:=⟨_,hm.at_ 0 rfl,hR_⟩
  refine(hAs wx h_ud_ h_pt_ hb1).mono fun e w' hq_=>?_
  obtain⟨A1,c1,A2,c2,he_,ho_co,ho_as,ho_ud,h3_⟩:=hq_
  have hT_:∀y,ownS (some ⟨ub,0,none⟩) y->TysIn [178] wx y:=fun y hy=>⟨178,by simp,h_ud_.ty y hy⟩
  exact⟨(A1,c1,A2,c2),he_,⟨(hR_.keptT h3_ hT_ rfl rfl rfl),ho_ud,(h_pt_.keptT h3_ hT_ rfl),ho_co,ho_as⟩,hm0_.offA (fun _ h=>h) h3_ (fun y hy=>pilT_in hm0_.kept (h_ud_.own y hy).1 (hT_ y hy) rfl) (off_tys hm hT_ rfl)⟩
 obtain⟨A1,c1,A2,c2⟩:=yq
 obtain⟨hR2,h2_ud,h2_pt,h2_co,h2_as⟩:=hX2
 refine hgE 16 (dz 8 0) [0,1,4,21,22,23] [] [] [.code [1,1,1,0],.blk 0] ⟨[(0,(pt pb 0)),(1,i6 now),(4,.slice A1 U.length c1),(21,.slice A2 U.length c2),(22,i6 ((U.length:Nat):Int)),(23,i6 0)],(peu_b3 x pb v1 ub),[],W2.heap.size⟩ ?_
 have hR3:PilR W2 base x.lb x.cb (cmA c now (updP AQ x.N x.sn [])) (L++onesA now c.last (updP AQ x.N x.sn [])) v1:=by
  have hc_:({ c with opn:=[] }:CM)=cmA c now (updP AQ x.N x.sn []):=cmA_nil c now
  have hL_:(L:List OneM)=L++onesA now c.last (updP AQ x.N x.sn []):=by simp[updP,onesA]
  rw[<-hc_,<-hL_]
  exact hR2
 have hR4:PilR W2 base x.lb x.cb (cmA c now (updP AQ x.N x.sn (U.take 0))) (L++onesA now c.last (updP AQ x.N x.sn (U.take 0))) v1:=by
  have hc_:(cmA c now (updP AQ x.N x.sn []):CM)=cmA c now (updP AQ x.N x.sn (U.take 0)):=rfl
  have hL_:(L++onesA now c.last (updP AQ x.N x.sn []):List OneM)=L++onesA now c.last (updP AQ x.N x.sn (U.take 0)):=rfl
  rw[<-hc_,<-hL_]
  exact hR3
 refine holds_loopW (w:=w) (S':=PilT [141,178] base x.lb pb x.cb w) (peu_I x c pb base now A1 A2 c1 c2 L U AQ ub gP cU mk te ts) U.length (by kernel_rfl) (fun W0 hm=>⟨⟨0,v1,_,by omega,by omega,(hR4.keptT hm.kept (turned_tys hm2) rfl rfl rfl),(h2_ud.keptT hm.kept (turned_tys hm2) rfl),(h2_pt.keptT hm.kept (turned_tys hm2) rfl),(h2_co.keptT hm.kept (turned_tys hm2) rfl),(h2_as.keptT hm.kept (turned_tys hm2) rfl),rfl⟩,(MemOk.bck hm2 hm)⟩) ?_
 rintro m _ W5 ⟨i,v0,z,hh5_0,hh5_1,hR5,h5_ud,h5_pt,h5_co,h5_as,rfl⟩ hm5 J hJ
 by_cases h1:i<U.length
 rotate_left
 ·skip
  have hR6:PilR W5 base x.lb x.cb (cmA c now (updP AQ x.N x.sn U)) (L++onesA now c.last (updP AQ x.N x.sn U)) v0:=by
   have hc_:(cmA c now (updP AQ x.N x.sn (U.take i)):CM)=cmA c now (updP AQ x.N x.sn U):=by rw[List.take_of_length_le (by omega)]
   have hL_:(L++onesA now c.last (updP AQ x.N x.sn (U.take i)):List OneM)=L++onesA now c.last (updP AQ x.N x.sn U):=by rw[List.take_of_length_le (by omega)]
   rw[<-hc_,<-hL_]
   exact hR5
  refine hgE 10 (dz 2 0) [] [dF (((i:Int):Int)<((U.length:Nat):Int))] [] [] ⟨[],(peu_b1 x pb v0 ub),[],W5.heap.size⟩ ?_
  refine holds_end [] (show _=some ([],dupR [])by kernel_rfl) ?_
  intro wx hm
  exact⟨rfl,⟨_,hm.at_ 0 rfl,(hR6.keptT hm.kept (turned_tys hm5) rfl rfl rfl)⟩,(h5_ud.keptT hm.kept (turned_tys hm5) rfl),(h5_pt.keptT hm.kept (turned_tys hm5) rfl),(MemOk.bck hm5 hm).kept⟩
 obtain⟨p,hk⟩:∃p,U[i]?=some p:=⟨_,List.getElem?_eq_getElem h1⟩
 have hkb:=hcol p (List.mem_of_getElem? hk)
 have hAsz:=fun y hy=>(h5_as.own y hy).2
 obtain⟨gA,rfl,_⟩:=OwnR.cell (j:=i*1+0) (v:=i6 p.col) h5_co (flatV_get (f:=colC) (fun _=>rfl) hk (by decide))
 obtain⟨gB,rfl,_⟩:=OwnR.cell (j:=i*9+0) (v:=i6 ((AQ p).kind)) h5_as (flatV_get (f:=(fun p_=>(AQ p_).cells)) (fun _=>rfl) hk (by decide))
 refine holds_wins [⟨gB,0+i*9,(peu_v1 AQ p)⟩,⟨gA,0+i*1,[i6 p.col]⟩] (fun _ y hy=>?_) ?_
 ·simp only[List.mem_cons,List.not_mem_nil,or_false]at hy
  rcases hy with rfl|rfl
  ·exact⟨fun h=>tysIn_not rfl (h5_as.ty gB ⟨_,rfl,rfl⟩) (turned_tys hm5 _ h),(h5_as.own gB ⟨_,rfl,rfl⟩).2,own_elem (f:=(fun p_=>(AQ p_).cells)) (fun _=>rfl) h5_as hk⟩
  ·exact⟨fun h=>tysIn_not rfl (h5_co.ty gA ⟨_,rfl,rfl⟩) (turned_tys hm5 _ h),(h5_co.own gA ⟨_,rfl,rfl⟩).2,own_elem (f:=colC) (fun _=>rfl) h5_co hk⟩
 refine hgE 21 [oh0,oh1,oh0,oh2,⟨false,0,[⟨true,0,0,9⟩]⟩,oh0,oh0,(oA 1 0 9)] [0,1,4,6,7,21,22,23] [dT (((i:Int):Int)<((U.length:Nat):Int)),oE ((0:Int)<=(i:Int)∧(i:Int)<((U.length:Nat):Int))] [(gB,0+i*9,9),(W5.heap.size,0,9)] [.code [1,1,1,0,0,1,1,0,0,1],.blk 1,.code [1,1,1,0,0,1,1,1],.inv J,.blk 0] ⟨[(0,(pt pb 0)),(1,i6 now),(4,.slice (some ⟨gA,0,none⟩) U.length c1),(6,i6 (i:Int)),(7,(pt W5.heap.size 0)),(21,.slice (some ⟨gB,0,none⟩) U.length c2),(22,i6 ((U.length:Nat):Int)),(23,i6 (i:Int))],(peu_b2 x pb W5 v0 AQ ub p),[⟨gB,0+i*9,(peu_v1 AQ p)⟩,⟨gA,0+i*1,[i6 p.col]⟩],W5.heap.size+1⟩ ?_
 refine holds_draw (f:=1) (ls:=(bA 10 511)) 9 _ _ (by kernel_rfl) (by kernel_rfl) (by kernel_rfl) (by kernel_rfl) (peu_q9 x pb now W5 c1 c2 i v0 U AQ ub p gA gB) ⟨⟨by omega,by omega⟩,(fun wx hm=>pil_node ({ x with nx:=(.func (.func 112) #[(pt pb 0)] #[]),lg:=false,ud:=((pt ub 0)),ak:=v0 }) pb p.col hg hs (by omega) wx (hm.2.at_ 0 rfl)),trivial⟩ fun z9 hz9=>?_
 replace hz9:W5.heap.size+1<=z9:=hz9
 refine holds_wins [] (fun _ _ h=>by cases h) ?_
 refine holds_callAnyU (i:=9) (ls':=(bA 10 1023)) (w:=w) (S':=(PilT [141,178] base x.lb pb x.cb w)) (Y:=Value) (fun v7=>.tuple #[]) (fun v7=>[⟨pb,98,true,(PilC.cells { x with nx:=(.func (.func 112) #[(pt pb 0)] #[]),lg:=false,ud:=((pt ub 0)),ak:=v7 })⟩,⟨W5.heap.size,59,true,(peu_v1 AQ p)⟩]) (fun v7 W_=>PilR W_ base x.lb x.cb (askC (cmA c now (updP AQ x.N x.sn (U.take i))) now ((p.col+x.sn)%x.N) { AQ p with stripe:=x.sn }) ((L++onesA now c.last (updP AQ x.N x.sn (U.take i)))++[⟨((p.col+x.sn)%x.N),(cmA c now (updP AQ x.N x.sn (U.take i))).last+1,{ AQ p with stripe:=x.sn },within14 now,within14 now⟩]) v7∧OwnR W_ base 178 7 (some ⟨ub,0,none⟩) 1 1 (updC x.sn mk te ts (.slice (some ⟨gP,0,none⟩) U.length cU) true)∧OwnR W_ base 180 4 (some ⟨gP,0,none⟩) U.length cU (flatV PartM.cells U)∧OwnR W_ base 3 1 (some ⟨gA,0,none⟩) U.length c1 (flatV colC U)∧OwnR W_ base 59 9 (some ⟨gB,0,none⟩) U.length c2 (flatV (fun p_=>(AQ p_).cells) U)) (fun v7=>[(37,.tuple #[]),(0,(pt pb 0)),(1,i6 now),(4,.slice (some ⟨gA,0,none⟩) U.length c1),(21,.slice (some ⟨gB,0,none⟩) U.length c2),(22,i6 ((U.length:Nat):Int)),(23,i6 (i:Int)),(28,(pt pb 0)),(29,i6 now),(35,i6 ((p.col+x.sn)%x.N)),(36,.agg (List.toArray (peu_v1 AQ p)))]) (by kernel_rfl) (by kernel_rfl) (show _=some (55,[(pt pb 0),i6 now,i6 ((p.col+x.sn)%x.N),.agg (List.toArray (peu_v1 AQ p))],some 37,[])by kernel_rfl) tI (fun _=>rfl) (fun wx hm=>?_) (fun v7 W7 hX7 hm7=>?_)
 ·have hm0_:=(MemOk.bck hm5 hm)
  have hb1:base<=wx.heap.size:=Nat.le_trans hb0 hm0_.kept.size
  have hR_:=(hR5.keptT hm.kept (turned_tys hm5) rfl rfl rfl)
  have h_ud_:=(h5_ud.keptT hm.kept (turned_tys hm5) rfl)
  have h_pt_:=(h5_pt.keptT hm.kept (turned_tys hm5) rfl)
  have h_co_:=(h5_co.keptT hm.kept (turned_tys hm5) rfl)
  have h_as_:=(h5_as.keptT hm.kept (turned_tys hm5) rfl)
  have hX0:PilX wx base pb ({ x with nx:=(.func (.func 112) #[(pt pb 0)] #[]),lg:=false,ud:=((pt ub 0)),ak:=v0 }) (cmA c now (updP AQ x.N x.sn (U.take i))) (L++onesA now c.last (updP AQ x.N x.sn (U.take i))):=⟨_,hm.at_ 0 rfl,hR_⟩
  refine(pilX_ask now ((p.col+x.sn)%x.N) (AQ p) hX0 ⟨by simp only[cmA,onesA_len,updP_len,List.length_take]; omega,by simp only[cmA,updP_len,List.length_take]; omega,Int.emod_nonneg _ (by omega),Int.lt_trans (Int.emod_lt_of_pos _ (by omega)) (by omega)⟩ (by simp only[List.length_append,onesA_len,updP_len,List.length_take]; omega) hb1).mono fun e w' hq_=>?_
  obtain⟨he_,⟨v_,hB_,hR_2⟩,h3_⟩:=hq_
  have hT_:=hX0.tys (es:=[141])
  exact⟨v_,he_,⟨hR_2,(h_ud_.keptT h3_ hT_ rfl),(h_pt_.keptT h3_ hT_ rfl),(h_co_.keptT h3_ hT_ rfl),(h_as_.keptT h3_ hT_ rfl)⟩,hm0_.turnP h3_ (pilT_up hm0_.kept rfl) hB_ (off_tysP hm hT_ rfl)⟩
 obtain⟨hR7,h7_ud,h7_pt,h7_co,h7_as⟩:=hX7
 refine holds_done (by kernel_rfl) ?_
 have hR8:PilR W7 base x.lb x.cb (cmA c now (updP AQ x.N x.sn (U.take (i+1)))) (L++onesA now c.last (updP AQ x.N x.sn (U.take (i+1)))) v7:=by
  have hc_:(askC (cmA c now (updP AQ x.N x.sn (U.take i))) now ((p.col+x.sn)%x.N) { AQ p with stripe:=x.sn }:CM)=cmA c now (updP AQ x.N x.sn (U.take (i+1))):=by rw[askFix (hAQ p),cmA_snoc c _ _ _ hnow,updP_take hk]
  have hL_:((L++onesA now c.last (updP AQ x.N x.sn (U.take i)))++[⟨((p.col+x.sn)%x.N),(cmA c now (updP AQ x.N x.sn (U.take i))).last+1,{ AQ p with stripe:=x.sn },within14 now,within14 now⟩]:List OneM)=L++onesA now c.last (updP AQ x.N x.sn (U.take (i+1))):=by rw[askFix (hAQ p),onesA_ask c _ _ _ L hnow,updP_take hk]
  rw[<-hc_,<-hL_]
  exact hR7
 refine holds_go (f:=8) (hs:=[oh2,oh0]) [0,1,4,21,22,23] [true,false] (show _=some (Res.mk [inR .i64 (((i:Int)+1))] (dupR []) [.inv J,.blk 0] ⟨[(0,(pt pb 0)),(1,i6 now),(4,.slice (some ⟨gA,0,none⟩) U.length c1),(21,.slice (some ⟨gB,0,none⟩) U.length c2),(22,i6 ((U.length:Nat):Int)),(23,i6 ((i:Int)+1))],[⟨pb,98,true,(PilC.cells { x with nx:=(.func (.func 112) #[(pt pb 0)] #[]),lg:=false,ud:=((pt ub 0)),ak:=v7 })⟩],[],W7.heap.size⟩)by kernel_rfl) ⟨in64 (by omega),trivial⟩ ?_
 rw[<-cast_succ i]
 intro a_ w9 hf hm
 exact hJ (m-1) _ a_ w9 (by omega) ⟨i+1,v7,_,by omega,by omega,(hR8.keptT hm.kept (turned_tys hm7) rfl rfl rfl),(h7_ud.keptT hm.kept (turned_tys hm7) rfl),(h7_pt.keptT hm.kept (turned_tys hm7) rfl),(h7_co.keptT hm.kept (turned_tys hm7) rfl),(h7_as.kept hm.kept (fun y hy ⟨b,hb,hr,he⟩=>by
  have h8:=hAsz y hy
  simp only[List.mem_cons,List.not_mem_nil,or_false]at hb
  rcases hb with rfl|rfl
  ·exact ty_off (h7_as.ty y hy) he (blk_ty (hm7.at_ 0 rfl)) rfl
  ·dsimp only at he; omega)),rfl⟩ hf (MemOk.bck hm7 hm)
end Go.Proofs.YtcmpkkapkdlfhaaGreat
