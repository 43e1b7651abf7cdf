import Derived.Test.YtcmpkkapkdlfhaaGreatNums
import Derived.Test.YtcmpkkapkdlfhaaGreatPlays17
namespace Go.Proofs.YtcmpkkapkdlfhaaGreat
open Go.RowKit
set_option maxHeartbeats 4000000
set_option maxRecDepth 100000
section
variable (x:PilC)(c:CM)(pb base:Nat)(now:Int)(w:World)(v:Value)(L:List OneM)(at_:Int)(da:ByteArray)(kd sn cn:Int)(g z2:Nat)(_:Unit)(k:Nat)
def psb_v1:List Value:=[i6 kd,i6 at_,sT da,i6 sn,i6 cn,.nilFunc,.bool false,i6 0,i6 0,i6 (-1),.bool false,i6 0,i6 0,.slice none 0 0,.slice none 0 0,.bool false,.slice none 0 0,.slice none 0 0]++rp 6 (sT ⟨#[]⟩)++[.pointer none]
def psb_v2:List Value:=[.bool ((x.lv (Int.toNat sn)).has),i6 ((x.lv (Int.toNat sn)).ep),i6 ((x.lv (Int.toNat sn)).ou),i6 ((x.lv (Int.toNat sn)).sq),i6 ((x.lv (Int.toNat sn)).sc)]
def psb_n1:List Nat:=[1,1,1,1,1,1,1,1,0]
def psb_n2:List Nat:=[1,1,1,1,1,1,1,1,1]
@[simp] def psb_b1:List Bk:=[⟨pb,98,true,(PilC.cells { x with busy:=false,ak:=v })⟩,⟨w.heap.size,38,false,[i6 kd,i6 at_,sT da]⟩,⟨z2,96,false,(psb_v1 at_ da kd sn cn)⟩]
@[simp] def psb_b2:List Bk:=[⟨pb,98,true,(PilC.cells { x with busy:=true,kd:=kd,at_:=at_,da:=da,sn:=sn,cn:=cn,nx:=.nilFunc,lg:=false,en:=0,ep:=0,ou:=(-1),db:=false,te:=0,ts:=0,kn:=(.slice none 0 0),rc:=(.slice none 0 0),stl:=false,rd:=(.slice none 0 0),wr:=(.slice none 0 0),bl:=noB,ud:=(.pointer none),ak:=v })⟩,⟨w.heap.size,38,false,[i6 kd,i6 at_,sT da]⟩,⟨z2,96,false,(psb_v1 at_ da kd sn cn)⟩]
@[simp] def psb_b3:List Bk:=[⟨pb,98,true,(PilC.cells { x with busy:=true,kd:=kd,at_:=at_,da:=da,sn:=sn,cn:=cn,nx:=.nilFunc,lg:=false,en:=0,ep:=0,ou:=(-1),db:=false,te:=0,ts:=0,kn:=(.slice none 0 0),rc:=(.slice none 0 0),stl:=false,rd:=(.slice none 0 0),wr:=(.slice none 0 0),bl:=noB,ud:=(.pointer none),ak:=v })⟩,⟨w.heap.size,38,false,[i6 kd,i6 at_,sT da]⟩,⟨z2,96,false,(psb_v1 at_ da kd sn cn)⟩,⟨g,88,true,(psb_v2 x sn)⟩]
@[simp] def psb_b4:List Bk:=[⟨pb,98,true,(PilC.cells { x with lv:=(lvS x.lv (Int.toNat sn) lea0),busy:=true,kd:=kd,at_:=at_,da:=da,sn:=sn,cn:=cn,nx:=.nilFunc,lg:=false,en:=0,ep:=0,ou:=(-1),db:=false,te:=0,ts:=0,kn:=(.slice none 0 0),rc:=(.slice none 0 0),stl:=false,rd:=(.slice none 0 0),wr:=(.slice none 0 0),bl:=noB,ud:=(.pointer none),ak:=v })⟩,⟨w.heap.size,38,false,[i6 kd,i6 at_,sT da]⟩,⟨z2,96,false,(psb_v1 at_ da kd sn cn)⟩,⟨g,88,true,(psb_v2 x sn)⟩]
@[simp] def psb_b5:List Bk:=[⟨pb,98,true,(PilC.cells { x with busy:=false,ak:=v })⟩,⟨w.heap.size,38,true,[i6 kd,i6 at_,sT da]⟩,⟨z2,96,true,(psb_v1 at_ da kd sn cn)⟩]
def psb_Q:Exit->Act->World->Prop:=bodyPost Tryz.prog Tryz.f14 (fun e w'=>e=.returned (i6 0)∧PilX w' base pb ({ x with lv:=lvS x.lv (Int.toNat sn) lea0,busy:=true,kd:=kd,at_:=at_,da:=da,sn:=sn,cn:=cn,nx:=.func (.func 54) #[(pt pb 0)] #[],lg:=true,en:=within14 now,ep:=0,ou:=-1,db:=false,te:=0,ts:=0,kn:=.slice none 0 0,rc:=.slice none 0 0,stl:=false,rd:=.slice none 0 0,wr:=.slice none 0 0,bl:=noB,ud:=.pointer none }) (askC { c with opn:=[] } (within14 now) 100 ⟨8,sn,0,0,0,0,0,0,⟨#[]⟩⟩) (L++[⟨100,c.last+1,⟨8,sn,0,0,0,0,0,0,⟨#[]⟩⟩,within14 (within14 now),within14 (within14 now)⟩])∧Kept (PilT [141] base x.lb pb x.cb w) w w')
def psb_y6s:List (Nat×Value):=[(0,(pt pb 0)),(1,i6 (within14 now)),(5,(pt w.heap.size 0)),(6,i6 0),(7,(pt z2 0))]
def psb_y6v(_:Unit):List (Option Value):=[some ((pt pb 0)),some ((pt pb 0)),some (.agg (List.toArray (psb_v1 at_ da kd sn cn))),some ((pt pb 0)),some ((pt pb 43)),some (.tuple #[]),some ((pt pb 0)),some ((pt pb 44)),some (.tuple #[])]
def psb_y6F(_:Unit)(k:Nat):Bool:=([true,true,true,true,true,true,true,true,true]:List Bool)[k]?.getD true
def psb_y6m(_:Unit):List (List Bk):=[(psb_b1 x pb w v at_ da kd sn cn z2),[⟨pb,98,true,(PilC.cells { x with busy:=true,ak:=v })⟩,⟨w.heap.size,38,false,[i6 kd,i6 at_,sT da]⟩,⟨z2,96,false,(psb_v1 at_ da kd sn cn)⟩],(psb_b2 x pb w v at_ da kd sn cn z2)]
abbrev psb_y6X(x:PilC)(c:CM)(base:Nat)(v:Value)(L:List OneM)(c_:Nat)(_:Unit)(W_:World):Prop:=match c_ with|0=>PilR W_ base x.lb x.cb c L v|1=>PilR W_ base x.lb x.cb c L v|2=>PilR W_ base x.lb x.cb c L v|_=>True
def psb_y6C(W1:World)(v:Value)(L:List OneM)(at_:Int)(da:ByteArray)(kd:Int)(sn:Int)(cn:Int)(z2:Nat)(i_:Nat):Prop:=cY Tryz.prog Tryz.f14 [1,1,1,1,1,0] 77 [] (psb_Q x c pb base now w L at_ da kd sn cn) [.code [1,1,1,1,1,1]] (psb_y6s pb now w z2) [none,none,none,none,none,some 0,none,none,some 1] 2 (psb_y6v pb at_ da kd sn cn) psb_y6F W1 (fun y=>(Turned (psb_b1 x pb w v at_ da kd sn cn z2)) y∨(PilT [141] base x.lb pb x.cb W1) y) (psb_y6m x pb w v at_ da kd sn cn z2) W1.heap.size (psb_y6X x c base v L) i_
def psb_y8s:List (Nat×Value):=[(0,(pt pb 0)),(1,i6 (within14 now)),(5,(pt w.heap.size 0)),(6,i6 0),(7,(pt z2 0))]
def psb_y8v(d:Option Nat):List (Option Value):=[some ((pt pb 0)),some ((pt z2 3)),some (i6 sn),some ((pt pb 0)),some ((pt pb 3)),some (.pointer (some ⟨pb,3+(Int.toNat sn)*5,none⟩)),some (.agg (List.toArray (psb_v2 x sn))),some (.pointer (some ⟨(d.getD 0),0,none⟩)),some (.tuple #[])]
def psb_y8F(d:Option Nat)(k:Nat):Bool:=([true,true,true,true,true,true,true,d.isSome,true]:List Bool)[k]?.getD true
def psb_y8m(d:Option Nat):List (List Bk):=[(psb_b2 x pb w v at_ da kd sn cn z2),(psb_b2 x pb w v at_ da kd sn cn z2),[⟨pb,98,true,(PilC.cells { x with busy:=true,kd:=kd,at_:=at_,da:=da,sn:=sn,cn:=cn,nx:=.nilFunc,lg:=false,en:=0,ep:=0,ou:=(-1),db:=false,te:=0,ts:=0,kn:=(.slice none 0 0),rc:=(.slice none 0 0),stl:=false,rd:=(.slice none 0 0),wr:=(.slice none 0 0),bl:=noB,ud:=(.pointer none),ak:=v })⟩,⟨w.heap.size,38,false,[i6 kd,i6 at_,sT da]⟩,⟨z2,96,false,(psb_v1 at_ da kd sn cn)⟩,⟨(d.getD 0),88,true,(psb_v2 x sn)⟩]]
abbrev psb_y8X(x:PilC)(c:CM)(base:Nat)(W2:World)(v:Value)(L:List OneM)(c_:Nat)(d:Option Nat)(W_:World):Prop:=match c_ with|0=>(PilR W_ base x.lb x.cb c L v)∧(∀g_,d=some g_->W2.heap.size<=g_∧Blk W_ g_ 88 [.bool false,i6 0,i6 0,i6 0,i6 0])|1=>(PilR W_ base x.lb x.cb c L v)∧(∀g_,d=some g_->W2.heap.size<=g_∧Blk W_ g_ 88 [.bool false,i6 0,i6 0,i6 0,i6 0])|2=>((PilR W_ base x.lb x.cb c L v)∧W2.heap.size<=d.getD 0)∧True|_=>True
def psb_y8C(W2:World)(v:Value)(L:List OneM)(at_:Int)(da:ByteArray)(kd:Int)(sn:Int)(cn:Int)(z2:Nat)(i_:Nat):Prop:=cY Tryz.prog Tryz.f14 [1,1,1,1,1,1,0] 77 [] (psb_Q x c pb base now w L at_ da kd sn cn) [.code [1,1,1,1,1,1,1]] (psb_y8s pb now w z2) [none,none,none,none,none,none,some 0,none,some 1] 2 (psb_y8v x pb sn z2) psb_y8F W2 (fun y=>(Turned (psb_b2 x pb w v at_ da kd sn cn z2)) y∨(PilT [141] base x.lb pb x.cb W2) y) (psb_y8m x pb w v at_ da kd sn cn z2) W2.heap.size (psb_y8X x c base W2 v L) i_
def psb_y10s:List (Nat×Value):=[(0,(pt pb 0)),(1,i6 (within14 now)),(6,i6 0),(7,(pt z2 0))]
def psb_y10v(_:Unit):List (Option Value):=[some ((pt pb 0)),some ((pt z2 3)),some (i6 sn),some (.agg #[.bool false,i6 0,i6 0,i6 0,i6 0]),some ((pt pb 0)),some ((pt pb 3)),some (.pointer (some ⟨pb,3+(Int.toNat sn)*5,none⟩)),some (.tuple #[])]
def psb_y10F(_:Unit)(k:Nat):Bool:=([true,true,true,true,true,true,true,true]:List Bool)[k]?.getD true
def psb_y10m(_:Unit):List (List Bk):=[(psb_b3 x pb w v at_ da kd sn cn g z2),(psb_b4 x pb w v at_ da kd sn cn g z2)]
abbrev psb_y10X(x:PilC)(c:CM)(base:Nat)(v:Value)(L:List OneM)(c_:Nat)(_:Unit)(W_:World):Prop:=match c_ with|0=>PilR W_ base x.lb x.cb c L v|1=>PilR W_ base x.lb x.cb c L v|_=>True
def psb_y10C(W9:World)(v:Value)(L:List OneM)(at_:Int)(da:ByteArray)(kd:Int)(sn:Int)(cn:Int)(g:Nat)(z2:Nat)(i_:Nat):Prop:=cY Tryz.prog Tryz.f14 psb_n1 77 [] (psb_Q x c pb base now w L at_ da kd sn cn) [.code psb_n2] (psb_y10s pb now z2) [none,none,none,none,none,none,none,some 0] 1 (psb_y10v pb sn z2) psb_y10F W9 (fun y=>(Turned (psb_b3 x pb w v at_ da kd sn cn g z2)) y∨(PilT [141] base x.lb pb x.cb W9) y) (psb_y10m x pb w v at_ da kd sn cn g z2) W9.heap.size (psb_y10X x c base v L) i_
end
theorem pilX_submit(x:PilC)(c:CM)(L:List OneM)(pb:Nat)(base:Nat)(kd at_ sn cn:Int)(da:ByteArray)(now:Int)(hsn:0<=sn∧sn<8)(hcl:c.last<1099511627776)(hLl:L.length<=50)(hsc:0<=(x.lv (Int.toNat sn)).sc∧(x.lv (Int.toNat sn)).sc<=1099511627776)(hold:kd=3∨(kd≠3∧(x.lv (Int.toNat sn)).has=false)∨(kd≠3∧(x.lv (Int.toNat sn)).has=true∧within14 now-(x.lv (Int.toNat sn)).sc>10))(w:World)(hX:PilX w base pb ({ x with busy:=false }) c L)(hb0:base<=w.heap.size)(hbeg:∀wx v,Blk wx pb 98 (PilC.cells { x with busy:=false,ak:=v })->Calls Tryz.prog 30 #[.pointer (some ⟨pb,0,none⟩),.agg #[i6 kd,i6 at_,sT da]] wx (RetK (.tuple #[.agg #[i6 kd,i6 at_,sT da,i6 sn,i6 cn,.nilFunc,.bool false,i6 0,i6 0,i6 (-1),.bool false,i6 0,i6 0,.slice none 0 0,.slice none 0 0,.bool false,.slice none 0 0,.slice none 0 0,sT ⟨#[]⟩,sT ⟨#[]⟩,sT ⟨#[]⟩,sT ⟨#[]⟩,sT ⟨#[]⟩,sT ⟨#[]⟩,.pointer none],.bool true]) wx)) :
  Calls Tryz.prog 14 #[.pointer (some ⟨pb,0,none⟩),i6 now,.agg #[i6 kd,i6 at_,sT da]] w (fun e w'=>e=.returned (i6 0)∧PilX w' base pb ({ x with lv:=lvS x.lv (Int.toNat sn) lea0,busy:=true,kd:=kd,at_:=at_,da:=da,sn:=sn,cn:=cn,nx:=.func (.func 54) #[.pointer (some ⟨pb,0,none⟩)] #[],lg:=true,en:=within14 now,ep:=0,ou:=-1,db:=false,te:=0,ts:=0,kn:=.slice none 0 0,rc:=.slice none 0 0,stl:=false,rd:=.slice none 0 0,wr:=.slice none 0 0,bl:=noB,ud:=.pointer none }) (askC { c with opn:=[] } (within14 now) 100 ⟨8,sn,0,0,0,0,0,0,⟨#[]⟩⟩) (L++[⟨100,c.last+1,⟨8,sn,0,0,0,0,0,0,⟨#[]⟩⟩,within14 (within14 now),within14 (within14 now)⟩])∧Kept (PilT [141] base x.lb pb x.cb w) w w'):=by
 obtain⟨v,hP,hR⟩:=hX
 have hPT:=blk_ty hP
 refine cH (S:=(fun y=>y=pb)) (n:=77) Tryz.func14 (MemOk.startP hP) ?_
 have hpl:pb<w.heap.size:=hP.lt
 have hw14:0<=within14 now∧within14 now<=1099511627776:=by unfold within14 minZ maxZ; split<;>split<;>omega
 refine hgS 22 (dz 9 0x3001800012b0800000) [0,1,5,6,15,16] [fF] [(pb,43,1),(w.heap.size,0,3)] [.ops [1,1,0] [2,3,4,5,6,7,8],.code [1,1,1]] [⟨pb,98,true,(PilC.cells { x with busy:=false,ak:=v })⟩,⟨w.heap.size,38,true,[i6 kd,i6 at_,sT da]⟩] [] (w.heap.size+1) ?_
 refine hcq (.tuple #[.agg (List.toArray (psb_v1 at_ da kd sn cn)),.bool true]) 30 [(pt pb 0),.agg #[i6 kd,i6 at_,sT da]] (some 17) [] tI rfl (fun wx hm=>hbeg wx _ (hm.at_ 0 rfl)) fun z2 hz2=>?_
 refine hgS 21 (dz 10 0x1900280000) [0,1,5,6,7,22] [fF] [(z2,0,25)] [.ops [1,1,1,1,0] [1,2],.code [1,1,1,1,1]] (psb_b5 x pb w v at_ da kd sn cn z2) [] (z2+1) ?_
 refine hcq (i6 (within14 now)) _ _ (some 23) [] tI rfl (fun wx hm=>pwithin_any now wx) fun z4 hz4=>?_
 refine hgE 6 [oh0] [0,1,5,6,7] [] [] [.code [1,1,1,1,1,0],.code [1,1,1,1,1,1]] ⟨[(0,(pt pb 0)),(1,i6 (within14 now)),(5,(pt w.heap.size 0)),(6,i6 0),(7,(pt z2 0))],(psb_b5 x pb w v at_ da kd sn cn z2),[],z4⟩ ?_
 refine holds_gndF (bk':=(psb_b1 x pb w v at_ da kd sn cn z2)) [true,false,false] rfl (fun W1 hm hmz=>?_)
 have hR1:PilR W1 base x.lb x.cb c L v:=(hR.keptT (es:=[98]) hm.kept (fun y hy=>by subst hy; exact⟨98,by simp,hPT⟩) rfl rfl rfl)
 have hm1:MemOk w (PilT [141] base x.lb pb x.cb w) (psb_b1 x pb w v at_ da kd sn cn z2) [] W1.heap.size W1:=hmz.wide (fun _ h=>.inl h)
 clear hm hmz
 have psb_y6_X:StayY W1 (fun y=>(Turned (psb_b1 x pb w v at_ da kd sn cn z2)) y∨(PilT [141] base x.lb pb x.cb W1) y) (psb_y6m x pb w v at_ da kd sn cn z2) (psb_y6X x c base v L):=by
  intro c_ d wx w' bk hb hm hx hk
  match c_,hb,hx with
  |0,hb,hx=>
   obtain rfl:=Option.some.inj hb
   exact(hx.keptT hk (turned_tys hm) rfl rfl rfl)
  |1,hb,hx=>
   obtain rfl:=Option.some.inj hb
   exact(hx.keptT hk (turned_tys hm) rfl rfl rfl)
  |2,hb,hx=>
   obtain rfl:=Option.some.inj hb
   exact(hx.keptT hk (turned_tys hm) rfl rfl rfl)
  |c_+3,hb,hx=>exact trivial
 have psb_y6_c5:psb_y6C x c pb base now w W1 v L at_ da kd sn cn z2 5:=cyS (s:=0) (x:=fun d=>Instr.storeAt 4 ((pt pb 43)) (.bool true)) (fun(d:Unit)(_:Unit)=>d) (fun d wx bk hb hm hx hcame=>by
  obtain rfl:=Option.some.inj hb
  obtain⟨w',h1,hB1,hk1,hz1⟩:=store_to (P:=Tryz.prog) (t:=4) (v:=.bool true) (by kernel_rfl) (hm.at_ 0 rfl) rfl (by show 43+1<=73; omega) (ones_all rfl) rfl
  exact⟨(),w',h1,rfl,(hx.keptT (es:=[98]) hk1 (fun y hy=>by subst hy; exact⟨98,by simp,blk_ty (hm.at_ 0 rfl)⟩) rfl rfl rfl),(hm.set1 0 rfl rfl hk1 hB1).2,Nat.le_of_eq hz1.symm⟩)
 have psb_y6_c8:psb_y6C x c pb base now w W1 v L at_ da kd sn cn z2 8:=cyS (s:=1) (x:=fun d=>Instr.storeAt 96 ((pt pb 44)) (.agg (List.toArray (psb_v1 at_ da kd sn cn)))) (fun(d:Unit)(_:Unit)=>d) (fun d wx bk hb hm hx hcame=>by
  obtain rfl:=Option.some.inj hb
  obtain⟨w',h1,hB1,hk1,hz1⟩:=store_to (P:=Tryz.prog) (t:=96) (v:=.agg (List.toArray (psb_v1 at_ da kd sn cn))) (by kernel_rfl) (hm.at_ 0 rfl) rfl (by show 44+25<=73; omega) (ones_all rfl) rfl
  exact⟨(),w',h1,rfl,(hx.keptT (es:=[98]) hk1 (fun y hy=>by subst hy; exact⟨98,by simp,blk_ty (hm.at_ 0 rfl)⟩) rfl rfl rfl),(hm.set1 0 rfl rfl hk1 hB1).2,Nat.le_of_eq hz1.symm⟩)
 have psb_y6_R:∀e_∈(rZsY 2 [0,1,3,4,6,7]++[rY 2 2 2 0 25 z2]:List (RegY (Unit))),psb_y6C x c pb base now w W1 v L at_ da kd sn cn z2 e_.i:=certsY_reg _ psb_y6_X (fun d=>by kernel_rfl) (by kernel_rfl) (fun d sz=>by kernel_rfl)
 have psb_y6_A:∀i_,i_<9->psb_y6C x c pb base now w W1 v L at_ da kd sn cn z2 i_:=allY (l:=[5,8]) (by kernel_rfl) psb_y6_R ⟨psb_y6_c5,psb_y6_c8,trivial⟩
 refine holds_mixY (Δ:=Unit) (fun y=>(Turned (psb_b1 x pb w v at_ da kd sn cn z2)) y∨(PilT [141] base x.lb pb x.cb W1) y) (psb_y6v pb at_ da kd sn cn) psb_y6F (psb_y6m x pb w v at_ da kd sn cn z2) (psb_y6X x c base v L) [0,1,5,6,7] (fun d=>[(0,(pt pb 0)),(1,i6 (within14 now)),(5,(pt w.heap.size 0)),(6,i6 0),(7,(pt z2 0))]) (fun d=>(psb_b2 x pb w v at_ da kd sn cn z2)) () (fun _ h=>.inl h) (by kernel_rfl) (by kernel_rfl) (by kernel_rfl) (fun wx hm=>(hR1.keptT hm.kept.drew (turned_tys hm1) rfl rfl rfl)) (by kernel_rfl) psb_y6_A (fun d=>by kernel_rfl) (fun d=>by kernel_rfl) (fun d W2 hfin hX2 hm02 hm2=>?_)
 replace hm2:=hm1.bckS hm2 (fun y hy=>hy.elim (fun⟨b,hb,hr,he⟩=>he▸hm1.own b hb hr) (fun h=>pilT_up hm1.kept rfl y h))
 have hR2:=hX2
 replace hR2:PilR W2 base x.lb x.cb c L v:=hR2
 replace hm2:MemOk w (PilT [141] base x.lb pb x.cb w) (psb_b2 x pb w v at_ da kd sn cn z2) [] W2.heap.size W2:=hm2
 change Holds _ _ _ _ W2 (Turned (psb_b2 x pb w v at_ da kd sn cn z2)) _ [.code [1,1,1,1,1,1]] ⟨[(0,(pt pb 0)),(1,i6 (within14 now)),(5,(pt w.heap.size 0)),(6,i6 0),(7,(pt z2 0))],(psb_b2 x pb w v at_ da kd sn cn z2),[],W2.heap.size⟩
 refine hgE 4 [] [0,1,5,6,7] [] [] [.code [1,1,1,1,1,1,0],.code [1,1,1,1,1,1,1]] ⟨[(0,(pt pb 0)),(1,i6 (within14 now)),(5,(pt w.heap.size 0)),(6,i6 0),(7,(pt z2 0))],(psb_b2 x pb w v at_ da kd sn cn z2),[],W2.heap.size⟩ ?_
 have hw1:=hm2.kept.size
 have psb_y8_X:StayY W2 (fun y=>(Turned (psb_b2 x pb w v at_ da kd sn cn z2)) y∨(PilT [141] base x.lb pb x.cb W2) y) (psb_y8m x pb w v at_ da kd sn cn z2) (psb_y8X x c base W2 v L):=by
  intro c_ d wx w' bk hb hm hx hk
  match c_,hb,hx with
  |0,hb,hx=>
   obtain rfl:=Option.some.inj hb
   refine⟨hx.1.keptT hk (turned_tys hm) rfl rfl rfl,fun g_ hg_=>⟨(hx.2 g_ hg_).1,(hx.2 g_ hg_).2.kept hk (fun⟨b,hb,hr,he⟩=>?_)⟩⟩
   have h9:=(hx.2 g_ hg_).1
   simp at hb
   rcases hb with rfl|rfl|rfl
   ·dsimp only at he
    omega
   ·cases hr
   ·cases hr
  |1,hb,hx=>
   obtain rfl:=Option.some.inj hb
   refine⟨hx.1.keptT hk (turned_tys hm) rfl rfl rfl,fun g_ hg_=>⟨(hx.2 g_ hg_).1,(hx.2 g_ hg_).2.kept hk (fun⟨b,hb,hr,he⟩=>?_)⟩⟩
   have h9:=(hx.2 g_ hg_).1
   simp at hb
   rcases hb with rfl|rfl|rfl
   ·dsimp only at he
    omega
   ·cases hr
   ·cases hr
  |2,hb,hx=>
   obtain rfl:=Option.some.inj hb
   exact⟨⟨hx.1.1.keptT hk (turned_tys hm) rfl rfl rfl,hx.1.2⟩,trivial⟩
  |c_+3,hb,hx=>exact trivial
 have psb_y8_c6:psb_y8C x c pb base now w W2 v L at_ da kd sn cn z2 6:=cyW (s:=0) (x:=fun d=>Instr.loadAt 88 (.pointer (some ⟨pb,3+(Int.toNat sn)*5,none⟩))) (fun(d:Option Nat)(_:Unit)=>d) (fun d=>.agg (List.toArray (psb_v2 x sn))) (fun d wx bk hb hm hx hcame=>by
  obtain rfl:=Option.some.inj hb
  exact⟨(),wx,run_loadS wx 88 pb (3+(Int.toNat sn)*5) 98 _ (LeaC.cells (x.lv (Int.toNat sn))) (by kernel_rfl) (by kernel_rfl) (hm.at_ 0 rfl) (fun j u_ hj=>pil_lease ({ x with busy:=true,kd:=kd,at_:=at_,da:=da,sn:=sn,cn:=cn,nx:=.nilFunc,lg:=false,en:=0,ep:=0,ou:=(-1),db:=false,te:=0,ts:=0,kn:=(.slice none 0 0),rc:=(.slice none 0 0),stl:=false,rd:=(.slice none 0 0),wr:=(.slice none 0 0),bl:=noB,ud:=(.pointer none),ak:=v }) (i:=(Int.toNat sn)) (by omega) hj),rfl,hx,hm,Nat.le_refl _⟩)
 have psb_y8_c7:psb_y8C x c pb base now w W2 v L at_ da kd sn cn z2 7:=cyN 1 88 [.bool false,i6 0,i6 0,i6 0,i6 0] (fun _ g=>some g) (fun g=>(pt g 0)) (fun c_ d wx w' bk hcB hb hm hx hk hz hBl=>by
  have hs:=psb_y8_X c_ d wx w' bk hb hm hx hk
  match c_,hb,hx,hs,hcB with
  |0,hb,hx,hs,hcB=>exact⟨hs.1,(fun g_ hg_=>by obtain rfl:=Option.some.inj hg_; exact⟨hz,hBl⟩)⟩
  |1,hb,hx,hs,hcB=>exact⟨hs.1,(fun g_ hg_=>by obtain rfl:=Option.some.inj hg_; exact⟨hz,hBl⟩)⟩
  |c_+2,hb,hx,hs,hcB=>exact absurd hcB (by omega))
 have psb_y8_c8:psb_y8C x c pb base now w W2 v L at_ da kd sn cn z2 8:=cyS (s:=1) (x:=fun d=>Instr.storeAt 88 (.pointer (some ⟨(d.getD 0),0,none⟩)) (.agg (List.toArray (psb_v2 x sn)))) (fun(d:Option Nat)(_:Unit)=>d) (fun d wx bk hb hm hx hcame=>by
  obtain rfl:=Option.some.inj hb
  obtain⟨g_,rfl⟩:∃g_,d=some g_:=Option.isSome_iff_exists.1 (hcame 7 (List.mem_of_getElem? (i:=0) (by kernel_rfl)) (dst_ne (k:=9) (by kernel_rfl)))
  obtain⟨hzg,hBg⟩:=hx.2 g_ rfl
  obtain⟨w',h1,hB1,hk1,hz1⟩:=store_to (P:=Tryz.prog) (t:=88) (v:=.agg (List.toArray (psb_v2 x sn))) (by kernel_rfl) hBg rfl (by show 0+5<=5; omega) (ones_all rfl) rfl
  refine⟨(),w',h1,rfl,⟨⟨hx.1.keptT (es:=[88]) hk1 (fun y hy=>by subst hy; exact⟨88,by simp,blk_ty hBg⟩) rfl rfl rfl,hzg⟩,trivial⟩,hm.adopt (g:=g_) hk1 hB1 (by omega) (fun b hb e=>?_),Nat.le_of_eq hz1.symm⟩
  have h8:=blk_ty (hm.blk b hb)
  simp at hb
  rcases hb with rfl|rfl|rfl<;>exact ty_off (blk_ty hBg) e h8 rfl)
 have psb_y8_R:∀e_∈(rZsY 2 [0,1,3,4]++[rY 2 2 2 3 1 z2,⟨5,2,oh2,fun _=>[oE ((0:Int)<=sn∧sn<((8:Nat):Int))],fun _=>[]⟩]:List (RegY (Option Nat))),psb_y8C x c pb base now w W2 v L at_ da kd sn cn z2 e_.i:=certsY_reg _ psb_y8_X (fun d=>by kernel_rfl) (by kernel_rfl) (fun d sz=>by kernel_rfl)
 have psb_y8_A:∀i_,i_<9->psb_y8C x c pb base now w W2 v L at_ da kd sn cn z2 i_:=allY (l:=[6,7,8]) (by kernel_rfl) psb_y8_R ⟨psb_y8_c6,psb_y8_c7,psb_y8_c8,trivial⟩
 refine holds_mixY (Δ:=Option Nat) (fun y=>(Turned (psb_b2 x pb w v at_ da kd sn cn z2)) y∨(PilT [141] base x.lb pb x.cb W2) y) (psb_y8v x pb sn z2) psb_y8F (psb_y8m x pb w v at_ da kd sn cn z2) (psb_y8X x c base W2 v L) [0,1,5,6,7,9] (fun d=>[(0,(pt pb 0)),(1,i6 (within14 now)),(5,(pt w.heap.size 0)),(6,i6 0),(7,(pt z2 0)),(9,.pointer (some ⟨(d.getD 0),0,none⟩))]) (fun d=>[⟨pb,98,true,(PilC.cells { x with busy:=true,kd:=kd,at_:=at_,da:=da,sn:=sn,cn:=cn,nx:=.nilFunc,lg:=false,en:=0,ep:=0,ou:=(-1),db:=false,te:=0,ts:=0,kn:=(.slice none 0 0),rc:=(.slice none 0 0),stl:=false,rd:=(.slice none 0 0),wr:=(.slice none 0 0),bl:=noB,ud:=(.pointer none),ak:=v })⟩,⟨w.heap.size,38,false,[i6 kd,i6 at_,sT da]⟩,⟨z2,96,false,(psb_v1 at_ da kd sn cn)⟩,⟨(d.getD 0),88,true,(psb_v2 x sn)⟩]) none (fun _ h=>.inl h) (by kernel_rfl) (by kernel_rfl) (by kernel_rfl) (fun wx hm=>⟨(hR2.keptT hm.kept.drew (turned_tys hm2) rfl rfl rfl),fun _ h=>by cases h⟩) (by kernel_rfl) psb_y8_A (fun d=>by kernel_rfl) (fun d=>by kernel_rfl) (fun d W9 hfin hX9 hz9 hm9=>?_)
 obtain⟨g,rfl⟩:∃g,d=some g:=Option.isSome_iff_exists.1 (hfin 7 (Nat.le_of_ble_eq_true (by kernel_rfl)) (dst_ne (k:=9) (by kernel_rfl)))
 obtain⟨⟨hR9,hg0⟩,_⟩:=hX9
 replace hg0:W2.heap.size<=g:=hg0
 replace hm9:=hm2.bckS hm9 (fun y hy=>hy.elim (fun⟨b,hb,hr,he⟩=>he▸hm2.own b hb hr) (fun h=>pilT_up hm2.kept rfl y h))
 replace hm9:MemOk w (PilT [141] base x.lb pb x.cb w) (psb_b3 x pb w v at_ da kd sn cn g z2) [] W9.heap.size W9:=hm9
 change Holds _ _ _ _ W9 (Turned (psb_b3 x pb w v at_ da kd sn cn g z2)) _ [.code [1,1,1,1,1,1,1]] ⟨[(0,(pt pb 0)),(1,i6 (within14 now)),(5,(pt w.heap.size 0)),(6,i6 0),(7,(pt z2 0)),(9,(pt g 0))],(psb_b3 x pb w v at_ da kd sn cn g z2),[],W9.heap.size⟩
 suffices HZ:Holds [] Tryz.prog (bodyOf Tryz.f14) 77 W9 (Turned (psb_b3 x pb w v at_ da kd sn cn g z2)) (psb_Q x c pb base now w L at_ da kd sn cn) [.code psb_n1,.code psb_n2] ⟨[(0,(pt pb 0)),(1,i6 (within14 now)),(6,i6 0),(7,(pt z2 0))],(psb_b3 x pb w v at_ da kd sn cn g z2),[],W9.heap.size⟩by
  rcases hold with hst|hst|hst
  ·skip
   refine hgE 24 (dz 15 0x4000000400000100180) [0,1,6,7] (rE 3 (oE ((kd != 3)=false) (by rw[hst]; decide))++rE 7 fF) [(w.heap.size,0,1)] [.code psb_n1,.code psb_n2] ⟨[(0,(pt pb 0)),(1,i6 (within14 now)),(6,i6 0),(7,(pt z2 0))],(psb_b3 x pb w v at_ da kd sn cn g z2),[],W9.heap.size⟩ ?_
   exact HZ
  ·skip
   refine hgE 24 (dz 15 0x400000030100391000100180) [0,1,6,7] (rE 3 (oE ((kd != 3)=true) (by rw[bne_iff_ne]; exact hst.1))++rE 6 (oE (((x.lv (Int.toNat sn)).has)=false) hst.2)++[fF]) [(w.heap.size,0,1),(g,0,1)] [.code psb_n1,.code psb_n2] ⟨[(0,(pt pb 0)),(1,i6 (within14 now)),(6,i6 0),(7,(pt z2 0))],(psb_b3 x pb w v at_ da kd sn cn g z2),[],W9.heap.size⟩ ?_
   exact HZ
  ·skip
   refine hgE 24 (dz 15 0x31501043911030100391000100180) [0,1,6,7] (rE 3 (oE ((kd != 3)=true) (by rw[bne_iff_ne]; exact hst.1))++rE 4 (oE (((x.lv (Int.toNat sn)).has)=true) hst.2.1)++[n64 (((within14 now)-((x.lv (Int.toNat sn)).sc)))]++rE 2 (oE (((x.lv (Int.toNat sn)).has)=true) hst.2.1)++[oE ((decide ((((within14 now)-((x.lv (Int.toNat sn)).sc)):Int)<=10))=false) (decide_eq_false (by have:=hst.2.2; omega))]) [(w.heap.size,0,1),(g,0,1),(g,4,1)] [.code psb_n1,.code psb_n2] ⟨[(0,(pt pb 0)),(1,i6 (within14 now)),(6,i6 0),(7,(pt z2 0))],(psb_b3 x pb w v at_ da kd sn cn g z2),[],W9.heap.size⟩ ?_
   exact HZ
 have psb_y10_X:StayY W9 (fun y=>(Turned (psb_b3 x pb w v at_ da kd sn cn g z2)) y∨(PilT [141] base x.lb pb x.cb W9) y) (psb_y10m x pb w v at_ da kd sn cn g z2) (psb_y10X x c base v L):=by
  intro c_ d wx w' bk hb hm hx hk
  match c_,hb,hx with
  |0,hb,hx=>
   obtain rfl:=Option.some.inj hb
   exact(hx.keptT hk (turned_tys hm) rfl rfl rfl)
  |1,hb,hx=>
   obtain rfl:=Option.some.inj hb
   exact(hx.keptT hk (turned_tys hm) rfl rfl rfl)
  |c_+2,hb,hx=>exact trivial
 have psb_y10_c7:psb_y10C x c pb base now w W9 v L at_ da kd sn cn g z2 7:=cyS (s:=0) (x:=fun d=>Instr.storeAt 88 (.pointer (some ⟨pb,3+(Int.toNat sn)*5,none⟩)) (.agg #[.bool false,i6 0,i6 0,i6 0,i6 0])) (fun(d:Unit)(_:Unit)=>d) (fun d wx bk hb hm hx hcame=>by
  obtain rfl:=Option.some.inj hb
  obtain⟨w',h1,hB1,hk1,hz1⟩:=store_to (P:=Tryz.prog) (t:=88) (v:=.agg #[.bool false,i6 0,i6 0,i6 0,i6 0]) (by kernel_rfl) (hm.at_ 0 rfl) rfl (by show(3+(Int.toNat sn)*5)+5<=73; omega) (ones_all rfl) (pil_setL ({ x with busy:=true,kd:=kd,at_:=at_,da:=da,sn:=sn,cn:=cn,nx:=.nilFunc,lg:=false,en:=0,ep:=0,ou:=(-1),db:=false,te:=0,ts:=0,kn:=(.slice none 0 0),rc:=(.slice none 0 0),stl:=false,rd:=(.slice none 0 0),wr:=(.slice none 0 0),bl:=noB,ud:=(.pointer none),ak:=v }) (by omega) lea0)
  exact⟨(),w',h1,rfl,(hx.keptT (es:=[98]) hk1 (fun y hy=>by subst hy; exact⟨98,by simp,blk_ty (hm.at_ 0 rfl)⟩) rfl rfl rfl),(hm.set1 0 rfl rfl hk1 hB1).2,Nat.le_of_eq hz1.symm⟩)
 have psb_y10_R:∀e_∈(rZsY 1 [0,1,3,4,5]++[rY 2 1 2 3 1 z2,⟨6,1,oh2,fun _=>[oE ((0:Int)<=sn∧sn<((8:Nat):Int))],fun _=>[]⟩]:List (RegY (Unit))),psb_y10C x c pb base now w W9 v L at_ da kd sn cn g z2 e_.i:=certsY_reg _ psb_y10_X (fun d=>by kernel_rfl) (by kernel_rfl) (fun d sz=>by kernel_rfl)
 have psb_y10_A:∀i_,i_<8->psb_y10C x c pb base now w W9 v L at_ da kd sn cn g z2 i_:=allY (l:=[7]) (by kernel_rfl) psb_y10_R ⟨psb_y10_c7,trivial⟩
 refine holds_mixY (Δ:=Unit) (fun y=>(Turned (psb_b3 x pb w v at_ da kd sn cn g z2)) y∨(PilT [141] base x.lb pb x.cb W9) y) (psb_y10v pb sn z2) psb_y10F (psb_y10m x pb w v at_ da kd sn cn g z2) (psb_y10X x c base v L) [0,1,6] (fun d=>[(0,(pt pb 0)),(1,i6 (within14 now)),(6,i6 0)]) (fun d=>(psb_b4 x pb w v at_ da kd sn cn g z2)) () (fun _ h=>.inl h) (by kernel_rfl) (by kernel_rfl) (by kernel_rfl) (fun wx hm=>(hR9.keptT hm.kept.drew (turned_tys hm9) rfl rfl rfl)) (by kernel_rfl) psb_y10_A (fun d=>by kernel_rfl) (fun d=>by kernel_rfl) (fun d W3 hfin hX3 hm03 hm3=>?_)
 replace hm3:=hm9.bckS hm3 (fun y hy=>hy.elim (fun⟨b,hb,hr,he⟩=>he▸hm9.own b hb hr) (fun h=>pilT_up hm9.kept rfl y h))
 have hR3:=hX3
 replace hR3:PilR W3 base x.lb x.cb c L v:=hR3
 replace hm3:MemOk w (PilT [141] base x.lb pb x.cb w) (psb_b4 x pb w v at_ da kd sn cn g z2) [] W3.heap.size W3:=hm3
 change Holds _ _ _ _ W3 (Turned (psb_b4 x pb w v at_ da kd sn cn g z2)) _ [.code psb_n2] ⟨[(0,(pt pb 0)),(1,i6 (within14 now)),(6,i6 0)],(psb_b4 x pb w v at_ da kd sn cn g z2),[],W3.heap.size⟩
 refine hgS 7 (dz 2 0) [6,74,75] [] [] [.ops [1,1,1,1,1,1,1,1,1,0] [2],.code [1,1,1,1,1,1,1,1,1,1]] (psb_b4 x pb w v at_ da kd sn cn g z2) [] W3.heap.size ?_
 refine hcV (w:=w) (S':=(PilT [141] base x.lb pb x.cb w)) (Y:=Value) (fun v4=>.tuple #[]) (fun v4=>[⟨pb,98,true,(PilC.cells { x with lv:=(lvS x.lv (Int.toNat sn) lea0),busy:=true,kd:=kd,at_:=at_,da:=da,sn:=sn,cn:=cn,nx:=(.func (.func 54) #[(pt pb 0)] #[]),lg:=true,en:=(within14 now),ep:=0,ou:=(-1),db:=false,te:=0,ts:=0,kn:=(.slice none 0 0),rc:=(.slice none 0 0),stl:=false,rd:=(.slice none 0 0),wr:=(.slice none 0 0),bl:=noB,ud:=(.pointer none),ak:=v4 })⟩,⟨w.heap.size,38,false,[i6 kd,i6 at_,sT da]⟩,⟨z2,96,false,(psb_v1 at_ da kd sn cn)⟩,⟨g,88,true,(psb_v2 x sn)⟩]) (fun v4 W_=>PilR W_ base x.lb x.cb (askC { c with opn:=[] } (within14 now) 100 ⟨8,sn,0,0,0,0,0,0,⟨#[]⟩⟩) (L++[⟨100,c.last+1,⟨8,sn,0,0,0,0,0,0,⟨#[]⟩⟩,within14 (within14 now),within14 (within14 now)⟩]) v4) (show _=some (33,[(pt pb 0),i6 (within14 now)],some 76,[])by kernel_rfl) tI (fun wx hm=>?_) (fun v4 W4 hX4 hm4=>?_)
 ·have hm0_:=(MemOk.bck hm3 hm)
  have hb1:base<=wx.heap.size:=Nat.le_trans hb0 hm0_.kept.size
  have hR_:=(hR3.keptT hm.kept (turned_tys hm3) rfl rfl rfl)
  have hX0:PilX wx base pb ({ x with lv:=(lvS x.lv (Int.toNat sn) lea0),busy:=true,kd:=kd,at_:=at_,da:=da,sn:=sn,cn:=cn,nx:=.nilFunc,lg:=false,en:=0,ep:=0,ou:=(-1),db:=false,te:=0,ts:=0,kn:=(.slice none 0 0),rc:=(.slice none 0 0),stl:=false,rd:=(.slice none 0 0),wr:=(.slice none 0 0),bl:=noB,ud:=(.pointer none),ak:=v }) c L:=⟨_,hm.at_ 0 rfl,hR_⟩
  refine(pilX_enterLease ({ x with lv:=(lvS x.lv (Int.toNat sn) lea0),busy:=true,kd:=kd,at_:=at_,da:=da,sn:=sn,cn:=cn,nx:=.nilFunc,lg:=false,en:=0,ep:=0,ou:=(-1),db:=false,te:=0,ts:=0,kn:=(.slice none 0 0),rc:=(.slice none 0 0),stl:=false,rd:=(.slice none 0 0),wr:=(.slice none 0 0),bl:=noB,ud:=(.pointer none),ak:=v }) c L pb base (within14 now) hcl hLl wx hX0 hb1).mono fun e w' hq_=>?_
  obtain⟨he_,⟨v_,hB_,hR_2⟩,h3_⟩:=hq_
  have hT_:=hX0.tys (es:=[141])
  exact⟨v_,he_,hR_2,hm0_.turnP h3_ (pilT_up hm0_.kept rfl) hB_ (off_tysP hm hT_ rfl)⟩
 have hR4:=hX4
 refine hgS 8 [oh0] [6] [] [] [.code [1,1,1,1,1,1,1,1,1,1,1]] [⟨pb,98,true,(PilC.cells { x with lv:=(lvS x.lv (Int.toNat sn) lea0),busy:=true,kd:=kd,at_:=at_,da:=da,sn:=sn,cn:=cn,nx:=(.func (.func 54) #[(pt pb 0)] #[]),lg:=true,en:=(within14 now),ep:=0,ou:=(-1),db:=false,te:=0,ts:=0,kn:=(.slice none 0 0),rc:=(.slice none 0 0),stl:=false,rd:=(.slice none 0 0),wr:=(.slice none 0 0),bl:=noB,ud:=(.pointer none),ak:=v4 })⟩,⟨w.heap.size,38,false,[i6 kd,i6 at_,sT da]⟩,⟨z2,96,false,(psb_v1 at_ da kd sn cn)⟩,⟨g,88,true,(psb_v2 x sn)⟩] [] W4.heap.size ?_
 refine hrt [] [i6 0] [] ?_
 intro wx hm
 exact⟨rfl,⟨_,hm.at_ 0 rfl,(hR4.keptT hm.kept (turned_tys hm4) rfl rfl rfl)⟩,(MemOk.bck hm4 hm).kept⟩
end Go.Proofs.YtcmpkkapkdlfhaaGreat
