import Derived.Test.YtcmpkkapkdlfhaaGreatDel14
import Derived.Test.YtcmpkkapkdlfhaaGreatCall14
namespace Go.Proofs.YtcmpkkapkdlfhaaGreat
open Go.RowKit
set_option maxHeartbeats 4000000
set_option maxRecDepth 100000
section
variable (frm lst lf lid:Int)(o:OneM)(opn:List OneM)(n:Nat)(A:Option Addr)(x cp cb c1 c2 ga base:Nat)(J:Act->World->Prop)(w W:World)(sy:SayR)(ls:Array Bool)
def clN_v1:List Value:=[i6 lf,i6 frm,i6 lid,.bool true]++rp 8 (i6 0)++[sT ⟨#[]⟩,i6 sy.st,i6 sy.ep,i6 sy.ou,.bool sy.rc.used,i6 sy.rc.fence,i6 sy.rc.de,i6 sy.rc.ds,sT sy.rc.block,.bool sy.rc.op,i6 sy.rc.ie,i6 sy.rc.is,i6 sy.rc.mask,sT sy.rc.staged]
def clN_v2:List Value:=rp 8 (i6 0)++[sT ⟨#[]⟩]
def clN_v3:List Value:=[i6 o.q.kind,i6 o.q.stripe,i6 o.q.epoch,i6 o.q.seq,i6 o.q.mask,i6 o.q.node,i6 o.q.oe,i6 o.q.os,sT o.q.block]
def clN_n1:List Nat:=[1,1,0,1,0,1,0,1,0]
def clN_n2:List Nat:=[2,4,5,6,7,23,24,33,34,38,40]
def clN_n3:List Nat:=[2,4,5,6,7,23,24,33,35,38,40]
def clN_n4:List Nat:=[2,4,5,6,7,23,24,33,36,38,40]
def clN_n5:List Nat:=[2,4,5,6,7,23,24,33,37,38,40]
def clN_n6:Array Bool:=(bA 12 0)
def clN_n7:Array Bool:=(bA 12 96)
def clN_n8:Array Bool:=(bA 12 224)
def clN_n9:Array Bool:=(bA 12 98)
def clN_n10:Array Bool:=(bA 12 226)
def clN_n11:Array Bool:=(bA 12 102)
def clN_n12:Array Bool:=(bA 12 230)
def clN_n13:Array Bool:=(bA 12 110)
def clN_n14:Array Bool:=(bA 12 238)
def clN_n15:Array Bool:=(bA 12 126)
def clN_n16:Array Bool:=(bA 12 254)
def clN_n17:Array Bool:=(bA 12 510)
def clN_n18:Array Bool:=(bA 12 97)
def clN_n19:Array Bool:=(bA 12 225)
def clN_n20:Array Bool:=(bA 12 99)
def clN_n21:Array Bool:=(bA 12 227)
def clN_n22:Array Bool:=(bA 12 103)
def clN_n23:Array Bool:=(bA 12 231)
def clN_n24:Array Bool:=(bA 12 111)
def clN_n25:Array Bool:=(bA 12 239)
def clN_n26:Array Bool:=(bA 12 127)
def clN_n27:Array Bool:=(bA 12 255)
def clN_n28:Array Bool:=(bA 12 511)
@[simp] def clN_b1:List Bk:=[⟨cb,124,true,[i6 frm,i6 lst,.slice A n cp]⟩,⟨w.heap.size,85,true,[(pt cb 0)]⟩,⟨w.heap.size+1,65,true,(clN_v1 frm lf lid sy)⟩,⟨w.heap.size+2,59,true,(clN_v2)⟩,⟨w.heap.size+3,4,true,[.bool false]⟩]
@[simp] def clN_b2:List Bk:=[⟨cb,124,true,[i6 frm,i6 lst,.slice (some ⟨ga,0,none⟩) n cp]⟩,⟨w.heap.size,85,false,[(pt cb 0)]⟩,⟨w.heap.size+1,65,false,(clN_v1 frm lf lid sy)⟩,⟨w.heap.size+2,59,true,(clN_v2)⟩,⟨w.heap.size+3,4,true,[.bool false]⟩,⟨c1,85,false,[(pt cb 0)]⟩,⟨c2,142,false,[.func (.func 72) #[] #[(pt (w.heap.size+1) 0)]]⟩,⟨W.heap.size,59,true,(clN_v3 o)⟩]
@[simp] def clN_b3:List Bk:=[⟨cb,124,true,[i6 frm,i6 lst,.slice A n cp]⟩,⟨w.heap.size,85,true,[(pt cb 0)]⟩,⟨w.heap.size+1,65,true,(clN_v1 frm lf lid sy)⟩,⟨w.heap.size+2,59,true,(clN_v2)⟩,⟨w.heap.size+3,4,true,[.bool false]⟩,⟨c1,85,false,[(pt cb 0)]⟩,⟨c2,142,false,[.func (.func 72) #[] #[(pt (w.heap.size+1) 0)]]⟩]
@[simp] def clN_b4:List Bk:=[⟨cb,124,true,[i6 frm,i6 lst,.slice A n cp]⟩,⟨w.heap.size,85,false,[(pt cb 0)]⟩,⟨w.heap.size+1,65,false,(clN_v1 frm lf lid sy)⟩,⟨w.heap.size+2,59,true,(clN_v2)⟩,⟨w.heap.size+3,4,true,[.bool false]⟩,⟨c1,85,false,[(pt cb 0)]⟩,⟨c2,142,false,[.func (.func 72) #[] #[(pt (w.heap.size+1) 0)]]⟩]
@[simp] def clN_b5:List Bk:=[⟨cb,124,true,[i6 frm,i6 lst,.slice (some ⟨ga,0,none⟩) n cp]⟩,⟨w.heap.size,85,false,[(pt cb 0)]⟩,⟨w.heap.size+1,65,false,(clN_v1 frm lf lid sy)⟩,⟨w.heap.size+2,59,true,(clN_v2)⟩,⟨w.heap.size+3,4,true,[.bool false]⟩,⟨c1,85,false,[(pt cb 0)]⟩,⟨c2,142,false,[.func (.func 72) #[] #[(pt (w.heap.size+1) 0)]]⟩]
theorem clN_q2:Out.prune [2,3,4,5,19] (qListG Tryz.prog 46 w (fun y=>y=cb) (opsOf (getCode (bodyOf Tryz.f42) [1,0,0])) (opsOf (getCode (bodyOf Tryz.f42) [1,0,0])).toList ⟨[(2,(pt w.heap.size 0)),(3,(pt (w.heap.size+1) 0)),(4,(pt (w.heap.size+2) 0)),(5,(pt (w.heap.size+3) 0))],(clN_b1 frm lst lf lid n A cp cb w sy),[],w.heap.size+4⟩ [(false,.op oh0),(false,.op (oA 2 3 1)),(false,.op oh0),(false,.op oh0),(false,.op oh0),(false,.op (oA 2 1 1)),(false,.op (oA 1 0 1)),(false,.op oh0),(false,.op oh0),(false,.op (oA 0 0 1)),(false,.op oh0),(false,.op ⟨false,3,[]⟩)])=some ⟨[false=false,false=false,false=false,false=false,false=false,false=false,false=false,false=false],dupR [(w.heap.size+1,3,1),(w.heap.size+1,1,1),(w.heap.size,0,1),(cb,0,1)],⟨[(2,(pt w.heap.size 0)),(3,(pt (w.heap.size+1) 0)),(4,(pt (w.heap.size+2) 0)),(5,(pt (w.heap.size+3) 0)),(19,.bool (frm != frm))],(clN_b1 frm lst lf lid n A cp cb w sy),[],w.heap.size+4⟩⟩:=by kernel_rfl
theorem clN_t9(Wn:World):tailP [2,4,5,6,7,23,24,38,39] (tailX Tryz.prog 46 (opsOf (getCode (bodyOf Tryz.f42) clN_n1)) 12 clN_n6 ⟨[(2,(pt w.heap.size 0)),(4,(pt (w.heap.size+2) 0)),(5,(pt (w.heap.size+3) 0)),(6,i6 (x:Int)),(7,(pt W.heap.size 0)),(23,.func (.func 96) #[] #[(pt c1 0),(pt c2 0)]),(24,i6 (x:Int))],(clN_b2 frm lst lf lid o n cp cb c1 c2 ga w W sy),[],Wn.heap.size⟩ [(5,true,oh0),(6,true,oh0)])=some (⟨[],dupR [],⟨[(2,(pt w.heap.size 0)),(4,(pt (w.heap.size+2) 0)),(5,(pt (w.heap.size+3) 0)),(6,i6 (x:Int)),(7,(pt W.heap.size 0)),(23,.func (.func 96) #[] #[(pt c1 0),(pt c2 0)]),(24,i6 (x:Int)),(38,i6 (x:Int)),(39,i6 (x:Int))],(clN_b2 frm lst lf lid o n cp cb c1 c2 ga w W sy),[],Wn.heap.size⟩⟩,10,clN_n7):=by kernel_rfl
def clN_10B:List Bk:=(clN_b2 frm lst lf lid o n cp cb c1 c2 ga w W sy)
def clN_10H0(m:Nat)(ls:Array Bool)(sl:List (Nat×Value)):Prop:=∀Wd:World,OwnR Wd base 141 13 (some ⟨ga,0,none⟩) n cp (onesV opn)->MemOk W (fun y=>Turned (clN_b2 frm lst lf lid o n cp cb c1 c2 ga w W sy) y∨y=ga) (clN_10B frm lst lf lid o n cp cb c1 c2 ga w W sy) [] Wd.heap.size Wd->Holds [] Tryz.prog (bodyOf Tryz.f42) 46 Wd (Turned (clN_10B frm lst lf lid o n cp cb c1 c2 ga w W sy)) (NoWay) (.any clN_n1 m ls::[.inv J]) ⟨sl,(clN_10B frm lst lf lid o n cp cb c1 c2 ga w W sy),[],Wd.heap.size⟩
def clN_10H1(m:Nat)(ls:Array Bool)(sl:List (Nat×Value)):Prop:=∀Wd:World,OwnR Wd base 141 13 (some ⟨ga,0,none⟩) (n-1) cp (onesV (opn.eraseIdx x))->MemOk W (fun y=>Turned (clN_b2 frm lst lf lid o n cp cb c1 c2 ga w W sy) y∨y=ga) (clN_10B frm lst lf lid o n cp cb c1 c2 ga w W sy) [] Wd.heap.size Wd->Holds [] Tryz.prog (bodyOf Tryz.f42) 46 Wd (Turned (clN_10B frm lst lf lid o n cp cb c1 c2 ga w W sy)) (NoWay) (.any clN_n1 m ls::[.inv J]) ⟨sl,(clN_10B frm lst lf lid o n cp cb c1 c2 ga w W sy),[],Wd.heap.size⟩
theorem clN_t11(W3:World)(sy:SayR):tailP [2,4,5,6,7,23,24] (tailX Tryz.prog 46 (opsOf (getCode (bodyOf Tryz.f42) clN_n1)) 3 clN_n28 ⟨[(2,(pt w.heap.size 0)),(4,(pt (w.heap.size+2) 0)),(5,(pt (w.heap.size+3) 0)),(6,i6 (x:Int)),(7,(pt W.heap.size 0)),(23,.func (.func 96) #[] #[(pt c1 0),(pt c2 0)]),(24,i6 (x:Int)),(33,(pt cb 0)),(41,.slice (some ⟨ga,0,none⟩) (n-1) cp)],(clN_b2 frm lst lf lid o n cp cb c1 c2 ga w W sy),[],W3.heap.size⟩ [(9,false,oh0),(10,false,oh0),(11,false,(oA 0 2 1))])=some (⟨[],dupR [(cb,2,1)],⟨[(2,(pt w.heap.size 0)),(4,(pt (w.heap.size+2) 0)),(5,(pt (w.heap.size+3) 0)),(6,i6 (x:Int)),(7,(pt W.heap.size 0)),(23,.func (.func 96) #[] #[(pt c1 0),(pt c2 0)]),(24,i6 (x:Int))],[⟨cb,124,true,[i6 frm,i6 lst,.slice (some ⟨ga,0,none⟩) (n-1) cp]⟩,⟨w.heap.size,85,false,[(pt cb 0)]⟩,⟨w.heap.size+1,65,false,(clN_v1 frm lf lid sy)⟩,⟨w.heap.size+2,59,true,(clN_v2)⟩,⟨w.heap.size+3,4,true,[.bool false]⟩,⟨c1,85,false,[(pt cb 0)]⟩,⟨c2,142,false,[.func (.func 72) #[] #[(pt (w.heap.size+1) 0)]]⟩,⟨W.heap.size,59,true,(clN_v3 o)⟩],[],W3.heap.size⟩⟩,0,(bA 12 4095)):=by kernel_rfl
end
theorem answer_any{sy:SayR}(frm lst lf lid:Int)(A:Option Addr)(n cp cb base:Nat)(opn:List OneM)(hn:opn.length=n)(hn8:n<=64)(w:World)(hc:Blk w cb 124 [i6 frm,i6 lst,.slice A n cp])(hO:OwnR w base 141 13 A n cp (onesV opn)) :
  Calls Tryz.prog 42 #[.pointer (some ⟨cb,0,none⟩),.agg #[i6 lf,i6 frm,i6 lid,.bool true,i6 0,i6 0,i6 0,i6 0,i6 0,i6 0,i6 0,i6 0,sT ⟨#[]⟩,i6 sy.st,i6 sy.ep,i6 sy.ou,.bool sy.rc.used,i6 sy.rc.fence,i6 sy.rc.de,i6 sy.rc.ds,sT sy.rc.block,.bool sy.rc.op,i6 sy.rc.ie,i6 sy.rc.is,i6 sy.rc.mask,sT sy.rc.staged]] w (fun e w'=>(e=.returned (.tuple #[.agg #[i6 0,i6 0,i6 0,i6 0,i6 0,i6 0,i6 0,i6 0,sT ⟨#[]⟩],.bool false])∧meantL (fun o:OneM=>(o.id==lid)&&(o.to==lf)) opn opn.length=[]∧Kept (fun _=>False) w w')∨∃x o,(opn[x]?=some o∧(fun o:OneM=>(o.id==lid)&&(o.to==lf)) o=true∧meantL (fun o:OneM=>(o.id==lid)&&(o.to==lf)) opn x=[])∧e=.returned (.tuple #[.agg #[i6 o.q.kind,i6 o.q.stripe,i6 o.q.epoch,i6 o.q.seq,i6 o.q.mask,i6 o.q.node,i6 o.q.oe,i6 o.q.os,sT o.q.block],.bool true])∧Blk w' cb 124 [i6 frm,i6 lst,.slice A (n-1) cp]∧OwnR w' base 141 13 A (n-1) cp (onesV (opn.eraseIdx x))∧Kept (fun y=>y=cb∨ownS A y) w w'):=by
 refine calls_of_holdsN (m:=5) (S:=(fun y=>y=cb)) (n:=46) Tryz.func42 (body_of (by kernel_rfl)) rfl (by simp) (MemOk.start (bk:=[⟨cb,124,true,[i6 frm,i6 lst,.slice A n cp]⟩]) (wn:=[]) (by simpa using hc) (by simp) (by simp) (by simp)) ?_
 refine hgE 12 (dz 4 0) [2,3,4,5] [] [] [.code [1,0,0],.code [1,0,1],.code [1,1]] ⟨[(2,(pt w.heap.size 0)),(3,(pt (w.heap.size+1) 0)),(4,(pt (w.heap.size+2) 0)),(5,(pt (w.heap.size+3) 0))],(clN_b1 frm lst lf lid n A cp cb w sy),[],w.heap.size+4⟩ ?_
 refine holds_quietG _ _ (by kernel_rfl) (by kernel_rfl) (by kernel_rfl) (clN_q2 frm lst lf lid n A cp cb w sy) ⟨rfl,rfl,rfl,rfl,rfl,rfl,rfl,rfl,trivial⟩ fun z2 hz2=>?_
 replace hz2:w.heap.size+4<=z2:=hz2
 refine hgS 10 (dz 3 1048960) [2,4,5,21,22] [oE ((frm != frm)=false) (by simp)] [(w.heap.size,0,1)] [.ops [1,1,0,0] [2],.code [1,1,0,1],.code [1,1,1]] (clN_b1 frm lst lf lid n A cp cb w sy) [] z2 ?_
 refine hcV (w:=w) (S':=(fun y=>y=cb)) (Y:=Nat×Nat) (fun(⟨c1,c2⟩:Nat×Nat)=>.func (.func 96) #[] #[(pt c1 0),(pt c2 0)]) (fun(⟨c1,c2⟩:Nat×Nat)=>(clN_b3 frm lst lf lid n A cp cb c1 c2 w sy)) (fun(⟨c1,c2⟩:Nat×Nat) W_=>z2<=c1∧c1<c2) (show _=some (59,[(pt cb 0),.func (.func 72) #[] #[(pt (w.heap.size+1) 0)]],some 23,[])by kernel_rfl) tI (fun wx hm=>?_) (fun y W1 hX1 hm1=>?_)
 ·refine(meant_fn cb (w.heap.size+1) 72 wx).mono fun e w' he=>?_
  obtain⟨c1,c2,he,h1,h2,h3,h4,h5⟩:=he
  have hs:wx.heap.size=z2:=hm.size
  exact⟨(c1,c2),he,⟨by omega,h2⟩,(MemOk.add hm h5 [⟨c1,85,false,_⟩,⟨c2,142,false,_⟩] ⟨h3,h4,trivial⟩ (by simp; omega) (by simp; omega)).2⟩
 obtain⟨c1,c2⟩:=y
 obtain⟨hc1,hc2⟩:=hX1
 refine hgE 5 [] [2,4,5,23] [] [] [.code [1,1,0,1,0],.blk 0,.code [1,1,1]] ⟨[(2,(pt w.heap.size 0)),(4,(pt (w.heap.size+2) 0)),(5,(pt (w.heap.size+3) 0)),(23,.func (.func 96) #[] #[(pt c1 0),(pt c2 0)])],(clN_b3 frm lst lf lid n A cp cb c1 c2 w sy),[],W1.heap.size⟩ ?_
 refine holds_gndF (bk':=(clN_b4 frm lst lf lid n A cp cb c1 c2 w sy)) [true,false,false,true,true,false,false] rfl (fun W2 hm0 hm2=>?_)
 have hk12:Kept (fun y=>y=cb) w W2:=(MemOk.bck hm1 hm0).kept
 have hB0:cb<W2.heap.size:=(hm2.at_ 0 rfl).lt
 have hB1:w.heap.size<W2.heap.size:=(hm2.at_ 1 rfl).lt
 have hB2:w.heap.size+1<W2.heap.size:=(hm2.at_ 2 rfl).lt
 have hB3:w.heap.size+2<W2.heap.size:=(hm2.at_ 3 rfl).lt
 have hB4:w.heap.size+3<W2.heap.size:=(hm2.at_ 4 rfl).lt
 have hB5:c1<W2.heap.size:=(hm2.at_ 5 rfl).lt
 have hB6:c2<W2.heap.size:=(hm2.at_ 6 rfl).lt
 have hcbA:¬ownS A cb:=fun h=>by
  obtain⟨cur,fz,h7⟩:=hO.ty cb h
  have h8:=hc
  unfold Blk at h8
  rw[h7]at h8
  simp at h8
 have hO2:=hO.kept hk12 (fun y hy h=>hcbA (h▸hy))
 have hle:w.heap.size<=W2.heap.size:=hk12.size
 have hapart:∀x,ownS A x->x<w.heap.size:=fun x hx=>(hO.own x hx).2
 have hcl:=hc.lt
 have hnT:∀y,ownS A y->¬Turned (clN_b4 frm lst lf lid n A cp cb c1 c2 w sy) y:=fun y hy h=>by
  obtain⟨b,hb,hr,he⟩:=h
  have h5:=hapart y hy
  simp at hb
  rcases hb with rfl|rfl|rfl|rfl|rfl|rfl|rfl<;>simp at hr he
  all_goals first|exact hcbA (he▸hy)|omega
 refine holds_rangeI (α:=Nat) (wn:=[]) (gf:=96) (enc:=fun x=>i6 (x:Int)) (N:=MeantV (fun o:OneM=>(o.id==lid)&&(o.to==lf)) opn) rfl rfl (enters_of Tryz.func96 (by kernel_rfl) rfl)
  (fun(pre:List Nat)(W:World)=>pre=[]∧MemOk W2 (fun y=>Turned (clN_b4 frm lst lf lid n A cp cb c1 c2 w sy) y) (clN_b4 frm lst lf lid n A cp cb c1 c2 w sy) [] W.heap.size W∧OwnR W base 141 13 A n cp (onesV opn)) (fun(pre:List Nat)(W:World)=>∃(x:Nat)(o:OneM),(opn[x]?=some o∧(fun o:OneM=>(o.id==lid)&&(o.to==lf)) o=true∧meantL (fun o:OneM=>(o.id==lid)&&(o.to==lf)) opn x=[])∧MemOk W2 (fun y=>Turned (clN_b4 frm lst lf lid n A cp cb c1 c2 w sy) y∨ownS A y) [⟨cb,124,true,[i6 frm,i6 lst,.slice A (n-1) cp]⟩,⟨w.heap.size,85,false,[(pt cb 0)]⟩,⟨w.heap.size+1,65,false,(clN_v1 frm lf lid sy)⟩,⟨w.heap.size+2,59,true,(clN_v3 o)⟩,⟨w.heap.size+3,4,true,[.bool true]⟩,⟨c1,85,false,[(pt cb 0)]⟩,⟨c2,142,false,[.func (.func 72) #[] #[(pt (w.heap.size+1) 0)]]⟩] [] W.heap.size W∧OwnR W base 141 13 A (n-1) cp (onesV (opn.eraseIdx x))) (fun s Wa Wb row h hg hr=>⟨h.1,memOk_grown (Nat.le_refl _) h.2.1 hg hr,ownR_grown h.2.2 hg hr⟩) (fun s Wa Wb row h hg hr=>by obtain⟨x,o,h1,h2,h3⟩:=h; exact⟨x,o,h1,memOk_grown (Nat.le_refl _) h2 hg hr,ownR_grown h3 hg hr⟩) ?h0
  (meantAnswer_seq (sy:=sy) W2 c1 c2 cb (w.heap.size+1) cp n frm lst lf frm lid A opn hn (by omega) ?hne ?hcb) ?hInv (fun _ Wa Wb h hk=>⟨h.1,⟨rfl,fun b hb=>(h.2.1.blk b hb).kept hk (fun h=>h),h.2.1.own,h.2.1.nd,h.2.1.kept.trans hk (fun _ _ h=>h.elim),fun _ hx=>by cases hx⟩,h.2.2.kept hk (fun _ _ h=>h)⟩) (fun x:Nat=>[(24,i6 (x:Int)),(2,(pt w.heap.size 0)),(4,(pt (w.heap.size+2) 0)),(5,(pt (w.heap.size+3) 0)),(23,.func (.func 96) #[] #[(pt c1 0),(pt c2 0)])]) (fun x:Nat=>[(6,i6 (x:Int)),(24,i6 (x:Int)),(2,(pt w.heap.size 0)),(4,(pt (w.heap.size+2) 0)),(5,(pt (w.heap.size+3) 0)),(23,.func (.func 96) #[] #[(pt c1 0),(pt c2 0)])]) (fun _=>rfl) ?asg ?body ?done ?stop
 case h0=>exact fun wx hm=>⟨rfl,by have h:=hm; rw[<-hm.size]at h; exact h,hO2.kept hm.kept hnT⟩
 case hne=>simp; omega
 case hcb=>omega
 case hInv=>
  rintro pre Wq ⟨_,h1,h3⟩
  exact⟨h1.kept.mono (fun _ _ _=>trivial),h1.at_ 5 rfl,h1.at_ 6 rfl,h1.at_ 2 rfl,fun _=>hn▸h1.at_ 0 rfl,fun j o ho _=>by obtain⟨g,e1,e2,_,e3⟩:=arr_own h3 ho; exact⟨g,e1,e2,e3⟩⟩
 case asg=>
  intro x l W
  refine hgER (fun _=>tI) 6 [oh0] [6,24,2,4,5,23] [] [] [] ⟨[(6,i6 (x:Int)),(24,i6 (x:Int)),(2,(pt w.heap.size 0)),(4,(pt (w.heap.size+2) 0)),(5,(pt (w.heap.size+3) 0)),(23,.func (.func 96) #[] #[(pt c1 0),(pt c2 0)])],[],[],W.heap.size⟩ ?_
  exact holdsR_end (fun a wx hf hm=>⟨rfl,hm.kept,hf⟩)
 case body=>
  rintro l pre x W ⟨rfl,hmB,hOc⟩ ⟨o,ho,hok,hpre⟩
  obtain⟨ga,hA,hg,hgb,hcell⟩:=arr_own hOc ho
  subst hA
  have hxn:x<n:=by have:=(List.getElem?_eq_some_iff.1 ho).1; omega
  have hgaS:ga<w.heap.size:=hapart ga ⟨_,rfl,rfl⟩
  have hgcb:ga≠cb:=fun e=>hcbA ⟨_,rfl,e.symm⟩
  have hgT:¬Turned (clN_b5 frm lst lf lid n cp cb c1 c2 ga w sy) ga:=hnT ga ⟨_,rfl,rfl⟩
  refine⟨(clN_b5 frm lst lf lid n cp cb c1 c2 ga w sy),hmB.again,?_⟩
  refine hgER (fun _=>tI) 2 [] [6,24,2,4,5,23] [] [] [.code [1,1,0,1,0,1,0,0],.code [1,1,0,1,0,1,0,1],.blk 1] ⟨[(6,i6 (x:Int)),(24,i6 (x:Int)),(2,(pt w.heap.size 0)),(4,(pt (w.heap.size+2) 0)),(5,(pt (w.heap.size+3) 0)),(23,.func (.func 96) #[] #[(pt c1 0),(pt c2 0)])],(clN_b5 frm lst lf lid n cp cb c1 c2 ga w sy),[],W.heap.size⟩ ?_
  refine holdsR_reg (l0:=[0,1,2,3,4,5,6,7,8,9]) (by kernel_rfl) (by kernel_rfl) (by kernel_rfl) (fun J hJ=>?_)
  refine holds_wins [⟨ga,0+x*13,o.cells⟩] (fun _ y hy=>?_) ?_
  ·simp only[List.mem_cons,List.not_mem_nil,or_false]at hy
   subst hy
   exact⟨hgT,hg,fun i v hv=>hcell i v hv⟩
  refine hgE 14 [(oA 1 0 1),oh0,oh0,(oA 0 2 1),oh0,oh2,oh0,⟨false,0,[⟨true,0,2,9⟩]⟩,oh0,(oA 7 0 9)] [2,4,5,6,7,23,24] [oE ((0:Int)<=(x:Int)∧(x:Int)<((n:Nat):Int))] [(w.heap.size,0,1),(cb,2,1),(ga,0+x*13+2,9),(W.heap.size,0,9)] [.inv J] ⟨[(2,(pt w.heap.size 0)),(4,(pt (w.heap.size+2) 0)),(5,(pt (w.heap.size+3) 0)),(6,i6 (x:Int)),(7,(pt W.heap.size 0)),(23,.func (.func 96) #[] #[(pt c1 0),(pt c2 0)]),(24,i6 (x:Int))],(clN_b2 frm lst lf lid o n cp cb c1 c2 ga w W sy),[⟨ga,0+x*13,[i6 o.to,i6 o.id,i6 o.q.kind,i6 o.q.stripe,i6 o.q.epoch,i6 o.q.seq,i6 o.q.mask,i6 o.q.node,i6 o.q.oe,i6 o.q.os,sT o.q.block,i6 o.asked,i6 o.sent]⟩],W.heap.size+1⟩ ?_
  refine holds_wins [] (fun _ _ h=>by cases h) ?_
  refine hJ _ _ _ ?_
  refine hgER (fun _=>tI) 1 [] [2,4,5,6,7,23,24] [] [] [.code clN_n1,.code [1,1,0,1,0,1,0,1,1],.blk 1] ⟨[(2,(pt w.heap.size 0)),(4,(pt (w.heap.size+2) 0)),(5,(pt (w.heap.size+3) 0)),(6,i6 (x:Int)),(7,(pt W.heap.size 0)),(23,.func (.func 96) #[] #[(pt c1 0),(pt c2 0)]),(24,i6 (x:Int))],(clN_b2 frm lst lf lid o n cp cb c1 c2 ga w W sy),[],W.heap.size+1⟩ ?_
  refine holdsR_draw (f0:=12) (ls:=clN_n6) (by kernel_rfl) (by kernel_rfl) (by kernel_rfl) (by kernel_rfl) (by kernel_rfl) (fun J hJ=>?_)
  refine holds_gnd (fun Wn hmn=>?_)
  have hTx:∀y,ownS (some ⟨ga,0,none⟩) y->¬Turned (clN_b2 frm lst lf lid o n cp cb c1 c2 ga w W sy) y:=fun y hy h=>by
   obtain⟨b,hb,hr,he⟩:=h
   have h5:=hapart y hy
   have h6:=hmB.kept.size
   simp at hb
   rcases hb with rfl|rfl|rfl|rfl|rfl|rfl|rfl|rfl<;>simp at hr he
   all_goals first|exact hcbA (he▸hy)|omega
  refine holds_tail panicOk_way _ _ (clN_t9 frm lst lf lid o n x cp cb c1 c2 ga w W sy Wn) trivial ?_
  suffices HZ10:∀Wd:World,OwnR Wd base 141 13 (some ⟨ga,0,none⟩) (n-1) cp (onesV (opn.eraseIdx x))->MemOk W (fun y=>Turned (clN_b2 frm lst lf lid o n cp cb c1 c2 ga w W sy) y∨y=ga) (clN_10B frm lst lf lid o n cp cb c1 c2 ga w W sy) [] Wd.heap.size Wd->Holds [] Tryz.prog (bodyOf Tryz.f42) 46 Wd (Turned (clN_b2 frm lst lf lid o n cp cb c1 c2 ga w W sy)) (NoWay) [.any clN_n1 3 clN_n28,.inv J] ⟨[(2,(pt w.heap.size 0)),(4,(pt (w.heap.size+2) 0)),(5,(pt (w.heap.size+3) 0)),(6,i6 (x:Int)),(7,(pt W.heap.size 0)),(23,.func (.func 96) #[] #[(pt c1 0),(pt c2 0)]),(24,i6 (x:Int)),(33,(pt cb 0)),(41,.slice (some ⟨ga,0,none⟩) (n-1) cp)],(clN_b2 frm lst lf lid o n cp cb c1 c2 ga w W sy),[],Wd.heap.size⟩by
   have hC10_0:∀Wd:World,OwnR Wd base 141 13 (some ⟨ga,0,none⟩) n cp (onesV opn)->MemOk W (fun y=>Turned (clN_b2 frm lst lf lid o n cp cb c1 c2 ga w W sy) y∨y=ga) (clN_10B frm lst lf lid o n cp cb c1 c2 ga w W sy) [] Wd.heap.size Wd->∀wx,MemOk Wd (Turned (clN_10B frm lst lf lid o n cp cb c1 c2 ga w W sy)) (clN_10B frm lst lf lid o n cp cb c1 c2 ga w W sy) [] Wd.heap.size wx->Calls Tryz.prog 73 #[.slice (some ⟨ga,0,none⟩) n cp,i6 (x:Int),i6 ((x:Int)+1)] wx (fun e w'=>e=.returned (.slice (some ⟨ga,0,none⟩) (n-1) cp)∧(OwnR w' base 141 13 (some ⟨ga,0,none⟩) (n-1) cp (onesV (opn.eraseIdx x)))∧MemOk W (fun y=>Turned (clN_b2 frm lst lf lid o n cp cb c1 c2 ga w W sy) y∨y=ga) (clN_10B frm lst lf lid o n cp cb c1 c2 ga w W sy) [] w'.heap.size w'):=by
    intro Wd hXd hmd wx hm
    refine(delete_any ga n cp x base opn hn hxn hn8 wx (hXd.kept hm.kept hTx)).mono fun e w' he=>?_
    obtain⟨he,h2,h3⟩:=he
    exact⟨he,h2,MemOk.offA (MemOk.bck hmd hm) (fun y h=>h) h3 (fun y h=>.inl (.inr h)) (fun b hb h=>by have h6:=hmB.kept.size; have hb':b∈((clN_b2 frm lst lf lid o n cp cb c1 c2 ga w W sy):List Bk):=hb; simp at hb'; rcases hb' with rfl|rfl|rfl|rfl|rfl|rfl|rfl|rfl<;>simp at h<;>omega)⟩
   have A10_0:clN_10H1 frm lst lf lid o opn n x cp cb c1 c2 ga base J w W sy 3 clN_n28 [(2,(pt w.heap.size 0)),(4,(pt (w.heap.size+2) 0)),(5,(pt (w.heap.size+3) 0)),(6,i6 (x:Int)),(7,(pt W.heap.size 0)),(23,.func (.func 96) #[] #[(pt c1 0),(pt c2 0)]),(24,i6 (x:Int)),(33,(pt cb 0)),(41,.slice (some ⟨ga,0,none⟩) (n-1) cp)]:=by
    intro Wd hXd hmd
    exact HZ10 Wd hXd hmd
   have A10_1:clN_10H0 frm lst lf lid o opn n cp cb c1 c2 ga base J w W sy 4 clN_n27 [(2,(pt w.heap.size 0)),(4,(pt (w.heap.size+2) 0)),(5,(pt (w.heap.size+3) 0)),(6,i6 (x:Int)),(7,(pt W.heap.size 0)),(23,.func (.func 96) #[] #[(pt c1 0),(pt c2 0)]),(24,i6 (x:Int)),(33,(pt cb 0)),(37,.slice (some ⟨ga,0,none⟩) n cp),(38,i6 (x:Int)),(40,i6 ((x:Int)+1))]:=by
    intro Wd hXd hmd
    exact holds_anyAll (l:=[8]) (by kernel_rfl) (by simp) ⟨edge_callU (w:=W) (S':=(fun y=>Turned (clN_b2 frm lst lf lid o n cp cb c1 c2 ga w W sy) y∨y=ga)) (ls':=clN_n28) (.slice (some ⟨ga,0,none⟩) (n-1) cp) [2,4,5,6,7,23,24,33,41] (fun W_=>OwnR W_ base 141 13 (some ⟨ga,0,none⟩) (n-1) cp (onesV (opn.eraseIdx x))) (by kernel_rfl) (show _=some (73,[.slice (some ⟨ga,0,none⟩) n cp,i6 (x:Int),i6 ((x:Int)+1)],some 41,[])by kernel_rfl) tI rfl rfl (hC10_0 Wd hXd hmd) (fun W_ hX_ hm_=>A10_0 W_ hX_ hm_),tI⟩
   have A10_2:clN_10H1 frm lst lf lid o opn n x cp cb c1 c2 ga base J w W sy 4 clN_n17 [(2,(pt w.heap.size 0)),(4,(pt (w.heap.size+2) 0)),(5,(pt (w.heap.size+3) 0)),(6,i6 (x:Int)),(7,(pt W.heap.size 0)),(23,.func (.func 96) #[] #[(pt c1 0),(pt c2 0)]),(24,i6 (x:Int)),(41,.slice (some ⟨ga,0,none⟩) (n-1) cp)]:=by
    intro Wd hXd hmd
    exact holds_anyAll (l:=[0]) (by kernel_rfl) (by simp) ⟨eop clN_n28 (oA 1 0 1) [2,4,5,6,7,23,24,33,41] [] [(w.heap.size,0,1)] ⟨[(2,(pt w.heap.size 0)),(4,(pt (w.heap.size+2) 0)),(5,(pt (w.heap.size+3) 0)),(6,i6 (x:Int)),(7,(pt W.heap.size 0)),(23,.func (.func 96) #[] #[(pt c1 0),(pt c2 0)]),(24,i6 (x:Int)),(33,(pt cb 0)),(41,.slice (some ⟨ga,0,none⟩) (n-1) cp)],(clN_10B frm lst lf lid o n cp cb c1 c2 ga w W sy),[],Wd.heap.size⟩ tI (A10_0 Wd hXd hmd),tI⟩
   have A10_3:clN_10H0 frm lst lf lid o opn n cp cb c1 c2 ga base J w W sy 5 clN_n26 [(2,(pt w.heap.size 0)),(4,(pt (w.heap.size+2) 0)),(5,(pt (w.heap.size+3) 0)),(6,i6 (x:Int)),(7,(pt W.heap.size 0)),(23,.func (.func 96) #[] #[(pt c1 0),(pt c2 0)]),(24,i6 (x:Int)),(33,(pt cb 0)),(37,.slice (some ⟨ga,0,none⟩) n cp),(38,i6 (x:Int)),(39,i6 (x:Int))]:=by
    intro Wd hXd hmd
    exact holds_anyAll (l:=[7]) (by kernel_rfl) (by simp) ⟨eop clN_n27 oh2 clN_n5 [inR .i64 (((x:Int)+1))] [] ⟨[(2,(pt w.heap.size 0)),(4,(pt (w.heap.size+2) 0)),(5,(pt (w.heap.size+3) 0)),(6,i6 (x:Int)),(7,(pt W.heap.size 0)),(23,.func (.func 96) #[] #[(pt c1 0),(pt c2 0)]),(24,i6 (x:Int)),(33,(pt cb 0)),(37,.slice (some ⟨ga,0,none⟩) n cp),(38,i6 (x:Int)),(40,i6 ((x:Int)+1))],(clN_10B frm lst lf lid o n cp cb c1 c2 ga w W sy),[],Wd.heap.size⟩ ⟨in64 (by omega),tI⟩ (A10_1 Wd hXd hmd),tI⟩
   have A10_4:clN_10H0 frm lst lf lid o opn n cp cb c1 c2 ga base J w W sy 5 clN_n25 [(2,(pt w.heap.size 0)),(4,(pt (w.heap.size+2) 0)),(5,(pt (w.heap.size+3) 0)),(6,i6 (x:Int)),(7,(pt W.heap.size 0)),(23,.func (.func 96) #[] #[(pt c1 0),(pt c2 0)]),(24,i6 (x:Int)),(33,(pt cb 0)),(36,(pt cb 2)),(38,i6 (x:Int)),(40,i6 ((x:Int)+1))]:=by
    intro Wd hXd hmd
    exact holds_anyAll (l:=[4]) (by kernel_rfl) (by simp) ⟨eop clN_n27 (oA 0 2 1) clN_n5 [] [(cb,2,1)] ⟨[(2,(pt w.heap.size 0)),(4,(pt (w.heap.size+2) 0)),(5,(pt (w.heap.size+3) 0)),(6,i6 (x:Int)),(7,(pt W.heap.size 0)),(23,.func (.func 96) #[] #[(pt c1 0),(pt c2 0)]),(24,i6 (x:Int)),(33,(pt cb 0)),(37,.slice (some ⟨ga,0,none⟩) n cp),(38,i6 (x:Int)),(40,i6 ((x:Int)+1))],(clN_10B frm lst lf lid o n cp cb c1 c2 ga w W sy),[],Wd.heap.size⟩ tI (A10_1 Wd hXd hmd),tI⟩
   have A10_5:clN_10H0 frm lst lf lid o opn n cp cb c1 c2 ga base J w W sy 5 clN_n16 [(2,(pt w.heap.size 0)),(4,(pt (w.heap.size+2) 0)),(5,(pt (w.heap.size+3) 0)),(6,i6 (x:Int)),(7,(pt W.heap.size 0)),(23,.func (.func 96) #[] #[(pt c1 0),(pt c2 0)]),(24,i6 (x:Int)),(37,.slice (some ⟨ga,0,none⟩) n cp),(38,i6 (x:Int)),(40,i6 ((x:Int)+1))]:=by
    intro Wd hXd hmd
    exact holds_anyAll (l:=[0,8]) (by kernel_rfl) (by simp) ⟨eop clN_n27 (oA 1 0 1) clN_n5 [] [(w.heap.size,0,1)] ⟨[(2,(pt w.heap.size 0)),(4,(pt (w.heap.size+2) 0)),(5,(pt (w.heap.size+3) 0)),(6,i6 (x:Int)),(7,(pt W.heap.size 0)),(23,.func (.func 96) #[] #[(pt c1 0),(pt c2 0)]),(24,i6 (x:Int)),(33,(pt cb 0)),(37,.slice (some ⟨ga,0,none⟩) n cp),(38,i6 (x:Int)),(40,i6 ((x:Int)+1))],(clN_10B frm lst lf lid o n cp cb c1 c2 ga w W sy),[],Wd.heap.size⟩ tI (A10_1 Wd hXd hmd),edge_callU (w:=W) (S':=(fun y=>Turned (clN_b2 frm lst lf lid o n cp cb c1 c2 ga w W sy) y∨y=ga)) (ls':=clN_n17) (.slice (some ⟨ga,0,none⟩) (n-1) cp) [2,4,5,6,7,23,24,41] (fun W_=>OwnR W_ base 141 13 (some ⟨ga,0,none⟩) (n-1) cp (onesV (opn.eraseIdx x))) (by kernel_rfl) (show _=some (73,[.slice (some ⟨ga,0,none⟩) n cp,i6 (x:Int),i6 ((x:Int)+1)],some 41,[])by kernel_rfl) tI rfl rfl (hC10_0 Wd hXd hmd) (fun W_ hX_ hm_=>A10_2 W_ hX_ hm_),tI⟩
   have A10_6:clN_10H0 frm lst lf lid o opn n cp cb c1 c2 ga base J w W sy 6 clN_n24 [(2,(pt w.heap.size 0)),(4,(pt (w.heap.size+2) 0)),(5,(pt (w.heap.size+3) 0)),(6,i6 (x:Int)),(7,(pt W.heap.size 0)),(23,.func (.func 96) #[] #[(pt c1 0),(pt c2 0)]),(24,i6 (x:Int)),(33,(pt cb 0)),(36,(pt cb 2)),(38,i6 (x:Int)),(39,i6 (x:Int))]:=by
    intro Wd hXd hmd
    exact holds_anyAll (l:=[4,7]) (by kernel_rfl) (by simp) ⟨eop clN_n26 (oA 0 2 1) [2,4,5,6,7,23,24,33,37,38,39] [] [(cb,2,1)] ⟨[(2,(pt w.heap.size 0)),(4,(pt (w.heap.size+2) 0)),(5,(pt (w.heap.size+3) 0)),(6,i6 (x:Int)),(7,(pt W.heap.size 0)),(23,.func (.func 96) #[] #[(pt c1 0),(pt c2 0)]),(24,i6 (x:Int)),(33,(pt cb 0)),(37,.slice (some ⟨ga,0,none⟩) n cp),(38,i6 (x:Int)),(39,i6 (x:Int))],(clN_10B frm lst lf lid o n cp cb c1 c2 ga w W sy),[],Wd.heap.size⟩ tI (A10_3 Wd hXd hmd),eop clN_n25 oh2 clN_n4 [inR .i64 (((x:Int)+1))] [] ⟨[(2,(pt w.heap.size 0)),(4,(pt (w.heap.size+2) 0)),(5,(pt (w.heap.size+3) 0)),(6,i6 (x:Int)),(7,(pt W.heap.size 0)),(23,.func (.func 96) #[] #[(pt c1 0),(pt c2 0)]),(24,i6 (x:Int)),(33,(pt cb 0)),(36,(pt cb 2)),(38,i6 (x:Int)),(40,i6 ((x:Int)+1))],(clN_10B frm lst lf lid o n cp cb c1 c2 ga w W sy),[],Wd.heap.size⟩ ⟨in64 (by omega),tI⟩ (A10_4 Wd hXd hmd),tI⟩
   have A10_7:clN_10H0 frm lst lf lid o opn n cp cb c1 c2 ga base J w W sy 6 clN_n23 [(2,(pt w.heap.size 0)),(4,(pt (w.heap.size+2) 0)),(5,(pt (w.heap.size+3) 0)),(6,i6 (x:Int)),(7,(pt W.heap.size 0)),(23,.func (.func 96) #[] #[(pt c1 0),(pt c2 0)]),(24,i6 (x:Int)),(33,(pt cb 0)),(35,(pt cb 0)),(38,i6 (x:Int)),(40,i6 ((x:Int)+1))]:=by
    intro Wd hXd hmd
    exact holds_anyAll (l:=[3]) (by kernel_rfl) (by simp) ⟨eop clN_n25 oh0 clN_n4 [] [] ⟨[(2,(pt w.heap.size 0)),(4,(pt (w.heap.size+2) 0)),(5,(pt (w.heap.size+3) 0)),(6,i6 (x:Int)),(7,(pt W.heap.size 0)),(23,.func (.func 96) #[] #[(pt c1 0),(pt c2 0)]),(24,i6 (x:Int)),(33,(pt cb 0)),(36,(pt cb 2)),(38,i6 (x:Int)),(40,i6 ((x:Int)+1))],(clN_10B frm lst lf lid o n cp cb c1 c2 ga w W sy),[],Wd.heap.size⟩ tI (A10_4 Wd hXd hmd),tI⟩
   have A10_8:clN_10H0 frm lst lf lid o opn n cp cb c1 c2 ga base J w W sy 6 clN_n15 [(2,(pt w.heap.size 0)),(4,(pt (w.heap.size+2) 0)),(5,(pt (w.heap.size+3) 0)),(6,i6 (x:Int)),(7,(pt W.heap.size 0)),(23,.func (.func 96) #[] #[(pt c1 0),(pt c2 0)]),(24,i6 (x:Int)),(37,.slice (some ⟨ga,0,none⟩) n cp),(38,i6 (x:Int)),(39,i6 (x:Int))]:=by
    intro Wd hXd hmd
    exact holds_anyAll (l:=[0,7]) (by kernel_rfl) (by simp) ⟨eop clN_n26 (oA 1 0 1) [2,4,5,6,7,23,24,33,37,38,39] [] [(w.heap.size,0,1)] ⟨[(2,(pt w.heap.size 0)),(4,(pt (w.heap.size+2) 0)),(5,(pt (w.heap.size+3) 0)),(6,i6 (x:Int)),(7,(pt W.heap.size 0)),(23,.func (.func 96) #[] #[(pt c1 0),(pt c2 0)]),(24,i6 (x:Int)),(33,(pt cb 0)),(37,.slice (some ⟨ga,0,none⟩) n cp),(38,i6 (x:Int)),(39,i6 (x:Int))],(clN_10B frm lst lf lid o n cp cb c1 c2 ga w W sy),[],Wd.heap.size⟩ tI (A10_3 Wd hXd hmd),eop clN_n16 oh2 [2,4,5,6,7,23,24,37,38,40] [inR .i64 (((x:Int)+1))] [] ⟨[(2,(pt w.heap.size 0)),(4,(pt (w.heap.size+2) 0)),(5,(pt (w.heap.size+3) 0)),(6,i6 (x:Int)),(7,(pt W.heap.size 0)),(23,.func (.func 96) #[] #[(pt c1 0),(pt c2 0)]),(24,i6 (x:Int)),(37,.slice (some ⟨ga,0,none⟩) n cp),(38,i6 (x:Int)),(40,i6 ((x:Int)+1))],(clN_10B frm lst lf lid o n cp cb c1 c2 ga w W sy),[],Wd.heap.size⟩ ⟨in64 (by omega),tI⟩ (A10_5 Wd hXd hmd),tI⟩
   have A10_9:clN_10H0 frm lst lf lid o opn n cp cb c1 c2 ga base J w W sy 6 clN_n14 [(2,(pt w.heap.size 0)),(4,(pt (w.heap.size+2) 0)),(5,(pt (w.heap.size+3) 0)),(6,i6 (x:Int)),(7,(pt W.heap.size 0)),(23,.func (.func 96) #[] #[(pt c1 0),(pt c2 0)]),(24,i6 (x:Int)),(36,(pt cb 2)),(38,i6 (x:Int)),(40,i6 ((x:Int)+1))]:=by
    intro Wd hXd hmd
    exact holds_anyAll (l:=[0,4]) (by kernel_rfl) (by simp) ⟨eop clN_n25 (oA 1 0 1) clN_n4 [] [(w.heap.size,0,1)] ⟨[(2,(pt w.heap.size 0)),(4,(pt (w.heap.size+2) 0)),(5,(pt (w.heap.size+3) 0)),(6,i6 (x:Int)),(7,(pt W.heap.size 0)),(23,.func (.func 96) #[] #[(pt c1 0),(pt c2 0)]),(24,i6 (x:Int)),(33,(pt cb 0)),(36,(pt cb 2)),(38,i6 (x:Int)),(40,i6 ((x:Int)+1))],(clN_10B frm lst lf lid o n cp cb c1 c2 ga w W sy),[],Wd.heap.size⟩ tI (A10_4 Wd hXd hmd),eop clN_n16 (oA 0 2 1) [2,4,5,6,7,23,24,37,38,40] [] [(cb,2,1)] ⟨[(2,(pt w.heap.size 0)),(4,(pt (w.heap.size+2) 0)),(5,(pt (w.heap.size+3) 0)),(6,i6 (x:Int)),(7,(pt W.heap.size 0)),(23,.func (.func 96) #[] #[(pt c1 0),(pt c2 0)]),(24,i6 (x:Int)),(37,.slice (some ⟨ga,0,none⟩) n cp),(38,i6 (x:Int)),(40,i6 ((x:Int)+1))],(clN_10B frm lst lf lid o n cp cb c1 c2 ga w W sy),[],Wd.heap.size⟩ tI (A10_5 Wd hXd hmd),tI⟩
   have A10_10:clN_10H0 frm lst lf lid o opn n cp cb c1 c2 ga base J w W sy 7 clN_n22 [(2,(pt w.heap.size 0)),(4,(pt (w.heap.size+2) 0)),(5,(pt (w.heap.size+3) 0)),(6,i6 (x:Int)),(7,(pt W.heap.size 0)),(23,.func (.func 96) #[] #[(pt c1 0),(pt c2 0)]),(24,i6 (x:Int)),(33,(pt cb 0)),(35,(pt cb 0)),(38,i6 (x:Int)),(39,i6 (x:Int))]:=by
    intro Wd hXd hmd
    exact holds_anyAll (l:=[3,7]) (by kernel_rfl) (by simp) ⟨eop clN_n24 oh0 [2,4,5,6,7,23,24,33,36,38,39] [] [] ⟨[(2,(pt w.heap.size 0)),(4,(pt (w.heap.size+2) 0)),(5,(pt (w.heap.size+3) 0)),(6,i6 (x:Int)),(7,(pt W.heap.size 0)),(23,.func (.func 96) #[] #[(pt c1 0),(pt c2 0)]),(24,i6 (x:Int)),(33,(pt cb 0)),(36,(pt cb 2)),(38,i6 (x:Int)),(39,i6 (x:Int))],(clN_10B frm lst lf lid o n cp cb c1 c2 ga w W sy),[],Wd.heap.size⟩ tI (A10_6 Wd hXd hmd),eop clN_n23 oh2 clN_n3 [inR .i64 (((x:Int)+1))] [] ⟨[(2,(pt w.heap.size 0)),(4,(pt (w.heap.size+2) 0)),(5,(pt (w.heap.size+3) 0)),(6,i6 (x:Int)),(7,(pt W.heap.size 0)),(23,.func (.func 96) #[] #[(pt c1 0),(pt c2 0)]),(24,i6 (x:Int)),(33,(pt cb 0)),(35,(pt cb 0)),(38,i6 (x:Int)),(40,i6 ((x:Int)+1))],(clN_10B frm lst lf lid o n cp cb c1 c2 ga w W sy),[],Wd.heap.size⟩ ⟨in64 (by omega),tI⟩ (A10_7 Wd hXd hmd),tI⟩
   have A10_11:clN_10H0 frm lst lf lid o opn n cp cb c1 c2 ga base J w W sy 7 clN_n21 [(2,(pt w.heap.size 0)),(4,(pt (w.heap.size+2) 0)),(5,(pt (w.heap.size+3) 0)),(6,i6 (x:Int)),(7,(pt W.heap.size 0)),(23,.func (.func 96) #[] #[(pt c1 0),(pt c2 0)]),(24,i6 (x:Int)),(33,(pt cb 0)),(34,(pt cb 0)),(38,i6 (x:Int)),(40,i6 ((x:Int)+1))]:=by
    intro Wd hXd hmd
    exact holds_anyAll (l:=[2]) (by kernel_rfl) (by simp) ⟨eop clN_n23 oh0 clN_n3 [] [] ⟨[(2,(pt w.heap.size 0)),(4,(pt (w.heap.size+2) 0)),(5,(pt (w.heap.size+3) 0)),(6,i6 (x:Int)),(7,(pt W.heap.size 0)),(23,.func (.func 96) #[] #[(pt c1 0),(pt c2 0)]),(24,i6 (x:Int)),(33,(pt cb 0)),(35,(pt cb 0)),(38,i6 (x:Int)),(40,i6 ((x:Int)+1))],(clN_10B frm lst lf lid o n cp cb c1 c2 ga w W sy),[],Wd.heap.size⟩ tI (A10_7 Wd hXd hmd),tI⟩
   have A10_12:clN_10H0 frm lst lf lid o opn n cp cb c1 c2 ga base J w W sy 7 clN_n13 [(2,(pt w.heap.size 0)),(4,(pt (w.heap.size+2) 0)),(5,(pt (w.heap.size+3) 0)),(6,i6 (x:Int)),(7,(pt W.heap.size 0)),(23,.func (.func 96) #[] #[(pt c1 0),(pt c2 0)]),(24,i6 (x:Int)),(36,(pt cb 2)),(38,i6 (x:Int)),(39,i6 (x:Int))]:=by
    intro Wd hXd hmd
    exact holds_anyAll (l:=[0,4,7]) (by kernel_rfl) (by simp) ⟨eop clN_n24 (oA 1 0 1) [2,4,5,6,7,23,24,33,36,38,39] [] [(w.heap.size,0,1)] ⟨[(2,(pt w.heap.size 0)),(4,(pt (w.heap.size+2) 0)),(5,(pt (w.heap.size+3) 0)),(6,i6 (x:Int)),(7,(pt W.heap.size 0)),(23,.func (.func 96) #[] #[(pt c1 0),(pt c2 0)]),(24,i6 (x:Int)),(33,(pt cb 0)),(36,(pt cb 2)),(38,i6 (x:Int)),(39,i6 (x:Int))],(clN_10B frm lst lf lid o n cp cb c1 c2 ga w W sy),[],Wd.heap.size⟩ tI (A10_6 Wd hXd hmd),eop clN_n15 (oA 0 2 1) [2,4,5,6,7,23,24,37,38,39] [] [(cb,2,1)] ⟨[(2,(pt w.heap.size 0)),(4,(pt (w.heap.size+2) 0)),(5,(pt (w.heap.size+3) 0)),(6,i6 (x:Int)),(7,(pt W.heap.size 0)),(23,.func (.func 96) #[] #[(pt c1 0),(pt c2 0)]),(24,i6 (x:Int)),(37,.slice (some ⟨ga,0,none⟩) n cp),(38,i6 (x:Int)),(39,i6 (x:Int))],(clN_10B frm lst lf lid o n cp cb c1 c2 ga w W sy),[],Wd.heap.size⟩ tI (A10_8 Wd hXd hmd),eop clN_n14 oh2 [2,4,5,6,7,23,24,36,38,40] [inR .i64 (((x:Int)+1))] [] ⟨[(2,(pt w.heap.size 0)),(4,(pt (w.heap.size+2) 0)),(5,(pt (w.heap.size+3) 0)),(6,i6 (x:Int)),(7,(pt W.heap.size 0)),(23,.func (.func 96) #[] #[(pt c1 0),(pt c2 0)]),(24,i6 (x:Int)),(36,(pt cb 2)),(38,i6 (x:Int)),(40,i6 ((x:Int)+1))],(clN_10B frm lst lf lid o n cp cb c1 c2 ga w W sy),[],Wd.heap.size⟩ ⟨in64 (by omega),tI⟩ (A10_9 Wd hXd hmd),tI⟩
   have A10_13:clN_10H0 frm lst lf lid o opn n cp cb c1 c2 ga base J w W sy 7 clN_n12 [(2,(pt w.heap.size 0)),(4,(pt (w.heap.size+2) 0)),(5,(pt (w.heap.size+3) 0)),(6,i6 (x:Int)),(7,(pt W.heap.size 0)),(23,.func (.func 96) #[] #[(pt c1 0),(pt c2 0)]),(24,i6 (x:Int)),(35,(pt cb 0)),(38,i6 (x:Int)),(40,i6 ((x:Int)+1))]:=by
    intro Wd hXd hmd
    exact holds_anyAll (l:=[0,3]) (by kernel_rfl) (by simp) ⟨eop clN_n23 (oA 1 0 1) clN_n3 [] [(w.heap.size,0,1)] ⟨[(2,(pt w.heap.size 0)),(4,(pt (w.heap.size+2) 0)),(5,(pt (w.heap.size+3) 0)),(6,i6 (x:Int)),(7,(pt W.heap.size 0)),(23,.func (.func 96) #[] #[(pt c1 0),(pt c2 0)]),(24,i6 (x:Int)),(33,(pt cb 0)),(35,(pt cb 0)),(38,i6 (x:Int)),(40,i6 ((x:Int)+1))],(clN_10B frm lst lf lid o n cp cb c1 c2 ga w W sy),[],Wd.heap.size⟩ tI (A10_7 Wd hXd hmd),eop clN_n14 oh0 [2,4,5,6,7,23,24,36,38,40] [] [] ⟨[(2,(pt w.heap.size 0)),(4,(pt (w.heap.size+2) 0)),(5,(pt (w.heap.size+3) 0)),(6,i6 (x:Int)),(7,(pt W.heap.size 0)),(23,.func (.func 96) #[] #[(pt c1 0),(pt c2 0)]),(24,i6 (x:Int)),(36,(pt cb 2)),(38,i6 (x:Int)),(40,i6 ((x:Int)+1))],(clN_10B frm lst lf lid o n cp cb c1 c2 ga w W sy),[],Wd.heap.size⟩ tI (A10_9 Wd hXd hmd),tI⟩
   have A10_14:clN_10H0 frm lst lf lid o opn n cp cb c1 c2 ga base J w W sy 8 clN_n20 [(2,(pt w.heap.size 0)),(4,(pt (w.heap.size+2) 0)),(5,(pt (w.heap.size+3) 0)),(6,i6 (x:Int)),(7,(pt W.heap.size 0)),(23,.func (.func 96) #[] #[(pt c1 0),(pt c2 0)]),(24,i6 (x:Int)),(33,(pt cb 0)),(34,(pt cb 0)),(38,i6 (x:Int)),(39,i6 (x:Int))]:=by
    intro Wd hXd hmd
    exact holds_anyAll (l:=[2,7]) (by kernel_rfl) (by simp) ⟨eop clN_n22 oh0 [2,4,5,6,7,23,24,33,35,38,39] [] [] ⟨[(2,(pt w.heap.size 0)),(4,(pt (w.heap.size+2) 0)),(5,(pt (w.heap.size+3) 0)),(6,i6 (x:Int)),(7,(pt W.heap.size 0)),(23,.func (.func 96) #[] #[(pt c1 0),(pt c2 0)]),(24,i6 (x:Int)),(33,(pt cb 0)),(35,(pt cb 0)),(38,i6 (x:Int)),(39,i6 (x:Int))],(clN_10B frm lst lf lid o n cp cb c1 c2 ga w W sy),[],Wd.heap.size⟩ tI (A10_10 Wd hXd hmd),eop clN_n21 oh2 clN_n2 [inR .i64 (((x:Int)+1))] [] ⟨[(2,(pt w.heap.size 0)),(4,(pt (w.heap.size+2) 0)),(5,(pt (w.heap.size+3) 0)),(6,i6 (x:Int)),(7,(pt W.heap.size 0)),(23,.func (.func 96) #[] #[(pt c1 0),(pt c2 0)]),(24,i6 (x:Int)),(33,(pt cb 0)),(34,(pt cb 0)),(38,i6 (x:Int)),(40,i6 ((x:Int)+1))],(clN_10B frm lst lf lid o n cp cb c1 c2 ga w W sy),[],Wd.heap.size⟩ ⟨in64 (by omega),tI⟩ (A10_11 Wd hXd hmd),tI⟩
   have A10_15:clN_10H0 frm lst lf lid o opn n cp cb c1 c2 ga base J w W sy 8 clN_n19 [(2,(pt w.heap.size 0)),(4,(pt (w.heap.size+2) 0)),(5,(pt (w.heap.size+3) 0)),(6,i6 (x:Int)),(7,(pt W.heap.size 0)),(23,.func (.func 96) #[] #[(pt c1 0),(pt c2 0)]),(24,i6 (x:Int)),(33,(pt cb 0)),(38,i6 (x:Int)),(40,i6 ((x:Int)+1))]:=by
    intro Wd hXd hmd
    exact holds_anyAll (l:=[1]) (by kernel_rfl) (by simp) ⟨eop clN_n21 (oA 1 0 1) clN_n2 [] [(w.heap.size,0,1)] ⟨[(2,(pt w.heap.size 0)),(4,(pt (w.heap.size+2) 0)),(5,(pt (w.heap.size+3) 0)),(6,i6 (x:Int)),(7,(pt W.heap.size 0)),(23,.func (.func 96) #[] #[(pt c1 0),(pt c2 0)]),(24,i6 (x:Int)),(33,(pt cb 0)),(34,(pt cb 0)),(38,i6 (x:Int)),(40,i6 ((x:Int)+1))],(clN_10B frm lst lf lid o n cp cb c1 c2 ga w W sy),[],Wd.heap.size⟩ tI (A10_11 Wd hXd hmd),tI⟩
   have A10_16:clN_10H0 frm lst lf lid o opn n cp cb c1 c2 ga base J w W sy 8 clN_n11 [(2,(pt w.heap.size 0)),(4,(pt (w.heap.size+2) 0)),(5,(pt (w.heap.size+3) 0)),(6,i6 (x:Int)),(7,(pt W.heap.size 0)),(23,.func (.func 96) #[] #[(pt c1 0),(pt c2 0)]),(24,i6 (x:Int)),(35,(pt cb 0)),(38,i6 (x:Int)),(39,i6 (x:Int))]:=by
    intro Wd hXd hmd
    exact holds_anyAll (l:=[0,3,7]) (by kernel_rfl) (by simp) ⟨eop clN_n22 (oA 1 0 1) [2,4,5,6,7,23,24,33,35,38,39] [] [(w.heap.size,0,1)] ⟨[(2,(pt w.heap.size 0)),(4,(pt (w.heap.size+2) 0)),(5,(pt (w.heap.size+3) 0)),(6,i6 (x:Int)),(7,(pt W.heap.size 0)),(23,.func (.func 96) #[] #[(pt c1 0),(pt c2 0)]),(24,i6 (x:Int)),(33,(pt cb 0)),(35,(pt cb 0)),(38,i6 (x:Int)),(39,i6 (x:Int))],(clN_10B frm lst lf lid o n cp cb c1 c2 ga w W sy),[],Wd.heap.size⟩ tI (A10_10 Wd hXd hmd),eop clN_n13 oh0 [2,4,5,6,7,23,24,36,38,39] [] [] ⟨[(2,(pt w.heap.size 0)),(4,(pt (w.heap.size+2) 0)),(5,(pt (w.heap.size+3) 0)),(6,i6 (x:Int)),(7,(pt W.heap.size 0)),(23,.func (.func 96) #[] #[(pt c1 0),(pt c2 0)]),(24,i6 (x:Int)),(36,(pt cb 2)),(38,i6 (x:Int)),(39,i6 (x:Int))],(clN_10B frm lst lf lid o n cp cb c1 c2 ga w W sy),[],Wd.heap.size⟩ tI (A10_12 Wd hXd hmd),eop clN_n12 oh2 [2,4,5,6,7,23,24,35,38,40] [inR .i64 (((x:Int)+1))] [] ⟨[(2,(pt w.heap.size 0)),(4,(pt (w.heap.size+2) 0)),(5,(pt (w.heap.size+3) 0)),(6,i6 (x:Int)),(7,(pt W.heap.size 0)),(23,.func (.func 96) #[] #[(pt c1 0),(pt c2 0)]),(24,i6 (x:Int)),(35,(pt cb 0)),(38,i6 (x:Int)),(40,i6 ((x:Int)+1))],(clN_10B frm lst lf lid o n cp cb c1 c2 ga w W sy),[],Wd.heap.size⟩ ⟨in64 (by omega),tI⟩ (A10_13 Wd hXd hmd),tI⟩
   have A10_17:clN_10H0 frm lst lf lid o opn n cp cb c1 c2 ga base J w W sy 8 clN_n10 [(2,(pt w.heap.size 0)),(4,(pt (w.heap.size+2) 0)),(5,(pt (w.heap.size+3) 0)),(6,i6 (x:Int)),(7,(pt W.heap.size 0)),(23,.func (.func 96) #[] #[(pt c1 0),(pt c2 0)]),(24,i6 (x:Int)),(34,(pt cb 0)),(38,i6 (x:Int)),(40,i6 ((x:Int)+1))]:=by
    intro Wd hXd hmd
    exact holds_anyAll (l:=[0,2]) (by kernel_rfl) (by simp) ⟨eop clN_n21 (oA 1 0 1) clN_n2 [] [(w.heap.size,0,1)] ⟨[(2,(pt w.heap.size 0)),(4,(pt (w.heap.size+2) 0)),(5,(pt (w.heap.size+3) 0)),(6,i6 (x:Int)),(7,(pt W.heap.size 0)),(23,.func (.func 96) #[] #[(pt c1 0),(pt c2 0)]),(24,i6 (x:Int)),(33,(pt cb 0)),(34,(pt cb 0)),(38,i6 (x:Int)),(40,i6 ((x:Int)+1))],(clN_10B frm lst lf lid o n cp cb c1 c2 ga w W sy),[],Wd.heap.size⟩ tI (A10_11 Wd hXd hmd),eop clN_n12 oh0 [2,4,5,6,7,23,24,35,38,40] [] [] ⟨[(2,(pt w.heap.size 0)),(4,(pt (w.heap.size+2) 0)),(5,(pt (w.heap.size+3) 0)),(6,i6 (x:Int)),(7,(pt W.heap.size 0)),(23,.func (.func 96) #[] #[(pt c1 0),(pt c2 0)]),(24,i6 (x:Int)),(35,(pt cb 0)),(38,i6 (x:Int)),(40,i6 ((x:Int)+1))],(clN_10B frm lst lf lid o n cp cb c1 c2 ga w W sy),[],Wd.heap.size⟩ tI (A10_13 Wd hXd hmd),tI⟩
   have A10_18:clN_10H0 frm lst lf lid o opn n cp cb c1 c2 ga base J w W sy 9 clN_n18 [(2,(pt w.heap.size 0)),(4,(pt (w.heap.size+2) 0)),(5,(pt (w.heap.size+3) 0)),(6,i6 (x:Int)),(7,(pt W.heap.size 0)),(23,.func (.func 96) #[] #[(pt c1 0),(pt c2 0)]),(24,i6 (x:Int)),(33,(pt cb 0)),(38,i6 (x:Int)),(39,i6 (x:Int))]:=by
    intro Wd hXd hmd
    exact holds_anyAll (l:=[1,7]) (by kernel_rfl) (by simp) ⟨eop clN_n20 (oA 1 0 1) [2,4,5,6,7,23,24,33,34,38,39] [] [(w.heap.size,0,1)] ⟨[(2,(pt w.heap.size 0)),(4,(pt (w.heap.size+2) 0)),(5,(pt (w.heap.size+3) 0)),(6,i6 (x:Int)),(7,(pt W.heap.size 0)),(23,.func (.func 96) #[] #[(pt c1 0),(pt c2 0)]),(24,i6 (x:Int)),(33,(pt cb 0)),(34,(pt cb 0)),(38,i6 (x:Int)),(39,i6 (x:Int))],(clN_10B frm lst lf lid o n cp cb c1 c2 ga w W sy),[],Wd.heap.size⟩ tI (A10_14 Wd hXd hmd),eop clN_n19 oh2 [2,4,5,6,7,23,24,33,38,40] [inR .i64 (((x:Int)+1))] [] ⟨[(2,(pt w.heap.size 0)),(4,(pt (w.heap.size+2) 0)),(5,(pt (w.heap.size+3) 0)),(6,i6 (x:Int)),(7,(pt W.heap.size 0)),(23,.func (.func 96) #[] #[(pt c1 0),(pt c2 0)]),(24,i6 (x:Int)),(33,(pt cb 0)),(38,i6 (x:Int)),(40,i6 ((x:Int)+1))],(clN_10B frm lst lf lid o n cp cb c1 c2 ga w W sy),[],Wd.heap.size⟩ ⟨in64 (by omega),tI⟩ (A10_15 Wd hXd hmd),tI⟩
   have A10_19:clN_10H0 frm lst lf lid o opn n cp cb c1 c2 ga base J w W sy 9 clN_n9 [(2,(pt w.heap.size 0)),(4,(pt (w.heap.size+2) 0)),(5,(pt (w.heap.size+3) 0)),(6,i6 (x:Int)),(7,(pt W.heap.size 0)),(23,.func (.func 96) #[] #[(pt c1 0),(pt c2 0)]),(24,i6 (x:Int)),(34,(pt cb 0)),(38,i6 (x:Int)),(39,i6 (x:Int))]:=by
    intro Wd hXd hmd
    exact holds_anyAll (l:=[0,2,7]) (by kernel_rfl) (by simp) ⟨eop clN_n20 (oA 1 0 1) [2,4,5,6,7,23,24,33,34,38,39] [] [(w.heap.size,0,1)] ⟨[(2,(pt w.heap.size 0)),(4,(pt (w.heap.size+2) 0)),(5,(pt (w.heap.size+3) 0)),(6,i6 (x:Int)),(7,(pt W.heap.size 0)),(23,.func (.func 96) #[] #[(pt c1 0),(pt c2 0)]),(24,i6 (x:Int)),(33,(pt cb 0)),(34,(pt cb 0)),(38,i6 (x:Int)),(39,i6 (x:Int))],(clN_10B frm lst lf lid o n cp cb c1 c2 ga w W sy),[],Wd.heap.size⟩ tI (A10_14 Wd hXd hmd),eop clN_n11 oh0 [2,4,5,6,7,23,24,35,38,39] [] [] ⟨[(2,(pt w.heap.size 0)),(4,(pt (w.heap.size+2) 0)),(5,(pt (w.heap.size+3) 0)),(6,i6 (x:Int)),(7,(pt W.heap.size 0)),(23,.func (.func 96) #[] #[(pt c1 0),(pt c2 0)]),(24,i6 (x:Int)),(35,(pt cb 0)),(38,i6 (x:Int)),(39,i6 (x:Int))],(clN_10B frm lst lf lid o n cp cb c1 c2 ga w W sy),[],Wd.heap.size⟩ tI (A10_16 Wd hXd hmd),eop clN_n10 oh2 [2,4,5,6,7,23,24,34,38,40] [inR .i64 (((x:Int)+1))] [] ⟨[(2,(pt w.heap.size 0)),(4,(pt (w.heap.size+2) 0)),(5,(pt (w.heap.size+3) 0)),(6,i6 (x:Int)),(7,(pt W.heap.size 0)),(23,.func (.func 96) #[] #[(pt c1 0),(pt c2 0)]),(24,i6 (x:Int)),(34,(pt cb 0)),(38,i6 (x:Int)),(40,i6 ((x:Int)+1))],(clN_10B frm lst lf lid o n cp cb c1 c2 ga w W sy),[],Wd.heap.size⟩ ⟨in64 (by omega),tI⟩ (A10_17 Wd hXd hmd),tI⟩
   have A10_20:clN_10H0 frm lst lf lid o opn n cp cb c1 c2 ga base J w W sy 9 clN_n8 [(2,(pt w.heap.size 0)),(4,(pt (w.heap.size+2) 0)),(5,(pt (w.heap.size+3) 0)),(6,i6 (x:Int)),(7,(pt W.heap.size 0)),(23,.func (.func 96) #[] #[(pt c1 0),(pt c2 0)]),(24,i6 (x:Int)),(38,i6 (x:Int)),(40,i6 ((x:Int)+1))]:=by
    intro Wd hXd hmd
    exact holds_anyAll (l:=[0,1]) (by kernel_rfl) (by simp) ⟨eop clN_n19 (oA 1 0 1) [2,4,5,6,7,23,24,33,38,40] [] [(w.heap.size,0,1)] ⟨[(2,(pt w.heap.size 0)),(4,(pt (w.heap.size+2) 0)),(5,(pt (w.heap.size+3) 0)),(6,i6 (x:Int)),(7,(pt W.heap.size 0)),(23,.func (.func 96) #[] #[(pt c1 0),(pt c2 0)]),(24,i6 (x:Int)),(33,(pt cb 0)),(38,i6 (x:Int)),(40,i6 ((x:Int)+1))],(clN_10B frm lst lf lid o n cp cb c1 c2 ga w W sy),[],Wd.heap.size⟩ tI (A10_15 Wd hXd hmd),eop clN_n10 (oA 1 0 1) [2,4,5,6,7,23,24,34,38,40] [] [(w.heap.size,0,1)] ⟨[(2,(pt w.heap.size 0)),(4,(pt (w.heap.size+2) 0)),(5,(pt (w.heap.size+3) 0)),(6,i6 (x:Int)),(7,(pt W.heap.size 0)),(23,.func (.func 96) #[] #[(pt c1 0),(pt c2 0)]),(24,i6 (x:Int)),(34,(pt cb 0)),(38,i6 (x:Int)),(40,i6 ((x:Int)+1))],(clN_10B frm lst lf lid o n cp cb c1 c2 ga w W sy),[],Wd.heap.size⟩ tI (A10_17 Wd hXd hmd),tI⟩
   have A10_21:clN_10H0 frm lst lf lid o opn n cp cb c1 c2 ga base J w W sy 10 clN_n7 [(2,(pt w.heap.size 0)),(4,(pt (w.heap.size+2) 0)),(5,(pt (w.heap.size+3) 0)),(6,i6 (x:Int)),(7,(pt W.heap.size 0)),(23,.func (.func 96) #[] #[(pt c1 0),(pt c2 0)]),(24,i6 (x:Int)),(38,i6 (x:Int)),(39,i6 (x:Int))]:=by
    intro Wd hXd hmd
    exact holds_anyAll (l:=[0,1,7]) (by kernel_rfl) (by simp) ⟨eop clN_n18 (oA 1 0 1) [2,4,5,6,7,23,24,33,38,39] [] [(w.heap.size,0,1)] ⟨[(2,(pt w.heap.size 0)),(4,(pt (w.heap.size+2) 0)),(5,(pt (w.heap.size+3) 0)),(6,i6 (x:Int)),(7,(pt W.heap.size 0)),(23,.func (.func 96) #[] #[(pt c1 0),(pt c2 0)]),(24,i6 (x:Int)),(33,(pt cb 0)),(38,i6 (x:Int)),(39,i6 (x:Int))],(clN_10B frm lst lf lid o n cp cb c1 c2 ga w W sy),[],Wd.heap.size⟩ tI (A10_18 Wd hXd hmd),eop clN_n9 (oA 1 0 1) [2,4,5,6,7,23,24,34,38,39] [] [(w.heap.size,0,1)] ⟨[(2,(pt w.heap.size 0)),(4,(pt (w.heap.size+2) 0)),(5,(pt (w.heap.size+3) 0)),(6,i6 (x:Int)),(7,(pt W.heap.size 0)),(23,.func (.func 96) #[] #[(pt c1 0),(pt c2 0)]),(24,i6 (x:Int)),(34,(pt cb 0)),(38,i6 (x:Int)),(39,i6 (x:Int))],(clN_10B frm lst lf lid o n cp cb c1 c2 ga w W sy),[],Wd.heap.size⟩ tI (A10_19 Wd hXd hmd),eop clN_n8 oh2 [2,4,5,6,7,23,24,38,40] [inR .i64 (((x:Int)+1))] [] ⟨[(2,(pt w.heap.size 0)),(4,(pt (w.heap.size+2) 0)),(5,(pt (w.heap.size+3) 0)),(6,i6 (x:Int)),(7,(pt W.heap.size 0)),(23,.func (.func 96) #[] #[(pt c1 0),(pt c2 0)]),(24,i6 (x:Int)),(38,i6 (x:Int)),(40,i6 ((x:Int)+1))],(clN_10B frm lst lf lid o n cp cb c1 c2 ga w W sy),[],Wd.heap.size⟩ ⟨in64 (by omega),tI⟩ (A10_20 Wd hXd hmd),tI⟩
   exact A10_21 Wn (hOc.kept hmn.kept hnT) (MemOk.wide hmn (S':=(fun y=>Turned (clN_b2 frm lst lf lid o n cp cb c1 c2 ga w W sy) y∨y=ga)) (fun y h=>.inl (by obtain⟨b,hb,hr,he⟩:=h; exact⟨b,(show b∈((clN_b5 frm lst lf lid n cp cb c1 c2 ga w sy):List Bk)++([⟨W.heap.size,59,true,(clN_v3 o)⟩]:List Bk)from List.mem_append_left _ hb),hr,he⟩)))
  intro W3 hX3 hm3
  refine holds_tail panicOk_way _ _ (clN_t11 frm lst lf lid o n x cp cb c1 c2 ga w W W3 sy) trivial ?_
  refine holds_done (by kernel_rfl) ?_
  refine hJ _ _ _ ?_
  refine hgER (fun _=>tI) 9 [(oA 7 0 9),(oA 3 0 9),(oA 4 0 1)] [4,5] [] [(W.heap.size,0,9),(w.heap.size+2,0,9),(w.heap.size+3,0,1)] [.code [1,1,0,1,0,1,0,1,1,1],.blk 1] ⟨[(4,(pt (w.heap.size+2) 0)),(5,(pt (w.heap.size+3) 0))],[⟨cb,124,true,[i6 frm,i6 lst,.slice (some ⟨ga,0,none⟩) (n-1) cp]⟩,⟨w.heap.size,85,false,[(pt cb 0)]⟩,⟨w.heap.size+1,65,false,(clN_v1 frm lf lid sy)⟩,⟨w.heap.size+2,59,true,(clN_v3 o)⟩,⟨w.heap.size+3,4,true,[.bool true]⟩,⟨c1,85,false,[(pt cb 0)]⟩,⟨c2,142,false,[.func (.func 72) #[] #[(pt (w.heap.size+1) 0)]]⟩,⟨W.heap.size,59,true,(clN_v3 o)⟩],[],W3.heap.size⟩ ?_
  refine holdsR_ret (by kernel_rfl) (fun a wx hf hm=>?_)
  have hmZ:=MemOk.bck hm3 hm
  have hkZ:=hmZ.kept
  refine⟨keepsFrom_cells (T:=fun y=>Turned (clN_b5 frm lst lf lid n cp cb c1 c2 ga w sy) y∨y=ga) (hkZ.mono (fun k hk h=>?_)) (fun k o hk ho=>?_),.inr ⟨rfl,x,o,⟨ho,hok,hpre.symm⟩,?_,?_⟩⟩
  ·rcases h with⟨b,hb,hr,rfl⟩|h
   ·simp at hb
    rcases hb with rfl|rfl|rfl|rfl|rfl|rfl|rfl|rfl<;>simp at hr
    all_goals first|exact .inl ⟨_,List.mem_of_getElem? (i:=0) rfl,rfl,rfl⟩|exact .inl ⟨_,List.mem_of_getElem? (i:=3) rfl,rfl,rfl⟩|exact .inl ⟨_,List.mem_of_getElem? (i:=4) rfl,rfl,rfl⟩|exact absurd hk (by simp)
   ·exact .inr h
  ·rcases hk with⟨b,hb,hr,rfl⟩|rfl
   ·have h7:=hmB.blk b hb
    unfold Blk at h7
    rw[ho]at h7
    cases h7
    rfl
   ·obtain⟨cur,fz,h7⟩:=hOc.ty k ⟨_,rfl,rfl⟩
    rw[ho]at h7
    cases h7
    rfl
  ·refine⟨rfl,fun b hb=>?_,fun b hb hr=>?_,?_,?_,fun _ hx=>by cases hx⟩
   ·exact hmZ.blk b (by simp at hb ⊢; rcases hb with rfl|rfl|rfl|rfl|rfl|rfl|rfl<;>simp)
   ·simp at hb
    rcases hb with rfl|rfl|rfl|rfl|rfl|rfl|rfl<;>simp at hr
    all_goals first|exact .inl (.inl ⟨_,List.mem_of_getElem? (i:=0) rfl,rfl,rfl⟩)|exact .inl (.inl ⟨_,List.mem_of_getElem? (i:=3) rfl,rfl,rfl⟩)|exact .inl (.inl ⟨_,List.mem_of_getElem? (i:=4) rfl,rfl,rfl⟩)
   ·exact hmB.nd
   ·refine(hmB.kept.mono (fun _ _ h=>.inl h)).trans hkZ (fun k hk h=>?_)
    rcases h with⟨b,hb,hr,rfl⟩|rfl
    ·simp at hb
     rcases hb with rfl|rfl|rfl|rfl|rfl|rfl|rfl|rfl<;>simp at hr
     all_goals first|exact .inl ⟨_,List.mem_of_getElem? (i:=0) rfl,rfl,rfl⟩|exact .inl ⟨_,List.mem_of_getElem? (i:=3) rfl,rfl,rfl⟩|exact .inl ⟨_,List.mem_of_getElem? (i:=4) rfl,rfl,rfl⟩|exact absurd hk (Nat.not_lt.2 hmB.kept.size)
    ·exact .inr ⟨_,rfl,rfl⟩
  ·refine hX3.kept hm.kept (fun y hy h=>?_)
   obtain⟨a,ha,rfl⟩:=hy
   cases ha
   obtain⟨b,hb,hr,he⟩:=h
   have h6:=hmB.kept.size
   simp at hb
   rcases hb with rfl|rfl|rfl|rfl|rfl|rfl|rfl|rfl<;>simp at hr he
   all_goals first|exact hgcb he.symm|omega
 case done=>
  rintro D xs W rfl ⟨hxs,hmW,hOc⟩ hD hK
  refine⟨(clN_b4 frm lst lf lid n A cp cb c1 c2 w sy),hmW.again,?_⟩
  refine hgE 10 (dz 3 0x100480900380) [4,5] [] [(w.heap.size+2,0,9),(w.heap.size+3,0,1)] [.code [1,1,1,1]] ⟨[(4,(pt (w.heap.size+2) 0)),(5,(pt (w.heap.size+3) 0))],(clN_b4 frm lst lf lid n A cp cb c1 c2 w sy),[],W.heap.size⟩ ?_
  refine holds_retN [[⟨false,3,0,9⟩],[⟨false,4,0,1⟩]] (Array.getElem?_eq_some_iff.1 hK).1 hK (fun⟨b,hb,hr,he⟩=>by simp at hb; rcases hb with rfl|rfl|rfl|rfl|rfl|rfl|rfl<;>simp at hr he<;>omega) (by kernel_rfl) (show _=some ([.agg (List.toArray (clN_v2)),.bool false],dupR [(w.heap.size+2,0,9),(w.heap.size+3,0,1)])by kernel_rfl) (fun wx hm=>?_)
  have hkA:Kept (fun y=>Turned (clN_b4 frm lst lf lid n A cp cb c1 c2 w sy) y∨y=D) W2 wx:=kept_or hmW.kept hm.kept (fun k _ h=>h.elim (fun h=>.inl h) .inr) (fun k h=>.inl h)
  have hkC:Kept (fun y=>y=cb) w wx:=hk12.trans hkA (fun k hk h=>by
   rcases h with⟨b,hb,hr,he⟩|h
   ·simp at hb
    rcases hb with rfl|rfl|rfl|rfl|rfl|rfl|rfl<;>simp at hr he
    all_goals omega
   ·omega)
  refine .inl ⟨rfl,hxs,hkC.os,hkC.tape,hkC.output,hkC.size,fun k hk _=>?_⟩
  by_cases e:k=cb
  ·subst e
   have h7:=hm.at_ 0 rfl
   have h8:=hc
   unfold Blk at h7 h8
   exact h7.trans h8.symm
  ·exact hkC.block k hk e
 case stop=>
  rintro D pre W _ ⟨x,o,hh,hmW,hOc⟩ hD hK a hf
  refine leavesM [[⟨false,3,0,9⟩],[⟨false,4,0,1⟩]] (vs:=[.agg (List.toArray (clN_v3 o)),.bool true]) (rs:=[(w.heap.size+2,0,9),(w.heap.size+3,0,1)]) (by kernel_rfl) (fun wx hm=>?_) hf hmW.again hK
  have hkW:Kept (fun y=>y=cb∨ownS A y) w W:=(hk12.mono (fun _ _ h=>.inl h)).trans hmW.kept (fun k hk h=>by
   rcases h with⟨b,hb,hr,he⟩|h
   ·simp at hb
    rcases hb with rfl|rfl|rfl|rfl|rfl|rfl|rfl<;>simp at hr he
    all_goals first|exact .inl he.symm|omega
   ·exact .inr h)
  refine .inr ⟨x,o,hh,rfl,hm.at_ 0 rfl,hOc.kept hm.kept (fun y hy h=>?_),hkW.trans hm.kept (fun k hk h=>?_)⟩
  ·rcases h with⟨b,hb,hr,he⟩|rfl
   ·have h5:=hapart y hy
    simp at hb
    rcases hb with rfl|rfl|rfl|rfl|rfl|rfl|rfl<;>simp at hr he
    all_goals first|exact hcbA (he▸hy)|omega
   ·obtain⟨cur,fz,h7⟩:=hOc.ty _ hy
    rw[hK]at h7
    cases h7
  ·rcases h with⟨b,hb,hr,he⟩|rfl
   ·simp at hb
    rcases hb with rfl|rfl|rfl|rfl|rfl|rfl|rfl<;>simp at hr he
    all_goals first|exact .inl he.symm|omega
   ·omega
end Go.Proofs.YtcmpkkapkdlfhaaGreat
