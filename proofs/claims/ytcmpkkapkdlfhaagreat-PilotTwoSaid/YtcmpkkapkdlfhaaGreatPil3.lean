import Derived.Test.YtcmpkkapkdlfhaaGreatPil2
namespace Go.Proofs.YtcmpkkapkdlfhaaGreat
open Go.RowKit
set_option maxHeartbeats 4000000
set_option maxRecDepth 100000
section
variable (x:PilC)(c:CM)(pb base:Nat)(now:Int)(w:World)(to_:Int)(q:AskM)(A:Option Addr)(ca:Nat)(L:List OneM)(g:Nat)
def pak_v1:List Value:=[i6 q.kind,i6 x.sn,i6 q.epoch,i6 q.seq,i6 q.mask,i6 q.node,i6 q.oe,i6 q.os,sT q.block]
def pak_v2:List Value:=[i6 c.frm,i6 to_,i6 (c.last+1),.bool false,i6 q.kind,i6 x.sn,i6 q.epoch,i6 q.seq,i6 q.mask,i6 q.node,i6 q.oe,i6 q.os,sT q.block,i6 0,i6 0,i6 0,.bool false,i6 0,i6 0,i6 0,sT ⟨#[]⟩,.bool false,i6 0,i6 0,i6 0,sT ⟨#[]⟩]
def pak_v3:List Value:=rp 3 (i6 0)++[.bool false]++rp 8 (i6 0)++[sT ⟨#[]⟩]++rp 3 (i6 0)++[.bool false]++rp 3 (i6 0)++[sT ⟨#[]⟩,.bool false]++rp 3 (i6 0)++[sT ⟨#[]⟩]
@[simp] def pak_b1:List Bk:=[⟨pb,98,true,(PilC.cells { x with ak:=(.slice A L.length ca) })⟩,⟨w.heap.size,59,true,(pak_v1 x q)⟩]
@[simp] def pak_b2:List Bk:=[⟨pb,98,true,(PilC.cells { x with ak:=(.slice A L.length ca) })⟩,⟨w.heap.size,59,true,(pak_v1 x q)⟩,⟨g,65,true,(pak_v2 x c to_ q)⟩]
@[simp] def pak_b3(A2:Option Addr)(c2:Nat):List Bk:=[⟨pb,98,true,(PilC.cells { x with ak:=(.slice A2 (L.length+1) c2) })⟩,⟨w.heap.size,59,true,(pak_v1 x q)⟩,⟨g,65,true,(pak_v2 x c to_ q)⟩]
def pak_Q:Exit->Act->World->Prop:=bodyPost Tryz.prog Tryz.f55 (fun e w'=>∃A' c',e=.returned (.tuple #[])∧Blk w' pb 98 (PilC.cells { x with ak:=.slice A' (L.length+1) c' })∧PartyX 124 141 w' base x.cb (askC c now to_ { q with stripe:=x.sn })∧OwnR w' x.lb 65 26 A' (L.length+1) c' (lettersC c.frm (L++[(⟨to_,c.last+1,{ q with stripe:=x.sn },within14 now,within14 now⟩:OneM)]))∧Kept (PilT [141] base x.lb pb x.cb w) w w')
def pak_y2s:List (Nat×Value):=[(0,(pt pb 0)),(1,i6 now),(2,i6 to_),(7,(pt w.heap.size 0))]
def pak_y2v(d:Option Nat):List (Option Value):=[some ((pt pb 0)),some ((pt pb 0)),some ((pt pb 2)),some ((pt x.cb 0)),some (i6 now),some (i6 to_),some (.agg (List.toArray (pak_v1 x q))),some (.tuple #[.agg (List.toArray (pak_v2 x c to_ q)),.bool true]),some (.tuple #[.agg (List.toArray (pak_v2 x c to_ q)),.bool true]),some (.agg (List.toArray (pak_v2 x c to_ q))),some (.bool true),some (.pointer (some ⟨(d.getD 0),0,none⟩)),some (.tuple #[]),some (.bool true)]
def pak_y2F(d:Option Nat)(k:Nat):Bool:=([true,true,true,true,true,true,true,true,true,true,true,d.isSome,true,true]:List Bool)[k]?.getD true
def pak_y2m(d:Option Nat):List (List Bk):=[(pak_b1 x pb w q A ca L),(pak_b1 x pb w q A ca L),[⟨pb,98,true,(PilC.cells { x with ak:=(.slice A L.length ca) })⟩,⟨w.heap.size,59,true,(pak_v1 x q)⟩,⟨(d.getD 0),65,true,(pak_v2 x c to_ q)⟩]]
abbrev pak_y2X(x:PilC)(c:CM)(base:Nat)(now:Int)(w:World)(to_:Int)(q:AskM)(A:Option Addr)(ca:Nat)(L:List OneM)(c_:Nat)(d:Option Nat)(W_:World):Prop:=match c_ with|0=>(PartyX 124 141 W_ base x.cb c∧OwnR W_ x.lb 65 26 A L.length ca (lettersC c.frm L))∧(∀g_,d=some g_->(w.heap.size+1)<=g_∧Blk W_ g_ 65 (pak_v3))|1=>(PartyX 124 141 W_ base x.cb (askC c now to_ { q with stripe:=x.sn })∧OwnR W_ x.lb 65 26 A L.length ca (lettersC c.frm L))∧(∀g_,d=some g_->(w.heap.size+1)<=g_∧Blk W_ g_ 65 (pak_v3))|2=>((PartyX 124 141 W_ base x.cb (askC c now to_ { q with stripe:=x.sn })∧OwnR W_ x.lb 65 26 A L.length ca (lettersC c.frm L))∧w.heap.size+1<=d.getD 0)∧True|_=>True
def pak_y2C(i_:Nat):Prop:=cY Tryz.prog Tryz.f55 [1,1,0] 38 [] (pak_Q x c pb base now w to_ q L) [.code [1,1,1]] (pak_y2s pb now w to_) [none,none,none,none,none,none,none,some 0,none,none,none,none,some 1,none] 2 (pak_y2v x c pb now to_ q) pak_y2F w (PilT [141] base x.lb pb x.cb w) (pak_y2m x c pb w to_ q A ca L) (w.heap.size+1) (pak_y2X x c base now w to_ q A ca L) i_
def pak_y4s:List (Nat×Value):=[(0,(pt pb 0)),(8,(pt g 0))]
def pak_y4v(d:Option Nat×(Option Addr×Nat)):List (Option Value):=[some ((pt pb 0)),some ((pt pb 0)),some ((pt pb 0)),some ((pt pb 69)),some (.slice A L.length ca),some (.agg (List.toArray (pak_v2 x c to_ q))),some (.slice (some ⟨(d.1.getD 0),0,none⟩) 1 1),some (.slice d.2.1 (L.length+1) d.2.2),some ((pt pb 0)),some ((pt pb 69)),some (.tuple #[])]
def pak_y4F(d:Option Nat×(Option Addr×Nat))(k:Nat):Bool:=([true,true,true,true,true,true,d.1.isSome,true,true,true,true]:List Bool)[k]?.getD true
def pak_y4m(d:Option Nat×(Option Addr×Nat)):List (List Bk):=[(pak_b2 x c pb w to_ q A ca L g),(pak_b2 x c pb w to_ q A ca L g),[⟨pb,98,true,(PilC.cells { x with ak:=(.slice d.2.1 (L.length+1) d.2.2) })⟩,⟨w.heap.size,59,true,(pak_v1 x q)⟩,⟨g,65,true,(pak_v2 x c to_ q)⟩]]
abbrev pak_y4X(x:PilC)(c:CM)(base:Nat)(now:Int)(W1:World)(to_:Int)(q:AskM)(A:Option Addr)(ca:Nat)(L:List OneM)(g:Nat)(c_:Nat)(d:Option Nat×(Option Addr×Nat))(W_:World):Prop:=match c_ with|0=>(PartyX 124 141 W_ base x.cb (askC c now to_ { q with stripe:=x.sn })∧OwnR W_ x.lb 65 26 A L.length ca (lettersC c.frm L))∧(∀g_,d.1=some g_->W1.heap.size<=g_∧Blk W_ g_ 65 (pak_v2 x c to_ q))|1=>(PartyX 124 141 W_ base x.cb (askC c now to_ { q with stripe:=x.sn })∧OwnR W_ x.lb 65 26 d.2.1 (L.length+1) d.2.2 (lettersC c.frm (L++[(⟨to_,c.last+1,{ q with stripe:=x.sn },within14 now,within14 now⟩:OneM)]))∧∀y,ownS d.2.1 y->y≠g)∧True|2=>(PartyX 124 141 W_ base x.cb (askC c now to_ { q with stripe:=x.sn })∧OwnR W_ x.lb 65 26 d.2.1 (L.length+1) d.2.2 (lettersC c.frm (L++[(⟨to_,c.last+1,{ q with stripe:=x.sn },within14 now,within14 now⟩:OneM)]))∧∀y,ownS d.2.1 y->y≠g)∧True|_=>True
def pak_y4C(W1:World)(to_:Int)(q:AskM)(A:Option Addr)(ca:Nat)(L:List OneM)(g:Nat)(i_:Nat):Prop:=cY Tryz.prog Tryz.f55 [1,1,1,1,0] 38 [] (pak_Q x c pb base now w to_ q L) [] (pak_y4s pb g) [none,none,none,none,none,none,none,some 0,none,none,some 1] 2 (pak_y4v x c pb to_ q A ca L) pak_y4F W1 (fun y=>Turned (pak_b2 x c pb w to_ q A ca L g) y∨ownS A y) (pak_y4m x c pb w to_ q A ca L g) W1.heap.size (pak_y4X x c base now W1 to_ q A ca L g) i_
end
theorem pil_ask(x:PilC)(c:CM)(pb base:Nat)(now to_:Int)(q:AskM)(A:Option Addr)(ca:Nat)(L:List OneM)(hok:c.opn.length<8∧c.last<1099511627776∧0<=to_∧to_<202)(hL:L.length<=50)(w:World)(hP:Blk w pb 98 (PilC.cells { x with ak:=.slice A L.length ca }))(hQ:PartyX 124 141 w base x.cb c)(hA:OwnR w x.lb 65 26 A L.length ca (lettersC c.frm L))(hb0:base<=w.heap.size)(hl0:x.lb<=w.heap.size) :
  Calls Tryz.prog 55 #[.pointer (some ⟨pb,0,none⟩),i6 now,i6 to_,.agg #[i6 q.kind,i6 q.stripe,i6 q.epoch,i6 q.seq,i6 q.mask,i6 q.node,i6 q.oe,i6 q.os,sT q.block]] w (fun e w'=>∃A' c',e=.returned (.tuple #[])∧Blk w' pb 98 (PilC.cells { x with ak:=.slice A' (L.length+1) c' })∧PartyX 124 141 w' base x.cb (askC c now to_ { q with stripe:=x.sn })∧OwnR w' x.lb 65 26 A' (L.length+1) c' (lettersC c.frm (L++[(⟨to_,c.last+1,{ q with stripe:=x.sn },within14 now,within14 now⟩:OneM)]))∧Kept (PilT [141] base x.lb pb x.cb w) w w'):=by
 refine cH (S:=(fun y=>y=pb)) (n:=38) Tryz.func55 (MemOk.start (bk:=[⟨pb,98,true,(PilC.cells { x with ak:=.slice A L.length ca })⟩]) (wn:=[]) (fun b hb=>by obtain rfl:=List.mem_singleton.1 hb; exact hP) (fun b hb _=>by obtain rfl:=List.mem_singleton.1 hb; rfl) (by simp) (by simp)) ?_
 have hne:pb≠x.cb:=fun e=>absurd (tyIn_one (e▸blk_ty hP) hQ.blk) (by decide)
 have hpl:=hP.lt
 have hPT:=blk_ty hP
 refine hgE 18 (dz 8 0x101180012f0800000) [0,1,2,7] [] [(pb,47,1),(w.heap.size,1,1)] [.code [1,1,0],.code [1,1,1]] ⟨[(0,(pt pb 0)),(1,i6 now),(2,i6 to_),(7,(pt w.heap.size 0))],(pak_b1 x pb w q A ca L),[],w.heap.size+1⟩ ?_
 have pak_y2_X:StayY w (PilT [141] base x.lb pb x.cb w) (pak_y2m x c pb w to_ q A ca L) (pak_y2X x c base now w to_ q A ca L):=by
  intro c_ d wx w' bk hb hm hx hk
  match c_,hb,hx with
  |0,hb,hx=>
   obtain rfl:=Option.some.inj hb
   refine⟨⟨hx.1.1.keptT hk (turned_tys hm) rfl rfl,hx.1.2.keptT hk (turned_tys hm) rfl⟩,fun g_ hg_=>⟨(hx.2 g_ hg_).1,(hx.2 g_ hg_).2.kept hk (fun⟨b,hb,hr,he⟩=>?_)⟩⟩
   have h9:=(hx.2 g_ hg_).1
   simp at hb
   rcases hb with rfl|rfl<;>simp at hr he<;>omega
  |1,hb,hx=>
   obtain rfl:=Option.some.inj hb
   refine⟨⟨hx.1.1.keptT hk (turned_tys hm) rfl rfl,hx.1.2.keptT hk (turned_tys hm) rfl⟩,fun g_ hg_=>⟨(hx.2 g_ hg_).1,(hx.2 g_ hg_).2.kept hk (fun⟨b,hb,hr,he⟩=>?_)⟩⟩
   have h9:=(hx.2 g_ hg_).1
   simp at hb
   rcases hb with rfl|rfl<;>simp at hr he<;>omega
  |2,hb,hx=>
   obtain rfl:=Option.some.inj hb
   refine⟨⟨⟨hx.1.1.1.keptT hk (turned_tys hm) rfl rfl,hx.1.1.2.kept hk (fun y hy ⟨b,hb,hr,he⟩=>?_)⟩,hx.1.2⟩,trivial⟩
   have h7:=hA.own y hy
   have h8:=hx.1.1.2.ty y hy
   have h9:=hx.1.2
   simp at hb
   rcases hb with rfl|rfl|rfl
   ·exact ty_off h8 he (blk_ty (hm.at_ 0 rfl)) rfl
   all_goals (dsimp only at he; omega)
  |c_+3,hb,hx=>exact trivial
 have pak_y2_c7:pak_y2C x c pb base now w to_ q A ca L 7:=cyC (s:=0) (f:=91) (args:=fun d=>[(pt x.cb 0),i6 now,i6 to_,.agg (List.toArray (pak_v1 x q))]) (ob:=fun d=>[]) (fun(d:Option Nat)(_:Unit)=>d) (fun d=>.tuple #[.agg (List.toArray (pak_v2 x c to_ q)),.bool true]) (fun d=>trivial) (fun d wx bk hb hm hx hcame=>by
  obtain rfl:=Option.some.inj hb
  refine(ask_partyX now to_ { q with stripe:=x.sn } hx.1.1 (Nat.le_trans hb0 hm.kept.size) hok).mono fun e w' hq=>?_
  obtain⟨h1,h2,h3⟩:=hq
  refine⟨(),h1,rfl,⟨⟨h2,hx.1.2.kept h3 (fun y hy ht=>?_)⟩,fun g_ hg_=>⟨(hx.2 g_ hg_).1,(hx.2 g_ hg_).2.kept h3 (fun ht=>?_)⟩⟩,hm.offA (fun _ h=>h) h3 (fun y hy=>?_) (fun b hb hy=>?_),h3.size⟩
  ·rcases ht with rfl|⟨_,ht⟩
   ·exact absurd (tyIn_one (hx.1.2.ty _ hy) hx.1.1.blk) (by decide)
   ·exact tysIn_not rfl (hx.1.2.ty _ hy) ht
  ·rcases ht with he|⟨_,ht⟩
   ·exact absurd (tyIn_one (blk_ty (hx.2 g_ hg_).2) (he▸hx.1.1.blk)) (by decide)
   ·exact tysIn_not rfl (blk_ty (hx.2 g_ hg_).2) ht
  ·rcases hy with rfl|⟨h4,h5⟩
   ·exact .inl (.inr (.inl rfl))
   ·exact pilT_in hm.kept h4 h5 rfl
  ·have hbt:=blk_ty (hm.blk b hb)
   rcases hy with he|⟨_,ht⟩
   ·exact absurd (tyIn_one (he▸hbt) hx.1.1.blk) (by simp at hb; rcases hb with rfl|rfl<;>simp)
   ·exact tysIn_not (by simp at hb; rcases hb with rfl|rfl<;>rfl) hbt ht)
 have pak_y2_c11:pak_y2C x c pb base now w to_ q A ca L 11:=cyN 1 65 (pak_v3) (fun _ g=>some g) (fun g=>(pt g 0)) (fun c_ d wx w' bk hcB hb hm hx hk hz hBl=>by
  have hs:=pak_y2_X c_ d wx w' bk hb hm hx hk
  match c_,hb,hx,hs,hcB with
  |0,hb,hx,hs,hcB=>exact⟨hs.1,(fun g_ hg_=>by obtain rfl:=Option.some.inj hg_; exact⟨hz,hBl⟩)⟩
  |1,hb,hx,hs,hcB=>exact⟨hs.1,(fun g_ hg_=>by obtain rfl:=Option.some.inj hg_; exact⟨hz,hBl⟩)⟩
  |c_+2,hb,hx,hs,hcB=>exact absurd hcB (by omega))
 have pak_y2_c12:pak_y2C x c pb base now w to_ q A ca L 12:=cyS (s:=1) (x:=fun d=>Instr.storeAt 65 (.pointer (some ⟨(d.getD 0),0,none⟩)) (.agg (List.toArray (pak_v2 x c to_ q)))) (fun(d:Option Nat)(_:Unit)=>d) (fun d wx bk hb hm hx hcame=>by
  obtain rfl:=Option.some.inj hb
  obtain⟨g_,rfl⟩:∃g_,d=some g_:=Option.isSome_iff_exists.1 (hcame 11 (List.mem_of_getElem? (i:=0) (by kernel_rfl)) (dst_ne (k:=8) (by kernel_rfl)))
  obtain⟨hzg,hBg⟩:=hx.2 g_ rfl
  have h1:=run_storeG (P:=Tryz.prog) wx 65 g_ 0 65 _ (.agg (List.toArray (pak_v2 x c to_ q))) (by kernel_rfl) hBg (by show 0+26<=26; omega) (ones_all rfl)
  have hk1:=setRow_kept wx g_ (((pak_v3):List Value).take 0++(.agg (List.toArray (pak_v2 x c to_ q)):Value).cells.toList++((pak_v3):List Value).drop (0+26)).toArray
  have hB1:=setRow_blk hBg (((pak_v3):List Value).take 0++(.agg (List.toArray (pak_v2 x c to_ q)):Value).cells.toList++((pak_v3):List Value).drop (0+26))
  refine⟨(),_,h1,rfl,⟨⟨⟨hx.1.1.kept hk1 (fun e=>?_) (fun y hy _ ht=>?_),hx.1.2.kept hk1 (fun y hy e=>?_)⟩,hzg⟩,trivial⟩,hm.adopt (g:=g_) hk1 hB1 (by omega) (fun b hb e=>?_),Nat.le_of_eq (setRow_size _ _ _).symm⟩
  ·exact absurd (tyIn_one (e▸hx.1.1.blk) (blk_ty hBg)) (by decide)
  ·subst hy
   exact absurd (tyIn_one ht (blk_ty hBg)) (by decide)
  ·have h7:=(hA.own y hy).2
   omega
  ·simp at hb
   rcases hb with rfl|rfl
   all_goals (dsimp only at e; omega))
 have pak_y2_R:∀e_∈(rZsY 2 [0,1,2,4,5,8,9,10,13]++[rY 3 2 0 2 1 pb,rY 6 2 1 0 9 w.heap.size]:List (RegY (Option Nat))),pak_y2C x c pb base now w to_ q A ca L e_.i:=certsY_reg _ pak_y2_X (fun d=>by kernel_rfl) (by kernel_rfl) (fun d sz=>by kernel_rfl)
 have pak_y2_A:∀i_,i_<14->pak_y2C x c pb base now w to_ q A ca L i_:=allY (l:=[7,11,12]) (by kernel_rfl) pak_y2_R ⟨pak_y2_c7,pak_y2_c11,pak_y2_c12,trivial⟩
 refine holds_mixY (Δ:=Option Nat) (PilT [141] base x.lb pb x.cb w) (pak_y2v x c pb now to_ q) pak_y2F (pak_y2m x c pb w to_ q A ca L) (pak_y2X x c base now w to_ q A ca L) [0,8,9] (fun d=>[(0,(pt pb 0)),(8,.pointer (some ⟨(d.getD 0),0,none⟩)),(9,.bool true)]) (fun d=>[⟨pb,98,true,(PilC.cells { x with ak:=(.slice A L.length ca) })⟩,⟨w.heap.size,59,true,(pak_v1 x q)⟩,⟨(d.getD 0),65,true,(pak_v2 x c to_ q)⟩]) none (fun _ h=>.inl h) (by kernel_rfl) (by kernel_rfl) (by kernel_rfl) (fun wx hm=>⟨⟨hQ.kept hm.kept.drew hne.symm (fun y hy _ ht=>absurd (tyIn_one (hy▸ht) hPT) (by decide)),hA.kept hm.kept.drew (fun y hy e=>absurd (tyIn_one (hA.ty y hy) (e▸hPT)) (by decide))⟩,fun _ h=>by cases h⟩) (by kernel_rfl) pak_y2_A (fun d=>by kernel_rfl) (fun d=>by kernel_rfl) (fun d W1 hfin hX1 hz1 hm1=>?_)
 obtain⟨g,rfl⟩:∃g,d=some g:=Option.isSome_iff_exists.1 (hfin 11 (Nat.le_of_ble_eq_true (by kernel_rfl)) (dst_ne (k:=8) (by kernel_rfl)))
 obtain⟨⟨⟨hQ1,hA1⟩,hg0⟩,_⟩:=hX1
 replace hg0:w.heap.size+1<=g:=hg0
 replace hm1:MemOk w (PilT [141] base x.lb pb x.cb w) (pak_b2 x c pb w to_ q A ca L g) [] W1.heap.size W1:=hm1
 change Holds _ _ _ _ W1 (Turned (pak_b2 x c pb w to_ q A ca L g)) _ [.code [1,1,1]] ⟨[(0,(pt pb 0)),(8,(pt g 0)),(9,.bool true)],(pak_b2 x c pb w to_ q A ca L g),[],W1.heap.size⟩
 have hg1:g<W1.heap.size:=(hm1.blk _ (List.mem_of_getElem? (i:=2) rfl)).lt
 refine hgE 8 [oh0,oh1] [0,8] [tT] [] [.code [1,1,1,1,0]] ⟨[(0,(pt pb 0)),(8,(pt g 0))],(pak_b2 x c pb w to_ q A ca L g),[],W1.heap.size⟩ ?_
 have hAg:∀y,ownS A y->y≠g:=fun y hy=>by have h7:=(hA.own y hy).2; omega
 have hAt:∀y,ownS A y->¬Turned (pak_b2 x c pb w to_ q A ca L g) y:=by
  intro y hy ⟨b,hb,hr,he⟩
  have h7:=(hA.own y hy).2
  have h8:=hA.ty y hy
  simp at hb
  rcases hb with rfl|rfl|rfl
  ·exact ty_off h8 he hPT rfl
  all_goals (dsimp only at he; omega)
 have pak_y4_X:StayY W1 (fun y=>Turned (pak_b2 x c pb w to_ q A ca L g) y∨ownS A y) (pak_y4m x c pb w to_ q A ca L g) (pak_y4X x c base now W1 to_ q A ca L g):=by
  intro c_ d wx w' bk hb hm hx hk
  match c_,hb,hx with
  |0,hb,hx=>
   obtain rfl:=Option.some.inj hb
   refine⟨⟨hx.1.1.keptT hk (turned_tys hm) rfl rfl,hx.1.2.kept hk hAt⟩,fun g_ hg_=>⟨(hx.2 g_ hg_).1,(hx.2 g_ hg_).2.kept hk (fun⟨b,hb,hr,he⟩=>?_)⟩⟩
   have h9:=(hx.2 g_ hg_).1
   have h10:=hm1.kept.size
   simp at hb
   rcases hb with rfl|rfl|rfl
   ·have h11:=blk_ty (hx.2 g_ hg_).2
    exact ty_off h11 he (blk_ty (hm.at_ 0 rfl)) rfl
   all_goals (dsimp only at he; omega)
  |1,hb,hx=>
   obtain rfl:=Option.some.inj hb
   refine⟨⟨hx.1.1.keptT hk (turned_tys hm) rfl rfl,hx.1.2.1.kept hk (fun y hy ⟨b,hb,hr,he⟩=>?_),hx.1.2.2⟩,trivial⟩
   have h8:=hx.1.2.1.ty y hy
   have h9:=hx.1.2.2 y hy
   simp at hb
   rcases hb with rfl|rfl|rfl
   ·exact ty_off h8 he (blk_ty (hm.at_ 0 rfl)) rfl
   ·exact ty_off h8 he (blk_ty (hm.at_ 1 rfl)) rfl
   ·exact h9 he.symm
  |2,hb,hx=>
   obtain rfl:=Option.some.inj hb
   refine⟨⟨hx.1.1.keptT hk (turned_tys hm) rfl rfl,hx.1.2.1.kept hk (fun y hy ⟨b,hb,hr,he⟩=>?_),hx.1.2.2⟩,trivial⟩
   have h8:=hx.1.2.1.ty y hy
   have h9:=hx.1.2.2 y hy
   simp at hb
   rcases hb with rfl|rfl|rfl
   ·exact ty_off h8 he (blk_ty (hm.at_ 0 rfl)) rfl
   ·exact ty_off h8 he (blk_ty (hm.at_ 1 rfl)) rfl
   ·exact h9 he.symm
  |c_+3,hb,hx=>exact trivial
 have pak_y4_c6:pak_y4C x c pb base now w W1 to_ q A ca L g 6:=cyN 0 65 (pak_v2 x c to_ q) (fun d g=>(some g,d.2)) (fun g=>.slice (some ⟨g,0,none⟩) 1 1) (fun c_ d wx w' bk hcB hb hm hx hk hz hBl=>by
  have hs:=pak_y4_X c_ d wx w' bk hb hm hx hk
  match c_,hb,hx,hs,hcB with
  |0,hb,hx,hs,hcB=>exact⟨hs.1,(fun g_ hg_=>by obtain rfl:=Option.some.inj hg_; exact⟨hz,hBl⟩)⟩
  |c_+1,hb,hx,hs,hcB=>exact absurd hcB (by omega))
 have pak_y4_c7:pak_y4C x c pb base now w W1 to_ q A ca L g 7:=cyW (s:=0) (x:=fun d=>Builtin.append_ #[50,50] 50 #[.slice A L.length ca,.slice (some ⟨(d.1.getD 0),0,none⟩) 1 1]) (fun(d:Option Nat×(Option Addr×Nat))(e_:Option Addr×Nat)=>(d.1,e_)) (fun d=>.slice d.2.1 (L.length+1) d.2.2) (fun d wx bk hb hm hx hcame=>by
  obtain rfl:=Option.some.inj hb
  obtain⟨d0_,A_,c_⟩:=d
  obtain⟨g_,rfl⟩:∃g_,d0_=some g_:=Option.isSome_iff_exists.1 (hcame 6 (List.mem_of_getElem? (i:=1) (by kernel_rfl)) (dst_ne (k:=34) (by kernel_rfl)))
  obtain⟨hzg,hBg⟩:=hx.2 g_ rfl
  obtain⟨A',cp',w',h1,h2,h3,h4⟩:=run_appendR (P:=Tryz.prog) wx x.lb 50 50 65 (.agg (List.toArray (pak_v3))) 26 232 A L.length ca (lettersC c.frm L) ⟨g_,0,none⟩ 1 1 (pak_v2 x c to_ q) (by kernel_rfl) (by kernel_rfl) (by kernel_rfl) (by decide) hx.1.2 rfl (fun j v hj=>by rw[add_norm,Nat.zero_add]; exact hBg.at_ hj) (ones_all rfl) (by omega) (by decide) (Nat.le_trans hl0 (Nat.le_trans hm1.kept.size hm.kept.size))
  rw[show lettersC c.frm L++((pak_v2 x c to_ q):List Value)=lettersC c.frm (L++[(⟨to_,c.last+1,{ q with stripe:=x.sn },within14 now,within14 now⟩:OneM)])from lettersC_snoc c.frm L ⟨to_,c.last+1,{ q with stripe:=x.sn },within14 now,within14 now⟩]at h2
  refine⟨(A',cp'),w',h1,rfl,⟨⟨hx.1.1.keptT h3 (own_tys hx.1.2) rfl rfl,h2,fun y hy=>(h4 y hy).elim (hAg y) (fun h=>?_)⟩,trivial⟩,hm.offA (fun _ h=>h) h3 (fun y hy=>?_) (fun b hb hy=>hAt _ hy ⟨b,hb,?_,rfl⟩),h3.size⟩
  ·have h7:=(hm.blk _ (List.mem_of_getElem? (i:=2) rfl)).lt
   dsimp only at h7
   omega
  ·exact .inl (.inr hy)
  ·simp at hb
   rcases hb with rfl|rfl|rfl<;>rfl)
 have pak_y4_c10:pak_y4C x c pb base now w W1 to_ q A ca L g 10:=cyS (s:=1) (x:=fun d=>Instr.storeAt 50 ((pt pb 69)) (.slice d.2.1 (L.length+1) d.2.2)) (fun(d:Option Nat×(Option Addr×Nat))(_:Unit)=>d) (fun d wx bk hb hm hx hcame=>by
  obtain rfl:=Option.some.inj hb
  have h1:=run_storeG (P:=Tryz.prog) wx 50 pb 69 98 _ (.slice d.2.1 (L.length+1) d.2.2) (by kernel_rfl) (hm.at_ 0 rfl) (by show 69+1<=73; omega) (ones_all rfl)
  have hk1:=setRow_kept wx pb ((PilC.cells { x with ak:=.slice A L.length ca }).take 69++(.slice d.2.1 (L.length+1) d.2.2:Value).cells.toList++(PilC.cells { x with ak:=.slice A L.length ca }).drop (69+1)).toArray
  have hB1:=setRow_blk (hm.at_ 0 rfl) ((PilC.cells { x with ak:=.slice A L.length ca }).take 69++(.slice d.2.1 (L.length+1) d.2.2:Value).cells.toList++(PilC.cells { x with ak:=.slice A L.length ca }).drop (69+1))
  have hPx:=blk_ty (hm.at_ 0 rfl)
  refine⟨(),_,h1,rfl,⟨⟨hx.1.1.kept hk1 (fun e=>hne e.symm) (fun y hy _ ht=>ty_off ht hy.symm hPx rfl),hx.1.2.1.kept hk1 (fun y hy e=>ty_off (hx.1.2.1.ty y hy) e.symm hPx rfl),hx.1.2.2⟩,trivial⟩,(hm.set1 0 rfl rfl hk1 hB1).2,Nat.le_of_eq (setRow_size _ _ _).symm⟩)
 have pak_y4_R:∀e_∈(rZsY 2 [0,1,2,3,8,9]++[rY 4 1 0 69 1 pb,rY 5 2 2 0 26 g]:List (RegY (Option Nat×(Option Addr×Nat)))),pak_y4C x c pb base now w W1 to_ q A ca L g e_.i:=certsY_reg _ pak_y4_X (fun d=>by kernel_rfl) (by kernel_rfl) (fun d sz=>by kernel_rfl)
 have pak_y4_A:∀i_,i_<11->pak_y4C x c pb base now w W1 to_ q A ca L g i_:=allY (l:=[6,7,10]) (by kernel_rfl) pak_y4_R ⟨pak_y4_c6,pak_y4_c7,pak_y4_c10,trivial⟩
 refine holds_mixY (Δ:=Option Nat×(Option Addr×Nat)) (fun y=>Turned (pak_b2 x c pb w to_ q A ca L g) y∨ownS A y) (pak_y4v x c pb to_ q A ca L) pak_y4F (pak_y4m x c pb w to_ q A ca L g) (pak_y4X x c base now W1 to_ q A ca L g) [] (fun d=>[]) (fun d=>[⟨pb,98,true,(PilC.cells { x with ak:=(.slice d.2.1 (L.length+1) d.2.2) })⟩,⟨w.heap.size,59,true,(pak_v1 x q)⟩,⟨g,65,true,(pak_v2 x c to_ q)⟩]) (none,(none,0)) (fun _ h=>.inl h) (by kernel_rfl) (by kernel_rfl) (by kernel_rfl) (fun wx hm=>⟨⟨hQ1.keptT hm.kept.drew (turned_tys hm1) rfl rfl,hA1.kept hm.kept.drew hAt⟩,fun _ h=>by cases h⟩) (by kernel_rfl) pak_y4_A (fun d=>by kernel_rfl) (fun d=>by kernel_rfl) (fun d W2 hfin hX2 hz2 hm2=>?_)
 obtain⟨d0_,A2,c2⟩:=d
 obtain⟨⟨hQ2,hA2,hA2g⟩,_⟩:=hX2
 change Holds _ _ _ _ W2 (Turned (pak_b3 x c pb w to_ q L g A2 c2)) _ [] ⟨[],(pak_b3 x c pb w to_ q L g A2 c2),[],W2.heap.size⟩
 refine hgE 3 [] [] [] [] [] ⟨[],(pak_b3 x c pb w to_ q L g A2 c2),[],W2.heap.size⟩ ?_
 refine holds_end [] (show _=some ([],dupR [])by kernel_rfl) ?_
 intro wx hm
 refine⟨A2,c2,rfl,hm.at_ 0 rfl,hQ2.keptT hm.kept (turned_tys hm2) rfl rfl,hA2.kept hm.kept (fun y hy ⟨b,hb,hr,he⟩=>?_),((hm1.bckS hm2 (fun y hy=>?_)).bck hm).kept⟩
 ·have h8:=hA2.ty y hy
  have h9:=hA2g y hy
  simp at hb
  rcases hb with rfl|rfl|rfl
  ·exact ty_off h8 he (blk_ty (hm2.at_ 0 rfl)) rfl
  ·exact ty_off h8 he (blk_ty (hm2.at_ 1 rfl)) rfl
  ·exact h9 he.symm
 ·rcases hy with⟨b,hb,hr,rfl⟩|hy
  ·exact hm1.own b hb hr
  ·exact .inl (.inr (.inr (.inr ⟨(hA.own y hy).1,hA.ty y hy⟩)))
end Go.Proofs.YtcmpkkapkdlfhaaGreat
