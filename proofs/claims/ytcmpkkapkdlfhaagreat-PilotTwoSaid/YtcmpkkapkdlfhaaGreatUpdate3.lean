import Derived.Test.YtcmpkkapkdlfhaaGreatUpdate2
namespace Go.Proofs.YtcmpkkapkdlfhaaGreat
open Go.RowKit
set_option maxHeartbeats 4000000
set_option maxRecDepth 100000
section
variable (sn mask e s:Int)(L:List PartM)(gP cp:Nat)(bg:Bool)(q:PartM)
def uak_v1:List Value:=[i6 sn,i6 mask,i6 e,i6 s,.slice (some ⟨gP,0,none⟩) L.length cp,.bool bg,.bool false]
def uak_v2:List Value:=[i6 4,i6 sn,i6 e,i6 s,i6 mask,i6 0,i6 0,i6 0,sT q.blk]
def uak_n1:List Nat:=[1,1,1,1,0,1,0,0,1,1,0,0,1,1,0,1]
def uak_n2:List Nat:=[1,1,1,1,0,1,0,0,1,1,1]
@[simp] def uak_b1(ub:Nat)(bg:Bool)(q:PartM)(W1:World):List Bk:=[⟨ub,178,true,(uak_v1 sn mask e s L gP cp bg)⟩,⟨W1.heap.size,180,true,[i6 q.col,sT q.blk,.bool q.opn,.bool q.don]⟩]
end
def asksPrep_updI(sn:Int)(mask:Int)(e:Int)(s:Int)(L:List PartM)(gP:Nat)(cp:Nat)(ub:Nat)(bg:Bool)(w:World)  (m:Nat) (st:St) (W0:World):Prop:=
 ∃(i:Nat)(A0:Option Addr)(c0:Nat)(B0:Option Addr)(d0:Nat)(z:Nat),m+i=L.length∧i<=L.length∧OwnR W0 w.heap.size 3 1 A0 i c0 (flatV colC (L.take i))∧OwnR W0 w.heap.size 59 9 B0 i d0 (flatV (prepC sn e s mask) (L.take i))∧st=⟨[(0,(pt ub 0)),(2,.slice none 0 0),(3,.slice none 0 0),(4,.slice A0 i c0),(5,.slice B0 i d0),(6,i6 0),(14,.slice (some ⟨gP,0,none⟩) L.length cp),(15,i6 ((L.length:Nat):Int)),(16,i6 (i:Int))],[⟨ub,178,true,(uak_v1 sn mask e s L gP cp bg)⟩],[],z⟩
theorem asksPrep_upd(sn mask e s:Int)(L:List PartM)(hL8:0<L.length∧L.length<=8)(gP cp ub base:Nat)(bg:Bool)(hall:∀q∈L,q.opn=false)(w:World)(hU:Blk w ub 178 [i6 sn,i6 mask,i6 e,i6 s,.slice (some ⟨gP,0,none⟩) L.length cp,.bool bg,.bool false])(hO:OwnR w base 180 4 (some ⟨gP,0,none⟩) L.length cp (flatV PartM.cells L)) :
  Calls Tryz.prog 113 #[.pointer (some ⟨ub,0,none⟩)] w (fun e' w'=>∃A cA B cB,e'=.returned (.tuple #[.slice A L.length cA,.slice B L.length cB])∧OwnR w' w.heap.size 3 1 A L.length cA (flatV colC L)∧OwnR w' w.heap.size 59 9 B L.length cB (flatV (prepC sn e s mask) L)∧Blk w' ub 178 [i6 sn,i6 mask,i6 e,i6 s,.slice (some ⟨gP,0,none⟩) L.length cp,.bool true,.bool false]∧Kept (fun y=>y=ub) w w'):=by
 refine cH (S:=(fun y=>y=ub)) (n:=57) Tryz.func113 (MemOk.start (bk:=[⟨ub,178,true,(uak_v1 sn mask e s L gP cp bg)⟩]) (wn:=[]) (fun b hb=>by obtain rfl:=List.mem_singleton.1 hb; exact hU) (fun b hb _=>by obtain rfl:=List.mem_singleton.1 hb; rfl) (by simp) (by simp)) ?_
 refine hgS 19 (dz 5 0) [0,2,3,4,5,9] [] [] [.ops [1,1,1,0] [1,2],.code [1,1,1,1]] [⟨ub,178,true,(uak_v1 sn mask e s L gP cp bg)⟩] [] w.heap.size ?_
 have hst:stateL L 2=0:=state_prep hL8.1 hall
 refine hcq (i6 0) 124 [(pt ub 0)] (some 10) [] tI rfl (fun wx hm=>by have h:=state_upd sn mask e s L hL8.2 gP cp ub base bg wx (hm.at_ 0 rfl) (hO.keptT (es:=[178]) hm.kept (fun y hy=>by subst hy; exact⟨178,by simp,blk_ty hU⟩) rfl); rw[hst]at h; exact h) fun z2 hz2=>?_
 refine hgE 16 (dz 7 4362600448) [0,2,3,4,5,6,14,15,16] [] [(ub,4,1)] [.code [1,1,1,1,0,1,0],.blk 0,.code [1,1,1,1,1]] ⟨[(0,(pt ub 0)),(2,.slice none 0 0),(3,.slice none 0 0),(4,.slice none 0 0),(5,.slice none 0 0),(6,i6 0),(14,.slice (some ⟨gP,0,none⟩) L.length cp),(15,i6 ((L.length:Nat):Int)),(16,i6 0)],[⟨ub,178,true,(uak_v1 sn mask e s L gP cp bg)⟩],[],z2⟩ ?_
 refine holds_loopW (w:=w) (S':=(fun y=>y=ub)) (asksPrep_updI sn mask e s L gP cp ub bg w) L.length (by kernel_rfl) (fun W0 hm=>⟨⟨0,none,0,none,0,_,by omega,by omega,OwnR.nil _ _ _ _,OwnR.nil _ _ _ _,rfl⟩,hm⟩) ?_
 rintro m _ W1 ⟨i,A0,c0,B0,d0,z,hmi,hin,hO1cols,hO1asks,rfl⟩ hm1 J hJ
 by_cases h1:i<L.length
 rotate_left
 ·skip
  refine hgS 31 (dz 14 0x10508000100000) [2,3] [dF (((i:Int):Int)<((L.length:Nat):Int)),dT (((i:Int):Int)>0)] [(ub,5,1)] [.code [1,1,1,1,1,1,1]] [⟨ub,178,true,[i6 sn,i6 mask,i6 e,i6 s,.slice (some ⟨gP,0,none⟩) L.length cp,.bool true,.bool false]⟩] [] W1.heap.size ?_
  refine hrt [] [.slice A0 i c0,.slice B0 i d0] [] ?_
  intro wx hm
  have hni:i=L.length:=by omega
  have h5:=(hO1cols.keptT hm.kept (turned_tys hm1) rfl)
  have h6:=(hO1asks.keptT hm.kept (turned_tys hm1) rfl)
  rw[List.take_of_length_le (by omega)]at h5 h6
  subst hni
  exact⟨A0,c0,B0,d0,rfl,h5,h6,hm.at_ 0 rfl,(MemOk.bck hm1 hm).kept⟩
 obtain⟨q,hq⟩:∃q,L[i]?=some q:=⟨_,List.getElem?_eq_getElem h1⟩
 have hqo:=hall q (List.mem_of_getElem? hq)
 have hOw:=hO.keptT (es:=[178]) hm1.kept (fun y hy=>by subst hy; exact⟨178,by simp,blk_ty hU⟩) rfl
 refine holds_wins [⟨gP,0+i*4,[i6 q.col,sT q.blk,.bool q.opn,.bool q.don]⟩] (fun _ y hy=>?_) ?_
 ·simp only[List.mem_cons,List.not_mem_nil,or_false]at hy
  subst hy
  exact⟨fun⟨b,hb,_,he⟩=>(by obtain rfl:=List.mem_singleton.1 hb; exact absurd (tyIn_one (hOw.ty gP ⟨_,rfl,rfl⟩) (show TyIn W1 178 gP from(show ub=gP from he)▸blk_ty (hm1.at_ 0 rfl))) (by decide)),(hOw.own gP ⟨_,rfl,rfl⟩).2,own_elem part_len hOw hq⟩
 refine hgE 45 [oh0,oh1,oh2,⟨false,0,[⟨true,0,0,4⟩]⟩,oh0,(oA 1 0 4),oh0,oh0,oh0,oh1,⟨true,0,[⟨false,1,2,1⟩]⟩,oh1,oh3,oh0,oh1,oh1,oh1,oh0,oh0,oh0,oh1,oh3,oh1,oh0,oh0,(oA 1 0 1),oh0] [0,2,3,4,5,6,8,14,15,16,36,39] ([dT (((i:Int):Int)<((L.length:Nat):Int)),oE ((0:Int)<=(i:Int)∧(i:Int)<((L.length:Nat):Int)),tT,tT,tT,tT]++rE 5 (eD (nT hqo))++[tT]) [(gP,0+i*4,4),(W1.heap.size,0,4),(W1.heap.size,2,1),(W1.heap.size,0,1)] [.ops [1,1,1,1,0,1,0,0,1,1,0,0,1,1,0,0] [4,5],.code uak_n1,.blk 1,.code uak_n2,.inv J,.blk 0,.code [1,1,1,1,1]] ⟨[(0,(pt ub 0)),(2,.slice none 0 0),(3,.slice none 0 0),(4,.slice A0 i c0),(5,.slice B0 i d0),(6,i6 0),(8,(pt W1.heap.size 0)),(14,.slice (some ⟨gP,0,none⟩) L.length cp),(15,i6 ((L.length:Nat):Int)),(16,i6 (i:Int)),(36,.slice A0 i c0),(39,.slice (some ⟨W1.heap.size+1,0,none⟩) 1 1)],[⟨ub,178,true,(uak_v1 sn mask e s L gP cp bg)⟩,⟨W1.heap.size,180,true,[i6 q.col,sT q.blk,.bool q.opn,.bool q.don]⟩,⟨W1.heap.size+1,3,true,[i6 q.col]⟩],[⟨gP,0+i*4,[i6 q.col,sT q.blk,.bool q.opn,.bool q.don]⟩],W1.heap.size+2⟩ ?_
 refine holds_wins [] (fun _ _ h=>by cases h) ?_
 refine holds_opV (w:=w) (S':=(fun y=>y=ub)) (Y:=Option Addr×Nat) (dst:=(some 40)) (x:=Builtin.append_ #[25,25] 25 #[.slice A0 i c0,.slice (some ⟨W1.heap.size+1,0,none⟩) 1 1]) (fun yq=>.slice yq.1 (i+1) yq.2) (uak_b1 sn mask e s L gP cp ub bg q W1) (fun yq W_=>OwnR W_ w.heap.size 3 1 yq.1 (i+1) yq.2 (flatV colC (L.take (i+1)))∧OwnR W_ w.heap.size 59 9 B0 i d0 (flatV (prepC sn e s mask) (L.take i))) (fun yq=>[(40,.slice yq.1 (i+1) yq.2),(0,(pt ub 0)),(2,.slice none 0 0),(3,.slice none 0 0),(4,.slice A0 i c0),(5,.slice B0 i d0),(6,i6 0),(8,(pt W1.heap.size 0)),(14,.slice (some ⟨gP,0,none⟩) L.length cp),(15,i6 ((L.length:Nat):Int)),(16,i6 (i:Int)),(36,.slice A0 i c0),(39,.slice (some ⟨W1.heap.size+1,0,none⟩) 1 1)]) (by kernel_rfl) (by kernel_rfl) (fun _=>rfl) (fun wx hm=>?_) (fun yq W2 hX2 hm2=>?_)
 ·have hO_:=(hO1cols.keptT hm.kept (turned_tys hm1) rfl)
  have hm0:=(MemOk.bck hm1 hm)
  obtain⟨A',cp',w',h1,h2,h3,h4⟩:=run_appendR (P:=Tryz.prog) wx w.heap.size 25 25 3 (i6 0) 1 8 A0 i c0 (flatV colC (L.take i)) ⟨W1.heap.size+1,0,none⟩ 1 1 [i6 q.col] (by kernel_rfl) (by kernel_rfl) (by kernel_rfl) (by decide) hO_ rfl (fun j x hj=>by rw[add_norm,Nat.zero_add]; exact(hm.at_ 2 rfl).at_ hj) (ones_all (by kernel_rfl)) (by omega) (by decide) hm0.kept.size
  rw[show[i6 q.col]=colC q from rfl,flatV_snoc,<-take_snocG hq]at h2
  exact⟨(A',cp'),w',h1,⟨h2,((hO1asks.keptT hm.kept (turned_tys hm1) rfl).keptT (es:=[3]) h3 (own_tys hO_) rfl)⟩,(hm0.sub (bk':=(uak_b1 sn mask e s L gP cp ub bg q W1)) (by simp)).offA (fun _ h=>h) h3 (fun y hy=>.inr (hO_.own y hy).1) (off_tys (hm0.sub (bk':=(uak_b1 sn mask e s L gP cp ub bg q W1)) (by simp)) (own_tys hO_) rfl)⟩
 obtain⟨A2,c2⟩:=yq
 obtain⟨hO2cols,hO2asks⟩:=hX2
 refine hgS 10 (dz 5 1073840128) [0,2,3,4,5,6,14,15,16,41,42,43,44] [] [(W1.heap.size,0,4)] [.ops uak_n1 [4,5,6,7],.blk 1,.code uak_n2,.inv J,.blk 0,.code [1,1,1,1,1]] (uak_b1 sn mask e s L gP cp ub bg q W1) [] W2.heap.size ?_
 refine hcq (.agg (List.toArray (uak_v2 sn mask e s q))) _ _ (some 45) [] tI rfl (fun wx hm=>askPrep_upd sn mask e s L gP cp ub bg q wx (hm.at_ 0 rfl)) fun z9 hz9=>?_
 refine hgE 4 [oh0] [0,2,3,4,5,6,14,15,16,41,46] [] [] [.ops uak_n1 [6,7],.blk 1,.code uak_n2,.inv J,.blk 0,.code [1,1,1,1,1]] ⟨[(0,(pt ub 0)),(2,.slice none 0 0),(3,.slice none 0 0),(4,.slice A2 (i+1) c2),(5,.slice B0 i d0),(6,i6 0),(14,.slice (some ⟨gP,0,none⟩) L.length cp),(15,i6 ((L.length:Nat):Int)),(16,i6 (i:Int)),(41,.slice B0 i d0),(46,.slice (some ⟨z9,0,none⟩) 1 1)],[⟨ub,178,true,(uak_v1 sn mask e s L gP cp bg)⟩,⟨W1.heap.size,180,true,[i6 q.col,sT q.blk,.bool q.opn,.bool q.don]⟩,⟨z9,59,true,(uak_v2 sn mask e s q)⟩],[],z9+1⟩ ?_
 refine holds_opV (w:=w) (S':=(fun y=>y=ub)) (Y:=Option Addr×Nat) (dst:=(some 47)) (x:=Builtin.append_ #[181,181] 181 #[.slice B0 i d0,.slice (some ⟨z9,0,none⟩) 1 1]) (fun yq=>.slice yq.1 (i+1) yq.2) (uak_b1 sn mask e s L gP cp ub bg q W1) (fun yq W_=>OwnR W_ w.heap.size 3 1 A2 (i+1) c2 (flatV colC (L.take (i+1)))∧OwnR W_ w.heap.size 59 9 yq.1 (i+1) yq.2 (flatV (prepC sn e s mask) (L.take (i+1)))) (fun yq=>[(47,.slice yq.1 (i+1) yq.2),(0,(pt ub 0)),(2,.slice none 0 0),(3,.slice none 0 0),(4,.slice A2 (i+1) c2),(5,.slice B0 i d0),(6,i6 0),(14,.slice (some ⟨gP,0,none⟩) L.length cp),(15,i6 ((L.length:Nat):Int)),(16,i6 (i:Int)),(41,.slice B0 i d0),(46,.slice (some ⟨z9,0,none⟩) 1 1)]) (by kernel_rfl) (by kernel_rfl) (fun _=>rfl) (fun wx hm=>?_) (fun yq W3 hX3 hm3=>?_)
 ·have hO_:=(hO2asks.keptT hm.kept (turned_tys hm2) rfl)
  have hm0:=(MemOk.bck hm2 hm)
  obtain⟨A',cp',w',h1,h2,h3,h4⟩:=run_appendR (P:=Tryz.prog) wx w.heap.size 181 181 59 (.agg #[i6 0,i6 0,i6 0,i6 0,i6 0,i6 0,i6 0,i6 0,sT ⟨#[]⟩]) 9 80 B0 i d0 (flatV (prepC sn e s mask) (L.take i)) ⟨z9,0,none⟩ 1 1 (uak_v2 sn mask e s q) (by kernel_rfl) (by kernel_rfl) (by kernel_rfl) (by decide) hO_ rfl (fun j x hj=>by rw[add_norm,Nat.zero_add]; exact(hm.at_ 2 rfl).at_ hj) (ones_all (by kernel_rfl)) (by omega) (by decide) hm0.kept.size
  rw[show(uak_v2 sn mask e s q)=(prepC sn e s mask) q from rfl,flatV_snoc,<-take_snocG hq]at h2
  exact⟨(A',cp'),w',h1,⟨((hO2cols.keptT hm.kept (turned_tys hm2) rfl).keptT (es:=[59]) h3 (own_tys hO_) rfl),h2⟩,(hm0.sub (bk':=(uak_b1 sn mask e s L gP cp ub bg q W1)) (by simp)).offA (fun _ h=>h) h3 (fun y hy=>.inr (hO_.own y hy).1) (off_tys (hm0.sub (bk':=(uak_b1 sn mask e s L gP cp ub bg q W1)) (by simp)) (own_tys hO_) rfl)⟩
 obtain⟨A3,c3⟩:=yq
 obtain⟨hO3cols,hO3asks⟩:=hX3
 refine holds_go (f:=10) (hs:=[oh0,oh2,oh0]) [0,2,3,4,5,6,14,15,16] [true,false] (show _=some (Res.mk [inR .i64 (((i:Int)+1))] (dupR []) [.inv J,.blk 0,.code [1,1,1,1,1]] ⟨[(0,(pt ub 0)),(2,.slice none 0 0),(3,.slice none 0 0),(4,.slice A2 (i+1) c2),(5,.slice A3 (i+1) c3),(6,i6 0),(14,.slice (some ⟨gP,0,none⟩) L.length cp),(15,i6 ((L.length:Nat):Int)),(16,i6 ((i:Int)+1))],[⟨ub,178,true,(uak_v1 sn mask e s L gP cp bg)⟩],[],W3.heap.size⟩)by kernel_rfl) ⟨in64 (by omega),trivial⟩ ?_
 rw[<-cast_succ i]
 intro a_ w9 hf hm
 exact hJ (m-1) _ a_ w9 (by omega) ⟨i+1,A2,c2,A3,c3,_,by omega,by omega,(hO3cols.keptT hm.kept (turned_tys hm3) rfl),(hO3asks.keptT hm.kept (turned_tys hm3) rfl),rfl⟩ hf (MemOk.bck hm3 hm)
section
variable (sn mask e s:Int)(L:List PartM)(gP cp:Nat)(bg:Bool)
def ual_v1:List Value:=(uak_v1 sn mask e s L gP cp bg)
def ual_v2:List Value:=[i6 5,i6 sn,i6 e,i6 s,i6 0,i6 0,i6 0,i6 0,sT ⟨#[]⟩]
def ual_n1:List Nat:=[1,1,1,1,0,1,0,0,1,1,0,0,1,1,0,1]
def ual_n2:List Nat:=[1,1,1,1,0,1,0,0,1,1,1]
@[simp] def ual_b1(ub:Nat)(bg:Bool)(q:PartM)(W1:World):List Bk:=[⟨ub,178,true,(ual_v1 sn mask e s L gP cp bg)⟩,⟨W1.heap.size,180,true,[i6 q.col,sT q.blk,.bool q.opn,.bool q.don]⟩]
end
def asksComm_updI(sn:Int)(mask:Int)(e:Int)(s:Int)(L:List PartM)(gP:Nat)(cp:Nat)(ub:Nat)(bg:Bool)(w:World)  (m:Nat) (st:St) (W0:World):Prop:=
 ∃(i:Nat)(A0:Option Addr)(c0:Nat)(B0:Option Addr)(d0:Nat)(z:Nat),m+i=L.length∧i<=L.length∧OwnR W0 w.heap.size 3 1 A0 i c0 (flatV colC (L.take i))∧OwnR W0 w.heap.size 59 9 B0 i d0 (flatV (commC sn e s) (L.take i))∧st=⟨[(0,(pt ub 0)),(2,.slice none 0 0),(3,.slice none 0 0),(4,.slice A0 i c0),(5,.slice B0 i d0),(6,i6 1),(14,.slice (some ⟨gP,0,none⟩) L.length cp),(15,i6 ((L.length:Nat):Int)),(16,i6 (i:Int))],[⟨ub,178,true,(ual_v1 sn mask e s L gP cp bg)⟩],[],z⟩
theorem asksComm_upd(sn mask e s:Int)(L:List PartM)(hL8:0<L.length∧L.length<=8)(gP cp ub base:Nat)(bg:Bool)(hall:∀q∈L,q.opn=true∧q.don=false)(w:World)(hU:Blk w ub 178 [i6 sn,i6 mask,i6 e,i6 s,.slice (some ⟨gP,0,none⟩) L.length cp,.bool bg,.bool false])(hO:OwnR w base 180 4 (some ⟨gP,0,none⟩) L.length cp (flatV PartM.cells L)) :
  Calls Tryz.prog 113 #[.pointer (some ⟨ub,0,none⟩)] w (fun e' w'=>∃A cA B cB,e'=.returned (.tuple #[.slice A L.length cA,.slice B L.length cB])∧OwnR w' w.heap.size 3 1 A L.length cA (flatV colC L)∧OwnR w' w.heap.size 59 9 B L.length cB (flatV (commC sn e s) L)∧Blk w' ub 178 [i6 sn,i6 mask,i6 e,i6 s,.slice (some ⟨gP,0,none⟩) L.length cp,.bool true,.bool false]∧Kept (fun y=>y=ub) w w'):=by
 refine cH (S:=(fun y=>y=ub)) (n:=57) Tryz.func113 (MemOk.start (bk:=[⟨ub,178,true,(ual_v1 sn mask e s L gP cp bg)⟩]) (wn:=[]) (fun b hb=>by obtain rfl:=List.mem_singleton.1 hb; exact hU) (fun b hb _=>by obtain rfl:=List.mem_singleton.1 hb; rfl) (by simp) (by simp)) ?_
 refine hgS 19 (dz 5 0) [0,2,3,4,5,9] [] [] [.ops [1,1,1,0] [1,2],.code [1,1,1,1]] [⟨ub,178,true,(ual_v1 sn mask e s L gP cp bg)⟩] [] w.heap.size ?_
 have hst:stateL L 2=1:=state_comm hL8.1 hall
 refine hcq (i6 1) 124 [(pt ub 0)] (some 10) [] tI rfl (fun wx hm=>by have h:=state_upd sn mask e s L hL8.2 gP cp ub base bg wx (hm.at_ 0 rfl) (hO.keptT (es:=[178]) hm.kept (fun y hy=>by subst hy; exact⟨178,by simp,blk_ty hU⟩) rfl); rw[hst]at h; exact h) fun z2 hz2=>?_
 refine hgE 16 (dz 7 4362600448) [0,2,3,4,5,6,14,15,16] [] [(ub,4,1)] [.code [1,1,1,1,0,1,0],.blk 0,.code [1,1,1,1,1]] ⟨[(0,(pt ub 0)),(2,.slice none 0 0),(3,.slice none 0 0),(4,.slice none 0 0),(5,.slice none 0 0),(6,i6 1),(14,.slice (some ⟨gP,0,none⟩) L.length cp),(15,i6 ((L.length:Nat):Int)),(16,i6 0)],[⟨ub,178,true,(ual_v1 sn mask e s L gP cp bg)⟩],[],z2⟩ ?_
 refine holds_loopW (w:=w) (S':=(fun y=>y=ub)) (asksComm_updI sn mask e s L gP cp ub bg w) L.length (by kernel_rfl) (fun W0 hm=>⟨⟨0,none,0,none,0,_,by omega,by omega,OwnR.nil _ _ _ _,OwnR.nil _ _ _ _,rfl⟩,hm⟩) ?_
 rintro m _ W1 ⟨i,A0,c0,B0,d0,z,hmi,hin,hO1cols,hO1asks,rfl⟩ hm1 J hJ
 by_cases h1:i<L.length
 rotate_left
 ·skip
  refine hgS 31 (dz 14 0x10508000100000) [2,3] [dF (((i:Int):Int)<((L.length:Nat):Int)),dT (((i:Int):Int)>0)] [(ub,5,1)] [.code [1,1,1,1,1,1,1]] [⟨ub,178,true,[i6 sn,i6 mask,i6 e,i6 s,.slice (some ⟨gP,0,none⟩) L.length cp,.bool true,.bool false]⟩] [] W1.heap.size ?_
  refine hrt [] [.slice A0 i c0,.slice B0 i d0] [] ?_
  intro wx hm
  have hni:i=L.length:=by omega
  have h5:=(hO1cols.keptT hm.kept (turned_tys hm1) rfl)
  have h6:=(hO1asks.keptT hm.kept (turned_tys hm1) rfl)
  rw[List.take_of_length_le (by omega)]at h5 h6
  subst hni
  exact⟨A0,c0,B0,d0,rfl,h5,h6,hm.at_ 0 rfl,(MemOk.bck hm1 hm).kept⟩
 obtain⟨q,hq⟩:∃q,L[i]?=some q:=⟨_,List.getElem?_eq_getElem h1⟩
 have hqo:=hall q (List.mem_of_getElem? hq)
 have hOw:=hO.keptT (es:=[178]) hm1.kept (fun y hy=>by subst hy; exact⟨178,by simp,blk_ty hU⟩) rfl
 refine holds_wins [⟨gP,0+i*4,[i6 q.col,sT q.blk,.bool q.opn,.bool q.don]⟩] (fun _ y hy=>?_) ?_
 ·simp only[List.mem_cons,List.not_mem_nil,or_false]at hy
  subst hy
  exact⟨fun⟨b,hb,_,he⟩=>(by obtain rfl:=List.mem_singleton.1 hb; exact absurd (tyIn_one (hOw.ty gP ⟨_,rfl,rfl⟩) (show TyIn W1 178 gP from(show ub=gP from he)▸blk_ty (hm1.at_ 0 rfl))) (by decide)),(hOw.own gP ⟨_,rfl,rfl⟩).2,own_elem part_len hOw hq⟩
 refine hgE 45 [oh0,oh1,oh2,⟨false,0,[⟨true,0,0,4⟩]⟩,oh0,(oA 1 0 4),oh0,oh0,oh0,oh0,oh0,oh0,⟨false,3,[]⟩,oh0,oh0,oh0,oh0,oh1,⟨true,0,[⟨false,1,3,1⟩]⟩,oh1,oh3,⟨false,3,[]⟩,oh1,oh0,oh0,(oA 1 0 1),oh0] [0,2,3,4,5,6,8,14,15,16,36,39] ([dT (((i:Int):Int)<((L.length:Nat):Int)),oE ((0:Int)<=(i:Int)∧(i:Int)<((L.length:Nat):Int))]++rE 7 fF++[tT,tT,tT,fF,tT,fF,oE ((!q.don)=true) (by rw[hqo.2]; rfl)]) [(gP,0+i*4,4),(W1.heap.size,0,4),(W1.heap.size,3,1),(W1.heap.size,0,1)] [.ops [1,1,1,1,0,1,0,0,1,1,0,0,1,1,0,0] [4,5],.code ual_n1,.blk 1,.code ual_n2,.inv J,.blk 0,.code [1,1,1,1,1]] ⟨[(0,(pt ub 0)),(2,.slice none 0 0),(3,.slice none 0 0),(4,.slice A0 i c0),(5,.slice B0 i d0),(6,i6 1),(8,(pt W1.heap.size 0)),(14,.slice (some ⟨gP,0,none⟩) L.length cp),(15,i6 ((L.length:Nat):Int)),(16,i6 (i:Int)),(36,.slice A0 i c0),(39,.slice (some ⟨W1.heap.size+1,0,none⟩) 1 1)],[⟨ub,178,true,(ual_v1 sn mask e s L gP cp bg)⟩,⟨W1.heap.size,180,true,[i6 q.col,sT q.blk,.bool q.opn,.bool q.don]⟩,⟨W1.heap.size+1,3,true,[i6 q.col]⟩],[⟨gP,0+i*4,[i6 q.col,sT q.blk,.bool q.opn,.bool q.don]⟩],W1.heap.size+2⟩ ?_
 refine holds_wins [] (fun _ _ h=>by cases h) ?_
 refine holds_opV (w:=w) (S':=(fun y=>y=ub)) (Y:=Option Addr×Nat) (dst:=(some 40)) (x:=Builtin.append_ #[25,25] 25 #[.slice A0 i c0,.slice (some ⟨W1.heap.size+1,0,none⟩) 1 1]) (fun yq=>.slice yq.1 (i+1) yq.2) (ual_b1 sn mask e s L gP cp ub bg q W1) (fun yq W_=>OwnR W_ w.heap.size 3 1 yq.1 (i+1) yq.2 (flatV colC (L.take (i+1)))∧OwnR W_ w.heap.size 59 9 B0 i d0 (flatV (commC sn e s) (L.take i))) (fun yq=>[(40,.slice yq.1 (i+1) yq.2),(0,(pt ub 0)),(2,.slice none 0 0),(3,.slice none 0 0),(4,.slice A0 i c0),(5,.slice B0 i d0),(6,i6 1),(8,(pt W1.heap.size 0)),(14,.slice (some ⟨gP,0,none⟩) L.length cp),(15,i6 ((L.length:Nat):Int)),(16,i6 (i:Int)),(36,.slice A0 i c0),(39,.slice (some ⟨W1.heap.size+1,0,none⟩) 1 1)]) (by kernel_rfl) (by kernel_rfl) (fun _=>rfl) (fun wx hm=>?_) (fun yq W2 hX2 hm2=>?_)
 ·have hO_:=(hO1cols.keptT hm.kept (turned_tys hm1) rfl)
  have hm0:=(MemOk.bck hm1 hm)
  obtain⟨A',cp',w',h1,h2,h3,h4⟩:=run_appendR (P:=Tryz.prog) wx w.heap.size 25 25 3 (i6 0) 1 8 A0 i c0 (flatV colC (L.take i)) ⟨W1.heap.size+1,0,none⟩ 1 1 [i6 q.col] (by kernel_rfl) (by kernel_rfl) (by kernel_rfl) (by decide) hO_ rfl (fun j x hj=>by rw[add_norm,Nat.zero_add]; exact(hm.at_ 2 rfl).at_ hj) (ones_all (by kernel_rfl)) (by omega) (by decide) hm0.kept.size
  rw[show[i6 q.col]=colC q from rfl,flatV_snoc,<-take_snocG hq]at h2
  exact⟨(A',cp'),w',h1,⟨h2,((hO1asks.keptT hm.kept (turned_tys hm1) rfl).keptT (es:=[3]) h3 (own_tys hO_) rfl)⟩,(hm0.sub (bk':=(ual_b1 sn mask e s L gP cp ub bg q W1)) (by simp)).offA (fun _ h=>h) h3 (fun y hy=>.inr (hO_.own y hy).1) (off_tys (hm0.sub (bk':=(ual_b1 sn mask e s L gP cp ub bg q W1)) (by simp)) (own_tys hO_) rfl)⟩
 obtain⟨A2,c2⟩:=yq
 obtain⟨hO2cols,hO2asks⟩:=hX2
 refine hgS 10 (dz 5 1073840128) [0,2,3,4,5,6,14,15,16,41,42,43,44] [] [(W1.heap.size,0,4)] [.ops ual_n1 [4,5,6,7],.blk 1,.code ual_n2,.inv J,.blk 0,.code [1,1,1,1,1]] (ual_b1 sn mask e s L gP cp ub bg q W1) [] W2.heap.size ?_
 refine hcq (.agg (List.toArray (ual_v2 sn e s))) _ _ (some 45) [] tI rfl (fun wx hm=>askComm_upd sn mask e s L gP cp ub bg q wx (hm.at_ 0 rfl)) fun z9 hz9=>?_
 refine hgE 4 [oh0] [0,2,3,4,5,6,14,15,16,41,46] [] [] [.ops ual_n1 [6,7],.blk 1,.code ual_n2,.inv J,.blk 0,.code [1,1,1,1,1]] ⟨[(0,(pt ub 0)),(2,.slice none 0 0),(3,.slice none 0 0),(4,.slice A2 (i+1) c2),(5,.slice B0 i d0),(6,i6 1),(14,.slice (some ⟨gP,0,none⟩) L.length cp),(15,i6 ((L.length:Nat):Int)),(16,i6 (i:Int)),(41,.slice B0 i d0),(46,.slice (some ⟨z9,0,none⟩) 1 1)],[⟨ub,178,true,(ual_v1 sn mask e s L gP cp bg)⟩,⟨W1.heap.size,180,true,[i6 q.col,sT q.blk,.bool q.opn,.bool q.don]⟩,⟨z9,59,true,(ual_v2 sn e s)⟩],[],z9+1⟩ ?_
 refine holds_opV (w:=w) (S':=(fun y=>y=ub)) (Y:=Option Addr×Nat) (dst:=(some 47)) (x:=Builtin.append_ #[181,181] 181 #[.slice B0 i d0,.slice (some ⟨z9,0,none⟩) 1 1]) (fun yq=>.slice yq.1 (i+1) yq.2) (ual_b1 sn mask e s L gP cp ub bg q W1) (fun yq W_=>OwnR W_ w.heap.size 3 1 A2 (i+1) c2 (flatV colC (L.take (i+1)))∧OwnR W_ w.heap.size 59 9 yq.1 (i+1) yq.2 (flatV (commC sn e s) (L.take (i+1)))) (fun yq=>[(47,.slice yq.1 (i+1) yq.2),(0,(pt ub 0)),(2,.slice none 0 0),(3,.slice none 0 0),(4,.slice A2 (i+1) c2),(5,.slice B0 i d0),(6,i6 1),(14,.slice (some ⟨gP,0,none⟩) L.length cp),(15,i6 ((L.length:Nat):Int)),(16,i6 (i:Int)),(41,.slice B0 i d0),(46,.slice (some ⟨z9,0,none⟩) 1 1)]) (by kernel_rfl) (by kernel_rfl) (fun _=>rfl) (fun wx hm=>?_) (fun yq W3 hX3 hm3=>?_)
 ·have hO_:=(hO2asks.keptT hm.kept (turned_tys hm2) rfl)
  have hm0:=(MemOk.bck hm2 hm)
  obtain⟨A',cp',w',h1,h2,h3,h4⟩:=run_appendR (P:=Tryz.prog) wx w.heap.size 181 181 59 (.agg #[i6 0,i6 0,i6 0,i6 0,i6 0,i6 0,i6 0,i6 0,sT ⟨#[]⟩]) 9 80 B0 i d0 (flatV (commC sn e s) (L.take i)) ⟨z9,0,none⟩ 1 1 (ual_v2 sn e s) (by kernel_rfl) (by kernel_rfl) (by kernel_rfl) (by decide) hO_ rfl (fun j x hj=>by rw[add_norm,Nat.zero_add]; exact(hm.at_ 2 rfl).at_ hj) (ones_all (by kernel_rfl)) (by omega) (by decide) hm0.kept.size
  rw[show(ual_v2 sn e s)=(commC sn e s) q from rfl,flatV_snoc,<-take_snocG hq]at h2
  exact⟨(A',cp'),w',h1,⟨((hO2cols.keptT hm.kept (turned_tys hm2) rfl).keptT (es:=[59]) h3 (own_tys hO_) rfl),h2⟩,(hm0.sub (bk':=(ual_b1 sn mask e s L gP cp ub bg q W1)) (by simp)).offA (fun _ h=>h) h3 (fun y hy=>.inr (hO_.own y hy).1) (off_tys (hm0.sub (bk':=(ual_b1 sn mask e s L gP cp ub bg q W1)) (by simp)) (own_tys hO_) rfl)⟩
 obtain⟨A3,c3⟩:=yq
 obtain⟨hO3cols,hO3asks⟩:=hX3
 refine holds_go (f:=10) (hs:=[oh0,oh2,oh0]) [0,2,3,4,5,6,14,15,16] [true,false] (show _=some (Res.mk [inR .i64 (((i:Int)+1))] (dupR []) [.inv J,.blk 0,.code [1,1,1,1,1]] ⟨[(0,(pt ub 0)),(2,.slice none 0 0),(3,.slice none 0 0),(4,.slice A2 (i+1) c2),(5,.slice A3 (i+1) c3),(6,i6 1),(14,.slice (some ⟨gP,0,none⟩) L.length cp),(15,i6 ((L.length:Nat):Int)),(16,i6 ((i:Int)+1))],[⟨ub,178,true,(ual_v1 sn mask e s L gP cp bg)⟩],[],W3.heap.size⟩)by kernel_rfl) ⟨in64 (by omega),trivial⟩ ?_
 rw[<-cast_succ i]
 intro a_ w9 hf hm
 exact hJ (m-1) _ a_ w9 (by omega) ⟨i+1,A2,c2,A3,c3,_,by omega,by omega,(hO3cols.keptT hm.kept (turned_tys hm3) rfl),(hO3asks.keptT hm.kept (turned_tys hm3) rfl),rfl⟩ hf (MemOk.bck hm3 hm)
end Go.Proofs.YtcmpkkapkdlfhaaGreat
