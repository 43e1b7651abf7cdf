import Derived.Test.YtcmpkkapkdlfhaaGreatPil2
import Derived.Test.YtcmpkkapkdlfhaaGreatUpdate3
namespace Go.Proofs.YtcmpkkapkdlfhaaGreat
open Go.RowKit
theorem new_own(sn e s:Int)(n:Nat)(C:List Int)(B:List ByteArray)(gC gB cC cB base:Nat)(hn:0<n∧n<=6)(hC:C.length=n)(hB:B.length=n)(hB16:∀b∈B,b.size=16)(hC6:∀c∈C,0<=c∧c<6)(hCs:∀(i:Nat)(c d:Int),C[i]?=some c->C[i+1]?=some d->c<d)(hsn:0<=sn∧sn<8)(he:1<=e∧e<=16777215)(hs:1<=s∧s<=16777215)(w:World)(hb:base<=w.heap.size)(hgC:gC<w.heap.size)(hcC:∀(j:Nat)(v:Value),(C.map (Value.int .i64))[j]?=some v->w.cell? ⟨gC,0+j,none⟩=some v)(hgB:gB<w.heap.size)(hcB:∀(j:Nat)(v:Value),(strsV B)[j]?=some v->w.cell? ⟨gB,0+j,none⟩=some v) :
  Calls Tryz.prog 88 #[i6 sn,.agg #[i6 e,i6 s],.slice (some ⟨gC,0,none⟩) n cC,.slice (some ⟨gB,0,none⟩) n cB] w (fun e' w'=>∃ub gP cP,e'=.returned (.tuple #[.pointer (some ⟨ub,0,none⟩),i6 0])∧OwnR w' base 178 7 (some ⟨ub,0,none⟩) 1 1 (updC sn (mskC C) e s (.slice (some ⟨gP,0,none⟩) n cP) false)∧OwnR w' base 180 4 (some ⟨gP,0,none⟩) n cP (flatV PartM.cells (partsL C B))∧Kept (fun _=>False) w w'):=by
 refine(new_upd sn e s n C B gC gB cC cB hn hC hB hB16 hC6 hCs hsn he hs w hgC hcC hgB hcB).mono fun e' w' hq=>?_
 obtain⟨ub,A,cp,h1,h2,h3,h4,h5⟩:=hq
 have hl:=partsL_len hC hB
 obtain⟨p,hp⟩:∃p,(partsL C B)[0]?=some p:=⟨_,List.getElem?_eq_getElem (by omega)⟩
 obtain⟨gP,rfl,_⟩:=OwnR.cell (j:=0*4+0) (v:=i6 p.col) h4 (flatV_get (f:=PartM.cells) part_len hp (by decide))
 exact⟨ub,gP,cp,h1,blk_own (Nat.le_trans hb h2) h3 rfl,h4.below hb,h5⟩
theorem prep_own(sn mask e s:Int)(L:List PartM)(hL8:0<L.length∧L.length<=8)(gP cP ub base:Nat)(bg:Bool)(hall:∀q∈L,q.opn=false)(w:World)(hU:OwnR w base 178 7 (some ⟨ub,0,none⟩) 1 1 (updC sn mask e s (.slice (some ⟨gP,0,none⟩) L.length cP) bg))(hO:OwnR w base 180 4 (some ⟨gP,0,none⟩) L.length cP (flatV PartM.cells L))(hb:base<=w.heap.size) :
  Calls Tryz.prog 113 #[.pointer (some ⟨ub,0,none⟩)] w (fun e' w'=>∃A1 c1 A2 c2,e'=.returned (.tuple #[.slice A1 L.length c1,.slice A2 L.length c2])∧OwnR w' base 3 1 A1 L.length c1 (flatV colC L)∧OwnR w' base 59 9 A2 L.length c2 (flatV (fun p_=>(prepQ sn e s mask p_).cells) L)∧OwnR w' base 178 7 (some ⟨ub,0,none⟩) 1 1 (updC sn mask e s (.slice (some ⟨gP,0,none⟩) L.length cP) true)∧Kept (ownS (some ⟨ub,0,none⟩)) w w'):=by
 refine(asksPrep_upd sn mask e s L hL8 gP cP ub base bg hall w (own_blk hU) hO).mono fun e' w' hq=>?_
 obtain⟨A,cA,B,cB,h1,h2,h3,h4,h5⟩:=hq
 exact⟨A,cA,B,cB,h1,h2.below hb,h3.below hb,blk_own (hU.own ub ⟨_,rfl,rfl⟩).1 h4 rfl,h5.mono (fun y _ h=>⟨_,rfl,h⟩)⟩
theorem comm_own(sn mask e s:Int)(L:List PartM)(hL8:0<L.length∧L.length<=8)(gP cP ub base:Nat)(bg:Bool)(hall:∀q∈L,q.opn=true∧q.don=false)(w:World)(hU:OwnR w base 178 7 (some ⟨ub,0,none⟩) 1 1 (updC sn mask e s (.slice (some ⟨gP,0,none⟩) L.length cP) bg))(hO:OwnR w base 180 4 (some ⟨gP,0,none⟩) L.length cP (flatV PartM.cells L))(hb:base<=w.heap.size) :
  Calls Tryz.prog 113 #[.pointer (some ⟨ub,0,none⟩)] w (fun e' w'=>∃A1 c1 A2 c2,e'=.returned (.tuple #[.slice A1 L.length c1,.slice A2 L.length c2])∧OwnR w' base 3 1 A1 L.length c1 (flatV colC L)∧OwnR w' base 59 9 A2 L.length c2 (flatV (fun p_=>(commQ sn e s p_).cells) L)∧OwnR w' base 178 7 (some ⟨ub,0,none⟩) 1 1 (updC sn mask e s (.slice (some ⟨gP,0,none⟩) L.length cP) true)∧Kept (ownS (some ⟨ub,0,none⟩)) w w'):=by
 refine(asksComm_upd sn mask e s L hL8 gP cP ub base bg hall w (own_blk hU) hO).mono fun e' w' hq=>?_
 obtain⟨A,cA,B,cB,h1,h2,h3,h4,h5⟩:=hq
 exact⟨A,cA,B,cB,h1,h2.below hb,h3.below hb,blk_own (hU.own ub ⟨_,rfl,rfl⟩).1 h4 rfl,h5.mono (fun y _ h=>⟨_,rfl,h⟩)⟩
end Go.Proofs.YtcmpkkapkdlfhaaGreat
namespace Go.Proofs.YtcmpkkapkdlfhaaGreat
open Go.RowKit
set_option maxHeartbeats 4000000
set_option maxRecDepth 100000
def TakeI(n:Nat)(gK:Nat)(cK:Nat)(w:World)  (m:Nat) (st:St) (W0:World):Prop:=
 ∃(i:Nat)(A0:Option Addr)(c0:Nat)(z:Nat),m+i=n∧i<=n∧OwnR W0 w.heap.size 3 1 A0 i c0 (flatV natC ((List.range n).take i))∧st=⟨[(0,.slice (some ⟨gK,0,none⟩) n cK),(2,i6 63),(6,.slice none 0 0),(7,.slice A0 i c0),(13,i6 (n:Int)),(14,i6 (i:Int))],[],[],z⟩
theorem taking_all(n:Nat)(gK gR cK cR:Nat)(hn:n<=6)(w:World)(hkg:gK<w.heap.size)(hkc:∀(j:Nat)(v:Value),(List.replicate n (Value.bool true))[j]?=some v->w.cell? ⟨gK,0+j,none⟩=some v) :
  Calls Tryz.prog 151 #[.slice (some ⟨gK,0,none⟩) n cK,.slice (some ⟨gR,0,none⟩) n cR,i6 63] w (fun e' w'=>∃A c,e'=.returned (.slice A n c)∧OwnR w' w.heap.size 3 1 A n c (flatV natC (List.range n))∧Kept (fun _=>False) w w'):=by
 refine cH (S:=(fun _=>False)) (n:=34) Tryz.func151 (MemOk.none w _) ?_
 refine hgE 18 (dz 6 0) [0,2,6,7,10,12] [] [] [.ops [1,1,0,0] [4,5],.code [1,1,0,1],.code [1,1,1]] ⟨[(0,.slice (some ⟨gK,0,none⟩) n cK),(2,i6 63),(6,.slice none 0 0),(7,.slice none 0 0),(10,i6 (n:Int)),(12,i6 (n:Int))],[],[],w.heap.size⟩ ?_
 refine holds_opR (dst:=(some 13)) (x:=Builtin.min_ #[3,3,3] 3 #[i6 (n:Int),i6 (n:Int),i6 6]) (i6 (n:Int)) (by kernel_rfl) (by kernel_rfl) rfl (fun wx hm=>?_) ?_
 ·rw[run_min3,show minZ (minZ (n:Int) (n:Int)) 6=(n:Int)by unfold minZ; split<;>split<;>omega]
 refine hgE 6 [oh0] [0,2,6,7,13,14] [] [] [.code [1,1,0,1,0],.blk 0,.code [1,1,1]] ⟨[(0,.slice (some ⟨gK,0,none⟩) n cK),(2,i6 63),(6,.slice none 0 0),(7,.slice none 0 0),(13,i6 (n:Int)),(14,i6 0)],[],[],w.heap.size⟩ ?_
 refine holds_loopW (w:=w) (S':=fun _=>False) (TakeI n gK cK w) n (by kernel_rfl) (fun W0 hm=>⟨⟨0,none,0,_,by omega,by omega,OwnR.nil _ _ _ _,rfl⟩,hm⟩) ?_
 rintro m _ W1 ⟨i,A0,c0,z,hmi,hin,hO1cols,rfl⟩ hm1 J hJ
 by_cases hlt:i<n
 rotate_left
 ·skip
  refine hgS 15 (dz 4 0) [6] [dF (((i:Int):Int)<(n:Int))] [] [.code [1,1,1,1]] [] [] W1.heap.size ?_
  refine hrt [] [.slice A0 i c0] [] ?_
  intro wx hm
  have hni:i=n:=by omega
  have h5:=(hO1cols.keptT hm.kept (turned_tys hm1) rfl)
  rw[List.take_of_length_le (by rw[List.length_range]; omega)]at h5
  subst hni
  exact⟨A0,c0,rfl,h5,(MemOk.bck hm1 hm).kept⟩
 refine holds_wins [⟨gK,0+i*1,[.bool true]⟩] (fun _ y hy=>?_) ?_
 ·simp only[List.mem_cons,List.not_mem_nil,or_false]at hy
  subst hy
  exact⟨(fun⟨_,h,_⟩=>by cases h),Nat.lt_of_lt_of_le hkg hm1.kept.size,rep_cell (fun j v hj=>cell_kept hm1.kept hkg (hkc j v hj)) hlt⟩
 refine hgE 36 [oh0,oh1,oh0,oh0,oh0,oh0,oh2,⟨false,0,[⟨true,0,0,1⟩]⟩,oh0,oh1,oh1,⟨true,1,[]⟩,⟨true,1,[]⟩,oh1,oh3,oh1,oh0,oh0,oh0] [0,2,6,7,13,14,28,30] [dT (((i:Int):Int)<(n:Int)),oE ((0:Int)<=(i:Int)∧(i:Int)<((n:Nat):Int)),tT,tT,tT,oE ((0:Int)<=(i:Int)∧(i:Int)<=((IntKind.bits .i64:Nat):Int)) (⟨by omega,by show _<=((64:Nat):Int); omega⟩),tT,oE ((0:Int)<=(63/((2^Int.toNat (i:Int):Nat):Int))∧(0:Int)<=1∧(63/((2^Int.toNat (i:Int):Nat):Int))<=IntKind.max .i64∧1<=IntKind.max .i64) (bits_ob64 ⟨Int.ediv_nonneg (by omega) (Int.natCast_nonneg _),Int.le_trans (Int.ediv_le_self _ (by omega)) (by omega)⟩ (by omega)),tT,tT,oE (((andZ (63/((2^Int.toNat (i:Int):Nat):Int)) 1)==1)=true) (beq_iff_eq.2 (and63 (by omega)))] [(gK,0+i*1,1)] [.ops [1,1,0,1,0,0,1,1,0,0,1,1,0] [3,4],.blk 1,.code [1,1,0,1,0,0,1,1,1],.inv J,.blk 0,.code [1,1,1]] ⟨[(0,.slice (some ⟨gK,0,none⟩) n cK),(2,i6 63),(6,.slice none 0 0),(7,.slice A0 i c0),(13,i6 (n:Int)),(14,i6 (i:Int)),(28,.slice A0 i c0),(30,.slice (some ⟨W1.heap.size,0,none⟩) 1 1)],[⟨W1.heap.size,3,true,[i6 (i:Int)]⟩],[⟨gK,0+i*1,[.bool true]⟩],W1.heap.size+1⟩ ?_
 refine holds_wins [] (fun _ _ h=>by cases h) ?_
 refine holds_opV (w:=w) (S':=(fun _=>False)) (Y:=Option Addr×Nat) (dst:=(some 31)) (x:=Builtin.append_ #[25,25] 25 #[.slice A0 i c0,.slice (some ⟨W1.heap.size,0,none⟩) 1 1]) (fun yq=>.slice yq.1 (i+1) yq.2) [] (fun yq W_=>OwnR W_ w.heap.size 3 1 yq.1 (i+1) yq.2 (flatV natC ((List.range n).take (i+1)))) (fun yq=>[(31,.slice yq.1 (i+1) yq.2),(0,.slice (some ⟨gK,0,none⟩) n cK),(2,i6 63),(6,.slice none 0 0),(7,.slice A0 i c0),(13,i6 (n:Int)),(14,i6 (i:Int)),(28,.slice A0 i c0),(30,.slice (some ⟨W1.heap.size,0,none⟩) 1 1)]) (by kernel_rfl) (by kernel_rfl) (fun _=>rfl) (fun wx hm=>?_) (fun yq W2 hX2 hm2=>?_)
 ·have hO_:=(hO1cols.keptT hm.kept (turned_tys hm1) rfl)
  have hm0:=(MemOk.bck hm1 hm)
  obtain⟨A',cp',w',h1,h2,h3,h4⟩:=run_appendR (P:=Tryz.prog) wx w.heap.size 25 25 3 (i6 0) 1 8 A0 i c0 (flatV natC ((List.range n).take i)) ⟨W1.heap.size,0,none⟩ 1 1 [i6 (i:Int)] (by kernel_rfl) (by kernel_rfl) (by kernel_rfl) (by decide) hO_ rfl (fun j x hj=>by rw[add_norm,Nat.zero_add]; exact(hm.at_ 0 rfl).at_ hj) (ones_all (by kernel_rfl)) (by omega) (by decide) hm0.kept.size
  rw[show[i6 (i:Int)]=natC i from rfl,flatV_snoc,<-range_take hlt]at h2
  exact⟨(A',cp'),w',h1,h2,(hm0.sub (bk':=[]) (by simp)).offA (fun _ h=>h) h3 (fun y hy=>.inr (hO_.own y hy).1) (off_tys (hm0.sub (bk':=[]) (by simp)) (own_tys hO_) rfl)⟩
 obtain⟨A2,c2⟩:=yq
 have hO2cols:=hX2
 refine hgE 10 (dz 3 32) [0,2,6,7,13,14] [n64 (((i:Int)+1))] [] [.inv J,.blk 0,.code [1,1,1]] ⟨[(0,.slice (some ⟨gK,0,none⟩) n cK),(2,i6 63),(6,.slice none 0 0),(7,.slice A2 (i+1) c2),(13,i6 (n:Int)),(14,i6 ((i:Int)+1))],[],[],W2.heap.size⟩ ?_
 rw[<-cast_succ i]
 intro a_ w9 hf hm
 exact hJ (m-1) _ a_ w9 (by omega) ⟨i+1,A2,c2,_,by omega,by omega,(hO2cols.keptT hm.kept (turned_tys hm2) rfl),rfl⟩ hf (MemOk.bck hm2 hm)
theorem isOpen_any  (w:World) :
  Calls Tryz.prog 152 #[] w (RetK (.agg #[.func (.func 156) #[] #[]]) w):=by
 refine cH (S:=(fun _=>False)) (n:=2) Tryz.func152 (MemOk.none w _) ?_
 refine hgS 12 (dz 3 16779264) [0] [] [(w.heap.size,0,1)] [.code [1,1]] [⟨w.heap.size,220,true,[.func (.func 156) #[] #[]]⟩] [] (w.heap.size+1) ?_
 refine hrt [[⟨false,0,0,1⟩]] [.agg #[.func (.func 156) #[] #[]]] [(w.heap.size,0,1)] ?_
 intro wx hm
 exact⟨rfl,hm.kept⟩
def siq_v1(r:RecM):List Value:=[.bool r.used,i6 r.fence,i6 r.de,i6 r.ds,sT r.block,.bool r.op,i6 r.ie,i6 r.is,i6 r.mask,sT r.staged]
theorem isOpenQ_any(r:RecM)(w:World) :
  Calls Tryz.prog 156 #[.agg #[.bool r.used,i6 r.fence,i6 r.de,i6 r.ds,sT r.block,.bool r.op,i6 r.ie,i6 r.is,i6 r.mask,sT r.staged]] w (RetK (.bool r.op) w):=by
 refine cH (S:=(fun _=>False)) (n:=5) Tryz.func156 (MemOk.none w _) ?_
 refine hgS 14 (dz 5 273711104) [2] [] [(w.heap.size,5,1)] [.code [1,1]] [⟨w.heap.size,61,true,(siq_v1 r)⟩] [] (w.heap.size+1) ?_
 refine hrt [] [.bool r.op] [] ?_
 intro wx hm
 exact⟨rfl,hm.kept⟩
def sso_v1(r:RecM):List Value:=(siq_v1 r)
def sso_n1:List Nat:=[1,1,0,1,0,0,1,1,0,0,1,0]
@[simp] def sso_b1(w:World):List Bk:=[⟨w.heap.size,220,true,[.func (.func 156) #[] #[]]⟩]
def SoI(n:Nat)(gR:Nat)(gC:Nat)(cR:Nat)(cC:Nat)(w:World)  (m:Nat) (st:St):Prop:=
 ∃(i:Nat)(z:Nat),m+i=n∧st=⟨[(1,.slice (some ⟨gR,0,none⟩) n cR),(5,(pt w.heap.size 0)),(6,.slice none 0 0),(7,.slice none 0 0),(10,.slice (some ⟨gC,0,none⟩) n cC),(11,i6 (n:Int)),(12,i6 (i:Int))],(sso_b1 w),[],z⟩
theorem sso_q5(n:Nat)(gR:Nat)(gC:Nat)(cR:Nat)(cC:Nat)(i:Nat)(z:Nat)(r:RecM)(w:World):Out.prune [1,5,6,7,9,10,11,12,22] (qListG Tryz.prog 29 w (fun _=>False) (opsOf (getCode (bodyOf Tryz.f150) sso_n1)) (opsOf (getCode (bodyOf Tryz.f150) sso_n1)).toList ⟨[(1,.slice (some ⟨gR,0,none⟩) n cR),(5,(pt w.heap.size 0)),(6,.slice none 0 0),(7,.slice none 0 0),(9,i6 (i:Int)),(10,.slice (some ⟨gC,0,none⟩) n cC),(11,i6 (n:Int)),(12,i6 (i:Int))],(sso_b1 w),[⟨gC,0+i*1,[i6 (i:Int)]⟩,⟨gR,0+i*10,(sso_v1 r)⟩],z⟩ [(false,.op oh0),(false,.op (oA 0 0 1)),(false,.op oh0),(false,.op oh0),(false,.op oh2),(false,.op ⟨false,0,[⟨true,1,0,10⟩]⟩),(false,.call (.bool r.op))])=some ⟨[(0:Int)<=(i:Int)∧(i:Int)<((n:Nat):Int),∀w',MemC w (fun _=>False) (sso_b1 w) [⟨gC,0+i*1,[i6 (i:Int)]⟩,⟨gR,0+i*10,(sso_v1 r)⟩] z w'->Calls Tryz.prog 156 #[.agg (List.toArray (sso_v1 r))] w' (RetK (.bool r.op) w')],dupR [(w.heap.size,0,1),(gR,0+i*10,10)],⟨[(1,.slice (some ⟨gR,0,none⟩) n cR),(5,(pt w.heap.size 0)),(6,.slice none 0 0),(7,.slice none 0 0),(9,i6 (i:Int)),(10,.slice (some ⟨gC,0,none⟩) n cC),(11,i6 (n:Int)),(12,i6 (i:Int)),(22,.bool r.op)],(sso_b1 w),[⟨gC,0+i*1,[i6 (i:Int)]⟩,⟨gR,0+i*10,(sso_v1 r)⟩],z⟩⟩:=by kernel_rfl
theorem so_none(n:Nat)(R:List RecM)(gC gR cC cR:Nat)(hn:n<=6)(hRn:R.length=n)(hop:∀r∈R,r.op=false)(w:World)(hcg:gC<w.heap.size)(hcc:∀(j:Nat)(v:Value),(flatV natC (List.range n))[j]?=some v->w.cell? ⟨gC,0+j,none⟩=some v)(hrg:gR<w.heap.size)(hrc:∀(j:Nat)(v:Value),(flatV RecM.cells R)[j]?=some v->w.cell? ⟨gR,0+j,none⟩=some v) :
  Calls Tryz.prog 150 #[.slice (some ⟨gC,0,none⟩) n cC,.slice (some ⟨gR,0,none⟩) n cR,.agg #[.func (.func 156) #[] #[]]] w (RetK (.slice none 0 0) w):=by
 refine cH (S:=(fun _=>False)) (n:=29) Tryz.func150 (MemOk.none w _) ?_
 refine hgE 20 (dz 6 0) [1,5,6,7,10,11,12] [] [] [.code [1,1,0,1,0],.blk 0,.code [1,1,1]] ⟨[(1,.slice (some ⟨gR,0,none⟩) n cR),(5,(pt w.heap.size 0)),(6,.slice none 0 0),(7,.slice none 0 0),(10,.slice (some ⟨gC,0,none⟩) n cC),(11,i6 (n:Int)),(12,i6 0)],(sso_b1 w),[],w.heap.size+1⟩ ?_
 refine holds_loop (SoI n gR gC cR cC w) n (by kernel_rfl) ⟨0,_,by omega,rfl⟩ ?_
 rintro m _ ⟨i,z,hmi,rfl⟩ J hJ
 by_cases h1:i<n
 rotate_left
 ·skip
  refine hgS 15 (dz 4 0) [6] [dF (((i:Int):Int)<(n:Int))] [] [.code [1,1,1,1]] (sso_b1 w) [] z ?_
  refine hrt [] [.slice none 0 0] [] ?_
  intro wx hm
  exact⟨rfl,hm.kept⟩
 obtain⟨r,hr⟩:∃r,R[i]?=some r:=⟨_,List.getElem?_eq_getElem (by omega)⟩
 have hro:=hop r (List.mem_of_getElem? hr)
 refine holds_wins [⟨gC,0+i*1,[i6 (i:Int)]⟩,⟨gR,0+i*10,(sso_v1 r)⟩] (fun _ y hy=>?_) ?_
 ·simp only[List.mem_cons,List.not_mem_nil,or_false]at hy
  rcases hy with rfl|rfl
  ·exact⟨fun h=>h,hcg,flat_cell (f:=natC) (fun _=>rfl) hcc (show(List.range n)[i]?=some i by simp[h1])⟩
  ·exact⟨fun h=>h,hrg,flat_cell rec_len hrc hr⟩
 refine hgE 19 [oh0,oh1,oh2,⟨false,0,[⟨true,0,0,1⟩]⟩,oh0] [1,5,6,7,9,10,11,12] [dT (((i:Int):Int)<(n:Int)),oE ((0:Int)<=(i:Int)∧(i:Int)<((n:Nat):Int))] [(gC,0+i*1,1)] [.code sso_n1,.code [1,1,0,1,0,0,1,1,0,0,1,1],.blk 1,.code [1,1,0,1,0,0,1,1,1],.inv J,.blk 0,.code [1,1,1]] ⟨[(1,.slice (some ⟨gR,0,none⟩) n cR),(5,(pt w.heap.size 0)),(6,.slice none 0 0),(7,.slice none 0 0),(9,i6 (i:Int)),(10,.slice (some ⟨gC,0,none⟩) n cC),(11,i6 (n:Int)),(12,i6 (i:Int))],(sso_b1 w),[⟨gC,0+i*1,[i6 (i:Int)]⟩,⟨gR,0+i*10,(sso_v1 r)⟩],z⟩ ?_
 refine holds_quietG _ _ (by kernel_rfl) (by kernel_rfl) (by kernel_rfl) (sso_q5 n gR gC cR cC i z r w) ⟨⟨by omega,by omega⟩,(fun wx hm=>isOpenQ_any r wx),trivial⟩ fun z5 hz5=>?_
 replace hz5:z<=z5:=hz5
 refine holds_go (f:=10) (hs:=[oh0,oh2,oh0]) [1,5,6,7,10,11,12] [true] (show _=some (Res.mk [r.op=false,inR .i64 (((i:Int)+1))] (dupR []) [.inv J,.blk 0,.code [1,1,1]] ⟨[(1,.slice (some ⟨gR,0,none⟩) n cR),(5,(pt w.heap.size 0)),(6,.slice none 0 0),(7,.slice none 0 0),(10,.slice (some ⟨gC,0,none⟩) n cC),(11,i6 (n:Int)),(12,i6 ((i:Int)+1))],(sso_b1 w),[⟨gC,0+i*1,[i6 (i:Int)]⟩,⟨gR,0+i*10,(sso_v1 r)⟩],z5⟩)by kernel_rfl) ⟨hro,in64 (by omega),trivial⟩ ?_
 refine holds_wins [] (fun _ _ h=>by cases h) ?_
 exact hJ (m-1) _ (by omega) ⟨i+1,_,by omega,by rw[<-cast_succ i]⟩
theorem settleAsks_none(sn e:Int)(n:Nat)(R:List RecM)(gK gR cK cR:Nat)(hn:n<=6)(hn0:0<n)(hRn:R.length=n)(hop:∀r∈R,r.op=false)(w:World)(hkg:gK<w.heap.size)(hkc:∀(j:Nat)(v:Value),(List.replicate n (Value.bool true))[j]?=some v->w.cell? ⟨gK,0+j,none⟩=some v)(hrg:gR<w.heap.size)(hrc:∀(j:Nat)(v:Value),(flatV RecM.cells R)[j]?=some v->w.cell? ⟨gR,0+j,none⟩=some v) :
  Calls Tryz.prog 141 #[i6 sn,i6 e,.slice (some ⟨gK,0,none⟩) n cK,.slice (some ⟨gR,0,none⟩) n cR] w (RetK (.tuple #[.slice none 0 0,.slice none 0 0]) w):=by
 refine cH (S:=(fun _=>False)) (n:=56) Tryz.func141 (MemOk.none w _) ?_
 refine hgS 12 (dz 4 0) [0,1,2,3,8,9,15,16] [] [] [.ops [1,0] [2,3,4,5,6],.code [1,1]] [] [] w.heap.size ?_
 refine hcV (w:=w) (S':=(fun _=>False)) (Y:=Option Addr×Nat) (fun y_=>.slice y_.1 n y_.2) (fun y_=>[]) (fun y_ W_=>OwnR W_ w.heap.size 3 1 y_.1 n y_.2 (flatV natC (List.range n))) (show _=some (151,[.slice (some ⟨gK,0,none⟩) n cK,.slice (some ⟨gR,0,none⟩) n cR,i6 63],some 17,[])by kernel_rfl) tI (fun wx hm=>?_) (fun y_ W1 hX1 hm1=>?_)
 ·refine(taking_all n gK gR cK cR hn wx (Nat.lt_of_lt_of_le hkg hm.kept.size) (fun j v hj=>cell_kept hm.kept hkg (hkc j v hj))).mono fun e' w' hq=>?_
  obtain⟨A',c',h1,h2,h3⟩:=hq
  exact⟨(A',c'),h1,h2.below hm.kept.size,hm.offA (fun _ h=>h) h3 (fun _ h=>h.elim) (fun _ _ h=>h)⟩
 obtain⟨A1,c1⟩:=y_
 obtain⟨gC,rfl,_,hcg⟩:∃g,A1=some ⟨g,0,none⟩∧w.heap.size<=g∧g<W1.heap.size:=by
  obtain⟨g,h1,h2,h3,_⟩:=hX1.cell (j:=0) (v:=i6 ((0:Nat):Int)) (flatV_get (f:=natC) (z:=1) (fun _=>rfl) (l:=List.range n) (i:=0) (j:=0) (x:=0) (by rw[List.getElem?_range hn0]) (by omega))
  exact⟨g,h1,h2,h3⟩
 refine hgS 4 [oh0] [0,1,2,3,8,9,17,18] [] [] [.ops [1,0] [4,5,6],.code [1,1]] [] [] W1.heap.size ?_
 refine hcq (.agg #[.func (.func 156) #[] #[]]) _ _ (some 19) [] tI rfl (fun wx hm=>isOpen_any wx) fun z4 hz4=>?_
 refine hgS 3 [] [0,1,2,3,8,9,17,18,19] [] [] [.ops [1,0] [5,6],.code [1,1]] [] [] z4 ?_
 refine hcq (.slice none 0 0) 150 [.slice (some ⟨gC,0,none⟩) n c1,.slice (some ⟨gR,0,none⟩) n cR,.agg #[.func (.func 156) #[] #[]]] (some 20) [] tI rfl (fun wx hm=>so_none n R gC gR c1 cR hn hRn hop wx (Nat.lt_of_lt_of_le hcg hm.kept.size) (fun j v hj=>by obtain⟨g,h1,_,_,h4⟩:=(hX1.kept hm.kept (fun _ _ ⟨_,h,_⟩=>by cases h)).cell hj; cases h1; rw[Nat.zero_add]; exact h4) (Nat.lt_of_lt_of_le hrg (MemOk.bck hm1 hm).kept.size) (fun j v hj=>cell_kept (MemOk.bck hm1 hm).kept hrg (hrc j v hj))) fun z6 hz6=>?_
 refine hgE 17 (dz 5 0) [0,1,2,3,8,9,10,11,21,22,23] [] [] [.code [1,1,1,0,1,0],.blk 0,.code [1,1,1,1]] ⟨[(0,i6 sn),(1,i6 e),(2,.slice (some ⟨gK,0,none⟩) n cK),(3,.slice (some ⟨gR,0,none⟩) n cR),(8,.slice none 0 0),(9,.slice none 0 0),(10,.slice none 0 0),(11,.slice none 0 0),(21,.slice none 0 0),(22,i6 0),(23,i6 0)],[],[],z6⟩ ?_
 refine holds_loop (fun m st=>m=0∧st=⟨[(0,i6 sn),(1,i6 e),(2,.slice (some ⟨gK,0,none⟩) n cK),(3,.slice (some ⟨gR,0,none⟩) n cR),(8,.slice none 0 0),(9,.slice none 0 0),(10,.slice none 0 0),(11,.slice none 0 0),(21,.slice none 0 0),(22,i6 0),(23,i6 0)],[],[],z6⟩) 0 (by kernel_rfl) ⟨rfl,rfl⟩ ?_
 rintro m _ ⟨rfl,rfl⟩ J hJ
 refine hgS 17 (dz 6 0) [8,9] [fF] [] [.code [1,1,1,1,1]] [] [] z6 ?_
 refine hrt [] [.slice none 0 0,.slice none 0 0] [] ?_
 intro wx hm
 exact⟨rfl,(MemOk.bck hm1 hm).kept⟩
theorem plan_right(N S c:Int)(hg:3<=N∧N<=6∧1<=S∧S<=8)(h:0<=c∧c<N-1)(w:World) :
  Calls Tryz.prog 82 #[.agg #[i6 N,i6 S],i6 c,i6 (-1)] w (RetK (.bool true) w):=by
 refine cH (S:=(fun _=>False)) (n:=26) Tryz.func82 (MemOk.none w _) ?_
 refine hgS 11 (dz 3 33556480) [1,2,6,8] [] [(w.heap.size,0,2)] [.ops [1,0] [1,2],.code [1,1]] [⟨w.heap.size,23,true,[i6 N,i6 S]⟩] [] (w.heap.size+1) ?_
 refine hcq (i6 (N-1)) _ _ (some 9) [] tI rfl (fun wx hm=>plat_parity N S hg wx) fun z2 hz2=>?_
 refine hgS 25 (dz 18 0x31110311031110000) [6] (rE 4 (dT ((c:Int)>=0))++rE 3 (dT ((c:Int)<(N-1)))++[tT,tT,tT,tT]) [] [.code [1,1,1]] [⟨w.heap.size,23,true,[i6 N,i6 S]⟩] [] z2 ?_
 refine hrt [] [.bool (decide (((-1):Int)<=(N-1)))] [] ?_
 intro wx hm
 exact⟨ret_bool (decide_eq_true (by omega)),hm.kept⟩
def pnf_n1:List Nat:=[1,1,0,1,0,1,1,1,0,0]
def pnf_n2:List Nat:=[1,1,0,1,0,1,1,1,0,1]
section
variable (N S c:Int)(w:World)
@[simp] def pnf_b1:List Bk:=[⟨w.heap.size,23,true,[i6 N,i6 S]⟩]
def pnf_g4s:List (Nat×Value):=[(1,i6 c),(3,(pt w.heap.size 0)),(6,.slice none 0 0),(7,.slice none 0 0),(8,i6 0)]
def pnf_g4v:List (Option Value):=[some (i6 c),none,some (i6 c),some (i6 (c+1)),some ((pt w.heap.size 0)),some (i6 N),some (i6 ((c+1)%N)),none,none,none,some (i6 0)]
def pnf_g4m:List (List Bk):=[(pnf_b1 N S w)]
def pnf_g4t:List (Option Nat):=[none,none,none,none,none,none,none,none,none,none,none]
def pnf_g4C(z2:Nat)(i_:Nat):Prop:=CertG (wpOp Tryz.prog (opsOf (getCode (bodyOf Tryz.f49) pnf_n1)) (sem Tryz.prog (bodyOf Tryz.f49) (bodyPost Tryz.prog Tryz.f49 (fun e w'=>∃ga gb,e=.returned (.tuple #[.slice (some ⟨ga,0,none⟩) 1 1,.slice (some ⟨gb,0,none⟩) 1 1,i6 0])∧OwnR w' w.heap.size 3 1 (some ⟨ga,0,none⟩) 1 1 [i6 c]∧OwnR w' w.heap.size 3 1 (some ⟨gb,0,none⟩) 1 1 [i6 ((c+1)%N)]∧Kept (fun _=>False) w w')) [.code pnf_n2,.blk 0,.code [1,1,1]])) [] 34 (opsOf (getCode (bodyOf Tryz.f49) pnf_n1)) (slI (opsOf (getCode (bodyOf Tryz.f49) pnf_n1)) (pnf_g4s c w) i_) (pnf_g4t) 0 (MG w (fun _=>False) (pnf_g4m N S w) [] z2) (Turned (pnf_b1 N S w)) (PvG (pnf_g4v N c w) (CNews z2 [(1,3,1,[i6 c]),(8,3,1,[i6 c]),(7,3,1,[i6 ((c+1)%N)]),(9,3,1,[i6 ((c+1)%N)])])) i_
end
theorem plan_fetch(N S c:Int)(hg:3<=N∧N<=6∧1<=S∧S<=8)(h:0<=c∧c<N-1)(w:World) :
  Calls Tryz.prog 49 #[.agg #[i6 N,i6 S],i6 c,i6 (-1)] w (fun e w'=>∃ga gb,e=.returned (.tuple #[.slice (some ⟨ga,0,none⟩) 1 1,.slice (some ⟨gb,0,none⟩) 1 1,i6 0])∧OwnR w' w.heap.size 3 1 (some ⟨ga,0,none⟩) 1 1 [i6 c]∧OwnR w' w.heap.size 3 1 (some ⟨gb,0,none⟩) 1 1 [i6 ((c+1)%N)]∧Kept (fun _=>False) w w'):=by
 refine cH (S:=(fun _=>False)) (n:=34) Tryz.func49 (MemOk.none w _) ?_
 have hmb:0<=(c+1)%N∧(c+1)%N<N:=⟨Int.emod_nonneg _ (by omega),Int.emod_lt_of_pos _ (by omega)⟩
 refine hgS 16 (dz 7 8590458880) [1,2,3,6,7,8,9,10,11] [] [(w.heap.size,0,2)] [.ops [1,0,0] [3,4],.code [1,0,1],.code [1,1]] (pnf_b1 N S w) [] (w.heap.size+1) ?_
 refine hcq (.bool true) _ _ (some 12) [] tI rfl (fun wx hm=>plan_right N S c hg h wx) fun z2 hz2=>?_
 refine hgE 27 (dz 10 0x1000000000) [1,3,6,7,8] [fF,oE ((((-1):Int)==c)=false) (beq_eq_false_iff_ne.2 (by omega)),tT] [] [.code pnf_n1,.code pnf_n2,.blk 0,.code [1,1,1]] ⟨[(1,i6 c),(3,(pt w.heap.size 0)),(6,.slice none 0 0),(7,.slice none 0 0),(8,i6 0)],(pnf_b1 N S w),[],z2⟩ ?_
 have pnf_g4_c1:pnf_g4C N S c w z2 1:=cert_newN (h:=oh0) (ob:=[]) (rs:=[]) (e:=3) (L:=1) (l:=[i6 c]) (by kernel_rfl) (by kernel_rfl) (by kernel_rfl) (by kernel_rfl) (fun sz=>by kernel_rfl) trivial
 have pnf_g4_c7:pnf_g4C N S c w z2 7:=cert_newN (h:=oh0) (ob:=[]) (rs:=[]) (e:=3) (L:=1) (l:=[i6 ((c+1)%N)]) (by kernel_rfl) (by kernel_rfl) (by kernel_rfl) (by kernel_rfl) (fun sz=>by kernel_rfl) trivial
 have pnf_g4_c8:pnf_g4C N S c w z2 8:=cert_asgN (k:=1) (d:=25) (show 1∈_ from List.mem_of_getElem? (i:=0) (by kernel_rfl)) (by kernel_rfl) (by kernel_rfl) (by kernel_rfl) (by kernel_rfl) (by kernel_rfl) (fun v=>by kernel_rfl) (fun v=>by kernel_rfl)
 have pnf_g4_c9:pnf_g4C N S c w z2 9:=cert_asgN (k:=7) (d:=31) (show 7∈_ from List.mem_of_getElem? (i:=0) (by kernel_rfl)) (by kernel_rfl) (by kernel_rfl) (by kernel_rfl) (by kernel_rfl) (by kernel_rfl) (fun v=>by kernel_rfl) (fun v=>by kernel_rfl)
 have pnf_g4_R:∀e_∈(rZs [0,2,4,10]++[⟨3,oh2,[n64 ((c+1))],[]⟩,rG 5 0 0 1 w.heap.size,⟨6,oh2,[oE ((0:Int)<=(c+1)∧(0:Int)<N)],[]⟩]:List RegE),pnf_g4C N S c w z2 e_.i:=certs_reg (by kernel_rfl) _ (fun sz=>by kernel_rfl)
 refine holds_mixU (vs:=(pnf_g4v N c w)) (ms:=(pnf_g4m N S w)) (stg:=(pnf_g4t)) (J:=0) (sl':=[(1,i6 c),(8,i6 0)]) (bk':=(pnf_b1 N S w)) (CNews z2 [(1,3,1,[i6 c]),(8,3,1,[i6 c]),(7,3,1,[i6 ((c+1)%N)]),(9,3,1,[i6 ((c+1)%N)])]) [1,8] 8 6 9 7 (by kernel_rfl) (by kernel_rfl) (by kernel_rfl) (cnews_stable (by intro b hb; simp at hb; subst hb; simp; omega)) (certs_mix pnf_g4_R [1,7,8,9] ⟨pnf_g4_c1,pnf_g4_c7,pnf_g4_c8,pnf_g4_c9,tI⟩ (by kernel_rfl)) (by kernel_rfl) (by kernel_rfl) rfl (of_decide_eq_true (by kernel_rfl)) (of_decide_eq_true (by kernel_rfl)) (by kernel_rfl) (by kernel_rfl) (by kernel_rfl) (by kernel_rfl) (by kernel_rfl) (fun v_ u_ W1 ⟨x1,hx1,ga,ha,hv1,hB1⟩ ⟨x2,hx2,gb,hb,hu1,hB2⟩ hz1 hm1=>?_)
 injection (show some (3,1,[i6 c])=some x1 from hx1)with hx1
 subst hx1
 subst hv1
 injection (show some (3,1,[i6 ((c+1)%N)])=some x2 from hx2)with hx2
 subst hx2
 subst hu1
 replace hB1:Blk W1 ga 3 [i6 c]:=hB1
 replace hB2:Blk W1 gb 3 [i6 ((c+1)%N)]:=hB2
 replace ha:z2<=ga:=ha
 replace hb:z2<=gb:=hb
 refine hgS 3 [] [1,6,7,8] [] [] [.code pnf_n2,.blk 0,.code [1,1,1]] (pnf_b1 N S w) [] W1.heap.size ?_
 refine hrt [] [.slice (some ⟨ga,0,none⟩) 1 1,.slice (some ⟨gb,0,none⟩) 1 1,i6 0] [] ?_
 intro wx hm
 exact⟨ga,gb,rfl,own_of_blk (by omega) (hB1.kept hm.kept (fun⟨b',hb',hr',he'⟩=>by simp at hb'; subst hb'; simp at he'; omega)) rfl (by omega),own_of_blk (by omega) (hB2.kept hm.kept (fun⟨b',hb',hr',he'⟩=>by simp at hb'; subst hb'; simp at he'; omega)) rfl (by omega),(hm1.bck hm).kept⟩
theorem plan_update(N S c:Int)(hg:3<=N∧N<=6∧1<=S∧S<=8)(h:0<=c∧c<N-1)(w:World) :
  Calls Tryz.prog 51 #[.agg #[i6 N,i6 S],i6 c,i6 (-1)] w (fun e w'=>∃ga gb,e=.returned (.tuple #[.slice (some ⟨ga,0,none⟩) 2 2,.slice (some ⟨gb,0,none⟩) 2 2,i6 0])∧OwnR w' w.heap.size 3 1 (some ⟨ga,0,none⟩) 2 2 [i6 c,i6 (N-1)]∧OwnR w' w.heap.size 3 1 (some ⟨gb,0,none⟩) 2 2 [i6 c,i6 (N-1)]∧Kept (fun _=>False) w w'):=by
 refine cH (S:=(fun _=>False)) (n:=37) Tryz.func51 (MemOk.none w _) ?_
 refine hgS 16 (dz 7 8590458880) [1,2,3,6,7,8,10,11,12] [] [(w.heap.size,0,2)] [.ops [1,0,0] [3,4],.code [1,0,1],.code [1,1]] [⟨w.heap.size,23,true,[i6 N,i6 S]⟩] [] (w.heap.size+1) ?_
 refine hcq (.bool true) _ _ (some 13) [] tI rfl (fun wx hm=>plan_right N S c hg h wx) fun z2 hz2=>?_
 refine hgS 10 (dz 3 33556480) [1,2,6,7,8,15] [fF] [(w.heap.size,0,2)] [.ops [1,1,0] [1,2],.code [1,1,1]] [⟨w.heap.size,23,true,[i6 N,i6 S]⟩] [] z2 ?_
 refine hcq (i6 (N-1)) _ _ (some 16) [] tI rfl (fun wx hm=>plat_parity N S hg wx) fun z4 hz4=>?_
 refine hgS 39 (dz 19 0) [6,7,8] [oE ((((-1):Int)==(N-1))=false) (beq_eq_false_iff_ne.2 (by omega)),oE ((((-1):Int)==c)=false) (beq_eq_false_iff_ne.2 (by omega))] [] [.code [1,1,1,1,1]] [⟨w.heap.size,23,true,[i6 N,i6 S]⟩,⟨z4,3,true,[i6 c,i6 (N-1)]⟩,⟨z4+1,3,true,[i6 c,i6 (N-1)]⟩] [] (z4+2) ?_
 refine hrt [] [.slice (some ⟨z4,0,none⟩) 2 2,.slice (some ⟨z4+1,0,none⟩) 2 2,i6 0] [] ?_
 intro wx hm
 have hs:=hm.kept.size
 exact⟨_,_,rfl,own_of_blk (by omega) (hm.at_ 1 rfl) rfl (by omega),own_of_blk (by omega) (hm.at_ 2 rfl) rfl (by omega),hm.kept⟩
def PlanBlocksI(L:List ByteArray)(gL:Nat)(cp:Nat)  (m:Nat) (st:St):Prop:=
 ∃(i:Nat)(z:Nat),m+i=L.length∧st=⟨[(4,.bool false),(11,.slice (some ⟨gL,0,none⟩) L.length cp),(12,i6 ((L.length:Nat):Int)),(13,i6 (i:Int))],[],[],z⟩
theorem plan_blocks(L:List ByteArray)(gL cp:Nat)(hL:∀s∈L,s.size=16)(hll:L.length<=100)(w:World)(hgL:gL<w.heap.size)(hc:∀(j:Nat)(v:Value),(strsV L)[j]?=some v->w.cell? ⟨gL,0+j,none⟩=some v) :
  Calls Tryz.prog 108 #[.slice (some ⟨gL,0,none⟩) L.length cp,i6 (L.length:Int)] w (RetK (.bool true) w):=by
 refine cH (S:=(fun _=>False)) (n:=21) Tryz.func108 (MemOk.none w _) ?_
 refine hgE 25 (dz 9 0) [4,11,12,13] [oE ((((L.length:Nat):Int)!=(L.length:Int))=false) (bne_eq_false_iff_eq.2 rfl)] [] [.code [1,1,0,1,0],.blk 0,.code [1,1,1]] ⟨[(4,.bool false),(11,.slice (some ⟨gL,0,none⟩) L.length cp),(12,i6 ((L.length:Nat):Int)),(13,i6 0)],[],[],w.heap.size⟩ ?_
 refine holds_loop (PlanBlocksI L gL cp) L.length (by kernel_rfl) ⟨0,_,by omega,rfl⟩ ?_
 rintro m _ ⟨i,z,hmi,rfl⟩ J hJ
 by_cases h1:i<L.length
 rotate_left
 ·skip
  refine hgS 14 (dz 3 0) [4] [dF (((i:Int):Int)<((L.length:Nat):Int))] [] [.code [1,1,1,1]] [] [] z ?_
  refine hrt [] [.bool true] [] ?_
  intro wx hm
  exact⟨rfl,hm.kept⟩
 obtain⟨s,hs⟩:∃s,L[i]?=some s:=⟨_,List.getElem?_eq_getElem h1⟩
 have hs16:=hL s (List.mem_of_getElem? hs)
 refine holds_wins [⟨gL,0+i*1,[sT s]⟩] (fun _ y hy=>?_) ?_
 ·simp only[List.mem_cons,List.not_mem_nil,or_false]at hy
  subst hy
  exact⟨fun h=>h,hgL,strs_cell hc hs⟩
 refine hgE 31 [oh0,oh1,oh2,⟨false,0,[⟨true,0,0,1⟩]⟩,oh0,oh0,oh0,oh0,oh0,oh2,oh0] [4,11,12,13] [dT (((i:Int):Int)<((L.length:Nat):Int)),oE ((0:Int)<=(i:Int)∧(i:Int)<((L.length:Nat):Int)),oE (((s.size:Int)!=16)=false) (bne_eq_false_iff_eq.2 (by rw[hs16]; rfl)),n64 (((i:Int)+1))] [(gL,0+i*1,1)] [.inv J,.blk 0,.code [1,1,1]] ⟨[(4,.bool false),(11,.slice (some ⟨gL,0,none⟩) L.length cp),(12,i6 ((L.length:Nat):Int)),(13,i6 ((i:Int)+1))],[],[⟨gL,0+i*1,[sT s]⟩],z⟩ ?_
 refine holds_wins [] (fun _ _ h=>by cases h) ?_
 exact hJ (m-1) _ (by omega) ⟨i+1,_,by omega,by rw[<-cast_succ i]⟩
@[simp] def png_b1(N:Int)(S:Int)(w:World):List Bk:=[⟨w.heap.size,23,true,[i6 N,i6 S]⟩]
theorem plan_got(N S c:Int)(hg:3<=N∧N<=6∧1<=S∧S<=8)(h:0<=c∧c<N-1)(s:ByteArray)(hs16:s.size=16)(gL cp:Nat)(w:World)(hgL:gL<w.heap.size)(hc:∀(j:Nat)(v:Value),(strsV [s])[j]?=some v->w.cell? ⟨gL,0+j,none⟩=some v) :
  Calls Tryz.prog 107 #[.agg #[i6 N,i6 S],i6 c,i6 (-1),.slice (some ⟨gL,0,none⟩) 1 cp] w (RetK (.tuple #[sT s,i6 0]) w):=by
 refine cH (S:=(fun _=>False)) (n:=39) Tryz.func107 (MemOk.none w _) ?_
 refine hgS 14 (dz 6 536903680) [1,2,3,8,9,14,15,16] [] [(w.heap.size,0,2)] [.ops [1,0] [3,4,5,6,7,8,9,10],.code [1,1]] (png_b1 N S w) [] (w.heap.size+1) ?_
 refine hcV (w:=w) (S':=(fun _=>False)) (Y:=Nat×Nat) (fun y_=>.tuple #[.slice (some ⟨y_.1,0,none⟩) 1 1,.slice (some ⟨y_.2,0,none⟩) 1 1,i6 0]) (fun y_=>(png_b1 N S w)) (fun y_ W_=>True) (show _=some (49,[.agg #[i6 N,i6 S],i6 c,i6 (-1)],some 17,[])by kernel_rfl) tI (fun wx hm=>?_) (fun y_ W1 hX_ hm1=>?_)
 ·refine(plan_fetch N S c hg h wx).mono fun e w' hq=>?_
  obtain⟨a,b,he,_,_,hk⟩:=hq
  exact⟨(a,b),he,trivial,hm.offA (fun _ h=>h) hk (fun _ h=>h.elim) (fun _ _ h=>h)⟩
 obtain⟨ga,gb⟩:=y_
 refine hgS 25 (dz 13 0) [1,2,3,8,9,24,26] [fF] [] [.ops [1,1,1,0,0] [3,4],.code [1,1,1,0,1],.code [1,1,1,1]] (png_b1 N S w) [] W1.heap.size ?_
 refine hcq (.bool true) _ _ (some 27) [] tI rfl (fun wx hm=>plan_blocks [s] gL cp (by intro x hx; obtain rfl:=List.mem_singleton.1 hx; exact hs16) (by simp) wx (Nat.lt_of_lt_of_le hgL (hm1.bck hm).kept.size) (fun j v hj=>cell_kept (hm1.bck hm).kept hgL (hc j v hj))) fun z4 hz4=>?_
 refine holds_wins [⟨gL,0,[sT s]⟩] (fun _ y hy=>?_) ?_
 ·simp only[List.mem_cons,List.not_mem_nil,or_false]at hy
  subst hy
  exact⟨fun h=>absurd (turned_new hm1 h) (Nat.not_le.2 hgL),Nat.lt_of_lt_of_le hgL hm1.kept.size,fun j v hj=>cell_kept hm1.kept hgL (hc j v hj)⟩
 refine hgS 24 [oh0,oh0,oh0,oh0,oh0,oh0,oh0,oh2,⟨false,0,[⟨true,0,0,1⟩]⟩,oh0,oh0] [8,9] [fF,oE ((((-1):Int)==c)=false) (beq_eq_false_iff_ne.2 (by omega)),oE ((0:Int)<=0∧0<((1:Nat):Int))] [(gL,0,1)] [.code [1,1,1,1,1,1]] (png_b1 N S w) [⟨gL,0,[sT s]⟩] z4 ?_
 refine hrt [] [sT s,i6 0] [] ?_
 intro wx hm
 exact⟨rfl,(hm1.bck hm).kept⟩
end Go.Proofs.YtcmpkkapkdlfhaaGreat
