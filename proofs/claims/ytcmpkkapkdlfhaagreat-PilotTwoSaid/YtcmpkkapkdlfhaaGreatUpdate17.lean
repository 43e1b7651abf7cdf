import Derived.Test.YtcmpkkapkdlfhaaGreatDel14
namespace Go.Proofs.YtcmpkkapkdlfhaaGreat
open Go.RowKit
set_option maxHeartbeats 4000000
set_option maxRecDepth 100000
section
variable (sn mask e s:Int)(L:List PartM)(gP cp ub:Nat)(bg:Bool)
def ust_v1:List Value:=[i6 sn,i6 mask,i6 e,i6 s,.slice (some ⟨gP,0,none⟩) L.length cp,.bool bg,.bool false]
def ust_n1:List Nat:=[1,1,1,0,1,0,0,1,1,1]
@[simp] def ust_b1:List Bk:=[⟨ub,178,false,(ust_v1 sn mask e s L gP cp bg)⟩]
@[simp] def ust_b2(z:Nat)(q:PartM):List Bk:=[⟨ub,178,false,(ust_v1 sn mask e s L gP cp bg)⟩,⟨z,180,true,[i6 q.col,sT q.blk,.bool q.opn,.bool q.don]⟩]
end
def UpdStI(sn:Int)(mask:Int)(e:Int)(s:Int)(L:List PartM)(gP:Nat)(cp:Nat)(ub:Nat)(bg:Bool)  (m:Nat) (st:St):Prop:=
 ∃(i:Nat)(r:Int)(z:Nat),m+i=L.length∧stateL L 2=stateL (L.drop i) r∧st=⟨[(2,i6 0),(3,i6 r),(13,.slice (some ⟨gP,0,none⟩) L.length cp),(14,i6 ((L.length:Nat):Int)),(15,i6 (i:Int))],(ust_b1 sn mask e s L gP cp ub bg),[],z⟩
theorem state_upd(sn mask e s:Int)(L:List PartM)(hL8:L.length<=8)(gP cp ub base:Nat)(bg:Bool)(w:World)(hU:Blk w ub 178 [i6 sn,i6 mask,i6 e,i6 s,.slice (some ⟨gP,0,none⟩) L.length cp,.bool bg,.bool false])(hO:OwnR w base 180 4 (some ⟨gP,0,none⟩) L.length cp (flatV PartM.cells L)) :
  Calls Tryz.prog 124 #[.pointer (some ⟨ub,0,none⟩)] w (RetK (i6 (stateL L 2)) w):=by
 refine cH (S:=(fun _=>False)) (n:=27) Tryz.func124 (MemOk.start (bk:=(ust_b1 sn mask e s L gP cp ub bg)) (wn:=[]) (fun b hb=>by obtain rfl:=List.mem_singleton.1 hb; exact hU) (by simp) (by simp) (by simp)) ?_
 refine hgE 32 (dz 13 0x10408000000106080000) [2,3,13,14,15] [fF] [(ub,6,1),(ub,4,1)] [.code [1,1,1,0,1,0],.blk 0,.code [1,1,1,1]] ⟨[(2,i6 0),(3,i6 2),(13,.slice (some ⟨gP,0,none⟩) L.length cp),(14,i6 ((L.length:Nat):Int)),(15,i6 0)],(ust_b1 sn mask e s L gP cp ub bg),[],w.heap.size⟩ ?_
 refine holds_loop (UpdStI sn mask e s L gP cp ub bg) L.length (by kernel_rfl) ⟨0,2,_,by omega,rfl,rfl⟩ ?_
 rintro m _ ⟨i,r,z,hmi,hr,rfl⟩ J hJ
 by_cases h1:i<L.length
 rotate_left
 ·skip
  refine hgS 15 (dz 4 0) [2] [dF (((i:Int):Int)<((L.length:Nat):Int))] [] [.code [1,1,1,1,1]] (ust_b1 sn mask e s L gP cp ub bg) [] z ?_
  refine hrt [] [i6 r] [] ?_
  intro wx hm
  refine⟨?_,hm.kept⟩
  rw[hr,stateL_end (by omega)]
  rfl
 obtain⟨q,hq⟩:∃q,L[i]?=some q:=⟨_,List.getElem?_eq_getElem h1⟩
 rw[stateL_drop hq]at hr
 refine holds_wins [⟨gP,0+i*4,[i6 q.col,sT q.blk,.bool q.opn,.bool q.don]⟩] (fun _ y hy=>?_) ?_
 ·simp only[List.mem_cons,List.not_mem_nil,or_false]at hy
  subst hy
  exact⟨fun h=>h,(hO.own gP ⟨_,rfl,rfl⟩).2,own_elem part_len hO hq⟩
 refine hgE 26 [oh0,oh1,oh2,⟨false,0,[⟨true,0,0,4⟩]⟩,oh0,(oA 1 0 4),oh0,(oA 1 2 1),oh0] [2,3,5,13,14,15,21] [dT (((i:Int):Int)<((L.length:Nat):Int)),oE ((0:Int)<=(i:Int)∧(i:Int)<((L.length:Nat):Int))] [(gP,0+i*4,4),(z,0,4),(z,2,1)] [.code [1,1,1,0,1,0,0,1,1,0,0,1,0,1],.code [1,1,1,0,1,0,0,1,1,0,0,1,1],.blk 1,.code ust_n1,.inv J,.blk 0,.code [1,1,1,1]] ⟨[(2,i6 0),(3,i6 r),(5,(pt z 0)),(13,.slice (some ⟨gP,0,none⟩) L.length cp),(14,i6 ((L.length:Nat):Int)),(15,i6 (i:Int)),(21,.bool (!q.opn))],(ust_b2 sn mask e s L gP cp ub bg z q),[⟨gP,0+i*4,[i6 q.col,sT q.blk,.bool q.opn,.bool q.don]⟩],z+1⟩ ?_
 rcases Bool.eq_false_or_eq_true q.opn with d1|d1
 rotate_left
 ·skip
  refine hgS 8 (dz 2 1) [2,3,5,13,14,15] [eD (nT d1)] [] [.code [1,1,1,0,1,0,0,1,1,0,0,1,0,1,0,1],.code [1,1,1,0,1,0,0,1,1,0,0,1,1],.blk 1,.code ust_n1,.inv J,.blk 0,.code [1,1,1,1]] (ust_b2 sn mask e s L gP cp ub bg z q) [⟨gP,0+i*4,[i6 q.col,sT q.blk,.bool q.opn,.bool q.don]⟩] (z+1) ?_
  refine hrt [] [i6 0] [] ?_
  intro wx hm
  refine⟨?_,hm.kept⟩
  rw[hr,d1]
  rfl
 refine hgE 11 (dz 4 16979968) [2,3,13,14,15,24] [eD (nF d1)] [(z,3,1)] [.code [1,1,1,0,1,0,0,1,1,0,0,1,1,1],.blk 1,.code ust_n1,.inv J,.blk 0,.code [1,1,1,1]] ⟨[(2,i6 0),(3,i6 r),(13,.slice (some ⟨gP,0,none⟩) L.length cp),(14,i6 ((L.length:Nat):Int)),(15,i6 (i:Int)),(24,.bool (!q.don))],(ust_b2 sn mask e s L gP cp ub bg z q),[⟨gP,0+i*4,[i6 q.col,sT q.blk,.bool q.opn,.bool q.don]⟩],z+1⟩ ?_
 rcases Bool.eq_false_or_eq_true q.don with d2|d2
 ·skip
  refine holds_go (f:=10) (hs:=[oh0,oh2,oh0]) [2,3,13,14,15] [true,false] (show _=some (Res.mk [(!q.don)=false,inR .i64 (((i:Int)+1))] (dupR []) [.inv J,.blk 0,.code [1,1,1,1]] ⟨[(2,i6 0),(3,i6 r),(13,.slice (some ⟨gP,0,none⟩) L.length cp),(14,i6 ((L.length:Nat):Int)),(15,i6 ((i:Int)+1))],(ust_b1 sn mask e s L gP cp ub bg),[⟨gP,0+i*4,[i6 q.col,sT q.blk,.bool q.opn,.bool q.don]⟩],z+1⟩)by kernel_rfl) ⟨(by rw[d2]; rfl),in64 (by omega),trivial⟩ ?_
  refine holds_wins [] (fun _ _ h=>by cases h) ?_
  exact hJ (m-1) _ (by omega) ⟨i+1,r,_,by omega,by rw[hr,d1,d2]; rfl,by rw[<-cast_succ i]⟩
 ·skip
  refine holds_go (f:=12) (hs:=[oh1,oh0,oh2,oh0]) [2,3,13,14,15] [true,false] (show _=some (Res.mk [(!q.don)=true,inR .i64 (((i:Int)+1))] (dupR []) [.inv J,.blk 0,.code [1,1,1,1]] ⟨[(2,i6 0),(3,i6 1),(13,.slice (some ⟨gP,0,none⟩) L.length cp),(14,i6 ((L.length:Nat):Int)),(15,i6 ((i:Int)+1))],(ust_b1 sn mask e s L gP cp ub bg),[⟨gP,0+i*4,[i6 q.col,sT q.blk,.bool q.opn,.bool q.don]⟩],z+1⟩)by kernel_rfl) ⟨(by rw[d2]; rfl),in64 (by omega),trivial⟩ ?_
  refine holds_wins [] (fun _ _ h=>by cases h) ?_
  exact hJ (m-1) _ (by omega) ⟨i+1,1,_,by omega,by rw[hr,d1,d2]; rfl,by rw[<-cast_succ i]⟩
section
variable (sn mask e s:Int)(L:List PartM)(gP cp ub:Nat)(bg:Bool)(q:PartM)(w:World)(g2 y2:Nat)
def uap_v1:List Value:=(ust_v1 sn mask e s L gP cp bg)
def uap_v2:List Value:=rp 8 (i6 0)++[sT ⟨#[]⟩]
def uap_v3:List Value:=[i6 5,i6 sn,i6 e,i6 s,i6 0,i6 0,i6 0,i6 0,sT ⟨#[]⟩]
def uap_v4:List Value:=((uap_v3 sn e s).set 0 (i6 4))
def uap_v5:List Value:=((uap_v4 sn e s).set 4 (i6 mask))
def uap_v6:List Value:=((uap_v5 sn mask e s).set 8 (sT q.blk))
def uap_n1:Array Bool:=(bA 17 32767)
def uap_n2:Array Bool:=(bA 17 65535)
def uap_n3:Array Bool:=(bA 17 131071)
@[simp] def uap_b1:List Bk:=[⟨ub,178,false,(uap_v1 sn mask e s L gP cp bg)⟩,⟨w.heap.size,180,true,[i6 q.col,sT q.blk,.bool q.opn,.bool q.don]⟩,⟨w.heap.size+1,59,true,(uap_v2)⟩]
@[simp] def uap_b2:List Bk:=[⟨ub,178,false,(uap_v1 sn mask e s L gP cp bg)⟩,⟨w.heap.size,180,true,[i6 q.col,sT q.blk,.bool q.opn,.bool q.don]⟩,⟨w.heap.size+1,59,true,(uap_v2)⟩,⟨g2,59,true,(uap_v2)⟩]
@[simp] def uap_b3:List Bk:=[⟨ub,178,false,(uap_v1 sn mask e s L gP cp bg)⟩,⟨w.heap.size,180,true,[i6 q.col,sT q.blk,.bool q.opn,.bool q.don]⟩,⟨w.heap.size+1,59,true,(uap_v2)⟩,⟨g2,59,true,(uap_v3 sn e s)⟩]
@[simp] def uap_b4:List Bk:=[⟨ub,178,false,(uap_v1 sn mask e s L gP cp bg)⟩,⟨w.heap.size,180,true,[i6 q.col,sT q.blk,.bool q.opn,.bool q.don]⟩,⟨w.heap.size+1,59,true,(uap_v2)⟩,⟨g2,59,true,(uap_v4 sn e s)⟩]
@[simp] def uap_b5:List Bk:=[⟨ub,178,false,(uap_v1 sn mask e s L gP cp bg)⟩,⟨w.heap.size,180,true,[i6 q.col,sT q.blk,.bool q.opn,.bool q.don]⟩,⟨w.heap.size+1,59,true,(uap_v2)⟩,⟨g2,59,true,(uap_v5 sn mask e s)⟩]
@[simp] def uap_b6:List Bk:=[⟨ub,178,false,(uap_v1 sn mask e s L gP cp bg)⟩,⟨w.heap.size,180,true,[i6 q.col,sT q.blk,.bool q.opn,.bool q.don]⟩,⟨w.heap.size+1,59,true,(uap_v2)⟩,⟨g2,59,true,(uap_v6 sn mask e s q)⟩]
theorem uap_q2:Out.prune [0,2,4,6,22] (qList Tryz.prog 35 w (fun _=>False) ((opsOf (getCode (bodyOf Tryz.f125) [1,0])).toList.take 15) ⟨[(0,(pt ub 0)),(2,i6 0),(4,(pt w.heap.size 0)),(6,(pt (w.heap.size+1) 0))],(uap_b1 sn mask e s L gP cp ub bg q w),[],w.heap.size+2⟩ [.op oh0,.op oh0,.op oh0,.op (oA 0 0 1),.op oh0,.op oh0,.op oh0,.op oh0,.op (oA 0 2 1),.op oh0,.op oh0,.op oh0,.op oh0,.op (oA 0 3 1),.op oh0])=some ⟨[],dupR [(ub,0,1),(ub,2,1),(ub,3,1)],⟨[(0,(pt ub 0)),(2,i6 0),(4,(pt w.heap.size 0)),(6,(pt (w.heap.size+1) 0)),(22,.agg (List.toArray (uap_v3 sn e s)))],(uap_b1 sn mask e s L gP cp ub bg q w),[],w.heap.size+2⟩⟩:=by kernel_rfl
theorem uap_t3:tailP [0,2,4,6,7] (tailX Tryz.prog 35 (opsOf (getCode (bodyOf Tryz.f125) [1,0])) 1 uap_n2 ⟨[(7,(pt g2 0)),(0,(pt ub 0)),(2,i6 0),(4,(pt w.heap.size 0)),(6,(pt (w.heap.size+1) 0)),(22,.agg (List.toArray (uap_v3 sn e s)))],(uap_b2 sn mask e s L gP cp ub bg q w g2),[],y2⟩ [(16,false,(oA 3 0 9))])=some (⟨[],dupR [(g2,0,9)],⟨[(0,(pt ub 0)),(2,i6 0),(4,(pt w.heap.size 0)),(6,(pt (w.heap.size+1) 0)),(7,(pt g2 0))],(uap_b3 sn mask e s L gP cp ub bg q w g2),[],y2⟩⟩,0,uap_n3):=by kernel_rfl
theorem uap_t4:tailP [0,2,4,6,7] (tailX Tryz.prog 35 (opsOf (getCode (bodyOf Tryz.f125) [1,0])) 2 uap_n1 ⟨[(0,(pt ub 0)),(2,i6 0),(4,(pt w.heap.size 0)),(6,(pt (w.heap.size+1) 0)),(22,.agg (List.toArray (uap_v3 sn e s)))],(uap_b1 sn mask e s L gP cp ub bg q w),[],y2⟩ [(15,false,oh0),(16,false,(oA 3 0 9))])=some (⟨[],dupR [(y2,0,9)],⟨[(0,(pt ub 0)),(2,i6 0),(4,(pt w.heap.size 0)),(6,(pt (w.heap.size+1) 0)),(7,(pt y2 0))],[⟨ub,178,false,(uap_v1 sn mask e s L gP cp bg)⟩,⟨w.heap.size,180,true,[i6 q.col,sT q.blk,.bool q.opn,.bool q.don]⟩,⟨w.heap.size+1,59,true,(uap_v2)⟩,⟨y2,59,true,(uap_v3 sn e s)⟩],[],y2+1⟩⟩,0,uap_n3):=by kernel_rfl
def uap_g6s:List (Nat×Value):=[(0,(pt ub 0)),(4,(pt w.heap.size 0)),(6,(pt (w.heap.size+1) 0)),(7,(pt g2 0))]
def uap_g6v:List (Option Value):=[some ((pt ub 0)),some ((pt ub 0)),some ((pt ub 1)),some (i6 mask),some ((pt w.heap.size 1)),some (sT q.blk),some ((pt g2 0)),some (.tuple #[]),some ((pt g2 4)),some (.tuple #[]),some ((pt g2 8)),some (.tuple #[])]
def uap_g6m:List (List Bk):=[(uap_b3 sn mask e s L gP cp ub bg q w g2),(uap_b4 sn mask e s L gP cp ub bg q w g2),(uap_b5 sn mask e s L gP cp ub bg q w g2),(uap_b6 sn mask e s L gP cp ub bg q w g2)]
def uap_g6t:List (Option Nat):=[none,none,none,none,none,none,none,some 0,none,some 1,none,some 2]
theorem uap_g6_7:∀sz,opG Tryz.prog (opsOf (getCode (bodyOf Tryz.f125) [1,1,0,1,0])) ⟨slG (opsOf (getCode (bodyOf Tryz.f125) [1,1,0,1,0])) (uap_g6v mask ub q w g2) (slI (opsOf (getCode (bodyOf Tryz.f125) [1,1,0,1,0])) (uap_g6s ub w g2) 7) (needsOf (opsOf (getCode (bodyOf Tryz.f125) [1,1,0,1,0])) 7),(uap_b3 sn mask e s L gP cp ub bg q w g2),[],sz⟩ 7 (oA 3 0 1)=some ([],dupR [(g2,0,1)],undef,(uap_b4 sn mask e s L gP cp ub bg q w g2),sz):=fun sz=>by kernel_rfl
theorem uap_g6_9:∀sz,opG Tryz.prog (opsOf (getCode (bodyOf Tryz.f125) [1,1,0,1,0])) ⟨slG (opsOf (getCode (bodyOf Tryz.f125) [1,1,0,1,0])) (uap_g6v mask ub q w g2) (slI (opsOf (getCode (bodyOf Tryz.f125) [1,1,0,1,0])) (uap_g6s ub w g2) 9) (needsOf (opsOf (getCode (bodyOf Tryz.f125) [1,1,0,1,0])) 9),(uap_b4 sn mask e s L gP cp ub bg q w g2),[],sz⟩ 9 (oA 3 4 1)=some ([],dupR [(g2,4,1)],undef,(uap_b5 sn mask e s L gP cp ub bg q w g2),sz):=fun sz=>by kernel_rfl
theorem uap_g6_11:∀sz,opG Tryz.prog (opsOf (getCode (bodyOf Tryz.f125) [1,1,0,1,0])) ⟨slG (opsOf (getCode (bodyOf Tryz.f125) [1,1,0,1,0])) (uap_g6v mask ub q w g2) (slI (opsOf (getCode (bodyOf Tryz.f125) [1,1,0,1,0])) (uap_g6s ub w g2) 11) (needsOf (opsOf (getCode (bodyOf Tryz.f125) [1,1,0,1,0])) 11),(uap_b5 sn mask e s L gP cp ub bg q w g2),[],sz⟩ 11 (oA 3 8 1)=some ([],dupR [(g2,8,1)],undef,(uap_b6 sn mask e s L gP cp ub bg q w g2),sz):=fun sz=>by kernel_rfl
def uap_g6C(i_:Nat):Prop:=CertG (wpOp Tryz.prog (opsOf (getCode (bodyOf Tryz.f125) [1,1,0,1,0])) (sem Tryz.prog (bodyOf Tryz.f125) (bodyPost Tryz.prog Tryz.f125 (RetK (.agg (prepQ sn e s mask q).cells.toArray) w)) [.code [1,1,1]])) [] 35 (opsOf (getCode (bodyOf Tryz.f125) [1,1,0,1,0])) (slI (opsOf (getCode (bodyOf Tryz.f125) [1,1,0,1,0])) (uap_g6s ub w g2) i_) (uap_g6t) 3 (MG w (fun _=>False) (uap_g6m sn mask e s L gP cp ub bg q w g2) [] y2) (Turned (uap_b3 sn mask e s L gP cp ub bg q w g2)) (PvG (uap_g6v mask ub q w g2) (fun _ _ _=>False)) i_
end
theorem askPrep_upd(sn mask e s:Int)(L:List PartM)(gP cp ub:Nat)(bg:Bool)(q:PartM)(w:World)(hU:Blk w ub 178 [i6 sn,i6 mask,i6 e,i6 s,.slice (some ⟨gP,0,none⟩) L.length cp,.bool bg,.bool false]) :
  Calls Tryz.prog 125 #[.pointer (some ⟨ub,0,none⟩),.agg #[i6 q.col,sT q.blk,.bool q.opn,.bool q.don],i6 0] w (RetK (.agg (prepQ sn e s mask q).cells.toArray) w):=by
 refine cH (S:=(fun _=>False)) (n:=35) Tryz.func125 (MemOk.start (bk:=[⟨ub,178,false,(uap_v1 sn mask e s L gP cp bg)⟩]) (wn:=[]) (fun b hb=>by obtain rfl:=List.mem_singleton.1 hb; exact hU) (by simp) (by simp) (by simp)) ?_
 refine hgE 9 (dz 2 0) [0,2,4,6] [] [] [.code [1,0],.code [1,1]] ⟨[(0,(pt ub 0)),(2,i6 0),(4,(pt w.heap.size 0)),(6,(pt (w.heap.size+1) 0))],(uap_b1 sn mask e s L gP cp ub bg q w),[],w.heap.size+2⟩ ?_
 have HZ:∀(g2 y2:Nat),w.heap.size+2<=g2->w.heap.size+2<=y2->Holds [] Tryz.prog (bodyOf Tryz.f125) 35 w (fun _=>False) (bodyPost Tryz.prog Tryz.f125 (RetK (.agg (prepQ sn e s mask q).cells.toArray) w)) [.code [1,1]] ⟨[(0,(pt ub 0)),(2,i6 0),(4,(pt w.heap.size 0)),(6,(pt (w.heap.size+1) 0)),(7,(pt g2 0))],(uap_b3 sn mask e s L gP cp ub bg q w g2),[],y2⟩:=by
  intro g2 y2 hg2 hy2
  refine hgE 10 (dz 3 256) [0,4,6,7] [tT] [] [.code [1,1,0,1,0],.code [1,1,1]] ⟨[(0,(pt ub 0)),(4,(pt w.heap.size 0)),(6,(pt (w.heap.size+1) 0)),(7,(pt g2 0))],(uap_b3 sn mask e s L gP cp ub bg q w g2),[],y2⟩ ?_
  have uap_g6_c7:uap_g6C sn mask e s L gP cp ub bg q w g2 y2 7:=cert_store (s:=0) (v:=undef) (by kernel_rfl) (by kernel_rfl) (by kernel_rfl) (by kernel_rfl) (by kernel_rfl) (uap_g6_7 sn mask e s L gP cp ub bg q w g2) trivial
  have uap_g6_c9:uap_g6C sn mask e s L gP cp ub bg q w g2 y2 9:=cert_store (s:=1) (v:=undef) (by kernel_rfl) (by kernel_rfl) (by kernel_rfl) (by kernel_rfl) (by kernel_rfl) (uap_g6_9 sn mask e s L gP cp ub bg q w g2) trivial
  have uap_g6_c11:uap_g6C sn mask e s L gP cp ub bg q w g2 y2 11:=cert_store (s:=2) (v:=undef) (by kernel_rfl) (by kernel_rfl) (by kernel_rfl) (by kernel_rfl) (by kernel_rfl) (uap_g6_11 sn mask e s L gP cp ub bg q w g2) trivial
  have uap_g6_R:∀e_∈(rZs [0,1,2,4,6,8,10]++[rG 3 0 1 1 ub,rG 5 1 1 1 w.heap.size]:List RegE),uap_g6C sn mask e s L gP cp ub bg q w g2 y2 e_.i:=certs_reg (by kernel_rfl) _ (fun sz=>by kernel_rfl)
  refine holds_mixG (vs:=(uap_g6v mask ub q w g2)) (ms:=(uap_g6m sn mask e s L gP cp ub bg q w g2)) (stg:=(uap_g6t)) (J:=3) (sl':=[(6,(pt (w.heap.size+1) 0)),(7,(pt g2 0))]) (bk':=(uap_b6 sn mask e s L gP cp ub bg q w g2)) (fun _ _ _=>False) [6,7] (by kernel_rfl) (by kernel_rfl) (by kernel_rfl) (fun _ _ _ _ h=>h.elim) (certs_mix uap_g6_R [7,9,11] ⟨uap_g6_c7,uap_g6_c9,uap_g6_c11,tI⟩ (by kernel_rfl)) (by kernel_rfl) (by kernel_rfl) (by kernel_rfl) (fun z6 hz6=>?_)
  replace hz6:y2<=z6:=hz6
  refine hgS 8 (dz 2 0x90028090038) [6] [] [(g2,0,9),(w.heap.size+1,0,9)] [.code [1,1,1,1]] [⟨ub,178,false,(uap_v1 sn mask e s L gP cp bg)⟩,⟨w.heap.size,180,true,[i6 q.col,sT q.blk,.bool q.opn,.bool q.don]⟩,⟨w.heap.size+1,59,true,(uap_v6 sn mask e s q)⟩,⟨g2,59,true,(uap_v6 sn mask e s q)⟩] [] z6 ?_
  refine hrt [[⟨false,2,0,9⟩]] [.agg (List.toArray (uap_v6 sn mask e s q))] [(w.heap.size+1,0,9)] ?_
  intro wx hm
  exact⟨rfl,hm.kept⟩
 have H1:∀(g2 y2:Nat),w.heap.size+2<=g2->w.heap.size+2<=y2->Holds [] Tryz.prog (bodyOf Tryz.f125) 35 w (fun _=>False) (bodyPost Tryz.prog Tryz.f125 (RetK (.agg (prepQ sn e s mask q).cells.toArray) w)) (.any [1,0] 1 uap_n2::[.code [1,1]]) ⟨[(7,(pt g2 0)),(0,(pt ub 0)),(2,i6 0),(4,(pt w.heap.size 0)),(6,(pt (w.heap.size+1) 0)),(22,.agg (List.toArray (uap_v3 sn e s)))],(uap_b2 sn mask e s L gP cp ub bg q w g2),[],y2⟩:=by
  intro g2 y2 hg2 hy2
  refine holds_tail panicOk_body _ _ (uap_t3 sn mask e s L gP cp ub bg q w g2 y2) trivial ?_
  refine holds_done (by kernel_rfl) ?_
  exact HZ g2 _ (by omega) (by omega)
 refine holds_float (fl:=15) (t:=59) (d:=7) (cs:=(uap_v2)) (ls0:=uap_n1) (ls1:=uap_n2) (f:=1) 15 _ _ (by kernel_rfl) (by kernel_rfl) (by kernel_rfl) (by kernel_rfl) (by decide) (by kernel_rfl) (by kernel_rfl) (by kernel_rfl) (uap_q2 sn mask e s L gP cp ub bg q w) trivial H1 ?_
 intro y2 hy2
 replace hy2:w.heap.size+2<=y2:=hy2
 refine holds_tail panicOk_body _ _ (uap_t4 sn mask e s L gP cp ub bg q w y2) trivial ?_
 refine holds_done (by kernel_rfl) ?_
 exact HZ _ _ (by omega) (by omega)
section
variable (sn mask e s:Int)(L:List PartM)(gP cp ub:Nat)(bg:Bool)(q:PartM)(w:World)(g2 y2:Nat)
def uac_v1:List Value:=(ust_v1 sn mask e s L gP cp bg)
def uac_v2:List Value:=uap_v2
def uac_v3:List Value:=(uap_v3 sn e s)
def uac_n1:Array Bool:=(bA 17 32767)
def uac_n2:Array Bool:=(bA 17 65535)
def uac_n3:Array Bool:=(bA 17 131071)
@[simp] def uac_b1:List Bk:=[⟨ub,178,false,(uac_v1 sn mask e s L gP cp bg)⟩,⟨w.heap.size,180,true,[i6 q.col,sT q.blk,.bool q.opn,.bool q.don]⟩,⟨w.heap.size+1,59,true,(uac_v2)⟩]
@[simp] def uac_b2:List Bk:=[⟨ub,178,false,(uac_v1 sn mask e s L gP cp bg)⟩,⟨w.heap.size,180,true,[i6 q.col,sT q.blk,.bool q.opn,.bool q.don]⟩,⟨w.heap.size+1,59,true,(uac_v2)⟩,⟨g2,59,true,(uac_v2)⟩]
@[simp] def uac_b3:List Bk:=[⟨ub,178,false,(uac_v1 sn mask e s L gP cp bg)⟩,⟨w.heap.size,180,true,[i6 q.col,sT q.blk,.bool q.opn,.bool q.don]⟩,⟨w.heap.size+1,59,true,(uac_v2)⟩,⟨g2,59,true,(uac_v3 sn e s)⟩]
theorem uac_q2:Out.prune [0,2,4,6,22] (qList Tryz.prog 35 w (fun _=>False) ((opsOf (getCode (bodyOf Tryz.f125) [1,0])).toList.take 15) ⟨[(0,(pt ub 0)),(2,i6 1),(4,(pt w.heap.size 0)),(6,(pt (w.heap.size+1) 0))],(uac_b1 sn mask e s L gP cp ub bg q w),[],w.heap.size+2⟩ [.op oh0,.op oh0,.op oh0,.op (oA 0 0 1),.op oh0,.op oh0,.op oh0,.op oh0,.op (oA 0 2 1),.op oh0,.op oh0,.op oh0,.op oh0,.op (oA 0 3 1),.op oh0])=some ⟨[],dupR [(ub,0,1),(ub,2,1),(ub,3,1)],⟨[(0,(pt ub 0)),(2,i6 1),(4,(pt w.heap.size 0)),(6,(pt (w.heap.size+1) 0)),(22,.agg (List.toArray (uac_v3 sn e s)))],(uac_b1 sn mask e s L gP cp ub bg q w),[],w.heap.size+2⟩⟩:=by kernel_rfl
theorem uac_t3:tailP [0,2,4,6,7] (tailX Tryz.prog 35 (opsOf (getCode (bodyOf Tryz.f125) [1,0])) 1 uac_n2 ⟨[(7,(pt g2 0)),(0,(pt ub 0)),(2,i6 1),(4,(pt w.heap.size 0)),(6,(pt (w.heap.size+1) 0)),(22,.agg (List.toArray (uac_v3 sn e s)))],(uac_b2 sn mask e s L gP cp ub bg q w g2),[],y2⟩ [(16,false,(oA 3 0 9))])=some (⟨[],dupR [(g2,0,9)],⟨[(0,(pt ub 0)),(2,i6 1),(4,(pt w.heap.size 0)),(6,(pt (w.heap.size+1) 0)),(7,(pt g2 0))],(uac_b3 sn mask e s L gP cp ub bg q w g2),[],y2⟩⟩,0,uac_n3):=by kernel_rfl
theorem uac_t4:tailP [0,2,4,6,7] (tailX Tryz.prog 35 (opsOf (getCode (bodyOf Tryz.f125) [1,0])) 2 uac_n1 ⟨[(0,(pt ub 0)),(2,i6 1),(4,(pt w.heap.size 0)),(6,(pt (w.heap.size+1) 0)),(22,.agg (List.toArray (uac_v3 sn e s)))],(uac_b1 sn mask e s L gP cp ub bg q w),[],y2⟩ [(15,false,oh0),(16,false,(oA 3 0 9))])=some (⟨[],dupR [(y2,0,9)],⟨[(0,(pt ub 0)),(2,i6 1),(4,(pt w.heap.size 0)),(6,(pt (w.heap.size+1) 0)),(7,(pt y2 0))],[⟨ub,178,false,(uac_v1 sn mask e s L gP cp bg)⟩,⟨w.heap.size,180,true,[i6 q.col,sT q.blk,.bool q.opn,.bool q.don]⟩,⟨w.heap.size+1,59,true,(uac_v2)⟩,⟨y2,59,true,(uac_v3 sn e s)⟩],[],y2+1⟩⟩,0,uac_n3):=by kernel_rfl
end
theorem askComm_upd(sn mask e s:Int)(L:List PartM)(gP cp ub:Nat)(bg:Bool)(q:PartM)(w:World)(hU:Blk w ub 178 [i6 sn,i6 mask,i6 e,i6 s,.slice (some ⟨gP,0,none⟩) L.length cp,.bool bg,.bool false]) :
  Calls Tryz.prog 125 #[.pointer (some ⟨ub,0,none⟩),.agg #[i6 q.col,sT q.blk,.bool q.opn,.bool q.don],i6 1] w (RetK (.agg (commQ sn e s q).cells.toArray) w):=by
 refine cH (S:=(fun _=>False)) (n:=35) Tryz.func125 (MemOk.start (bk:=[⟨ub,178,false,(uac_v1 sn mask e s L gP cp bg)⟩]) (wn:=[]) (fun b hb=>by obtain rfl:=List.mem_singleton.1 hb; exact hU) (by simp) (by simp) (by simp)) ?_
 refine hgE 9 (dz 2 0) [0,2,4,6] [] [] [.code [1,0],.code [1,1]] ⟨[(0,(pt ub 0)),(2,i6 1),(4,(pt w.heap.size 0)),(6,(pt (w.heap.size+1) 0))],(uac_b1 sn mask e s L gP cp ub bg q w),[],w.heap.size+2⟩ ?_
 have HZ:∀(g2 y2:Nat),w.heap.size+2<=g2->w.heap.size+2<=y2->Holds [] Tryz.prog (bodyOf Tryz.f125) 35 w (fun _=>False) (bodyPost Tryz.prog Tryz.f125 (RetK (.agg (commQ sn e s q).cells.toArray) w)) [.code [1,1]] ⟨[(0,(pt ub 0)),(2,i6 1),(4,(pt w.heap.size 0)),(6,(pt (w.heap.size+1) 0)),(7,(pt g2 0))],(uac_b3 sn mask e s L gP cp ub bg q w g2),[],y2⟩:=by
  intro g2 y2 hg2 hy2
  refine hgS 16 (dz 5 0x90028090038000) [6] [fF] [(g2,0,9),(w.heap.size+1,0,9)] [.code [1,1,1,1]] [⟨ub,178,false,(uac_v1 sn mask e s L gP cp bg)⟩,⟨w.heap.size,180,true,[i6 q.col,sT q.blk,.bool q.opn,.bool q.don]⟩,⟨w.heap.size+1,59,true,(uac_v3 sn e s)⟩,⟨g2,59,true,(uac_v3 sn e s)⟩] [] y2 ?_
  refine hrt [[⟨false,2,0,9⟩]] [.agg (List.toArray (uac_v3 sn e s))] [(w.heap.size+1,0,9)] ?_
  intro wx hm
  exact⟨rfl,hm.kept⟩
 have H1:∀(g2 y2:Nat),w.heap.size+2<=g2->w.heap.size+2<=y2->Holds [] Tryz.prog (bodyOf Tryz.f125) 35 w (fun _=>False) (bodyPost Tryz.prog Tryz.f125 (RetK (.agg (commQ sn e s q).cells.toArray) w)) (.any [1,0] 1 uac_n2::[.code [1,1]]) ⟨[(7,(pt g2 0)),(0,(pt ub 0)),(2,i6 1),(4,(pt w.heap.size 0)),(6,(pt (w.heap.size+1) 0)),(22,.agg (List.toArray (uac_v3 sn e s)))],(uac_b2 sn mask e s L gP cp ub bg q w g2),[],y2⟩:=by
  intro g2 y2 hg2 hy2
  refine holds_tail panicOk_body _ _ (uac_t3 sn mask e s L gP cp ub bg q w g2 y2) trivial ?_
  refine holds_done (by kernel_rfl) ?_
  exact HZ g2 _ (by omega) (by omega)
 refine holds_float (fl:=15) (t:=59) (d:=7) (cs:=(uac_v2)) (ls0:=uac_n1) (ls1:=uac_n2) (f:=1) 15 _ _ (by kernel_rfl) (by kernel_rfl) (by kernel_rfl) (by kernel_rfl) (by decide) (by kernel_rfl) (by kernel_rfl) (by kernel_rfl) (uac_q2 sn mask e s L gP cp ub bg q w) trivial H1 ?_
 intro y2 hy2
 replace hy2:w.heap.size+2<=y2:=hy2
 refine holds_tail panicOk_body _ _ (uac_t4 sn mask e s L gP cp ub bg q w y2) trivial ?_
 refine holds_done (by kernel_rfl) ?_
 exact HZ _ _ (by omega) (by omega)
def usp_v1(sn:Int)(mask:Int)(e:Int)(s:Int)(L:List PartM)(gP:Nat)(cp:Nat)(bg:Bool):List Value:=(ust_v1 sn mask e s L gP cp bg)
@[simp] def usp_b1(sn:Int)(mask:Int)(e:Int)(s:Int)(L:List PartM)(gP:Nat)(cp:Nat)(ub:Nat)(bg:Bool):List Bk:=[⟨ub,178,false,(usp_v1 sn mask e s L gP cp bg)⟩]
def saidPrep_updI(sn:Int)(mask:Int)(e:Int)(s:Int)(L:List PartM)(gP:Nat)(cp:Nat)(ub:Nat)(base:Nat)(bg:Bool)(c:Int)  (m:Nat) (st:St) (W0:World):Prop:=
 ∃(i:Nat)(z:Nat),m+i=L.length∧OwnR W0 base 180 4 (some ⟨gP,0,none⟩) L.length cp (flatV PartM.cells (upTo (openP c) i L))∧st=⟨[(0,(pt ub 0)),(1,i6 c),(2,i6 4),(3,i6 1),(8,i6 (stateL L 2)),(21,i6 ((L.length:Nat):Int)),(22,i6 (i:Int))],(usp_b1 sn mask e s L gP cp ub bg),[],z⟩
theorem saidPrep_upd(sn mask e s:Int)(L:List PartM)(hL8:L.length<=8)(gP cp ub base:Nat)(bg:Bool)(c:Int)(w:World)(hU:Blk w ub 178 [i6 sn,i6 mask,i6 e,i6 s,.slice (some ⟨gP,0,none⟩) L.length cp,.bool bg,.bool false])(hO:OwnR w base 180 4 (some ⟨gP,0,none⟩) L.length cp (flatV PartM.cells L)) :
  Calls Tryz.prog 123 #[.pointer (some ⟨ub,0,none⟩),i6 c,i6 4,i6 1] w (fun e' w'=>e'=.returned (.tuple #[])∧OwnR w' base 180 4 (some ⟨gP,0,none⟩) L.length cp (flatV PartM.cells (L.map (openP c)))∧Kept (fun y=>y=gP) w w'):=by
 refine cH (S:=(fun _=>False)) (n:=84) Tryz.func123 (MemOk.start (bk:=(usp_b1 sn mask e s L gP cp ub bg)) (wn:=[]) (fun b hb=>by obtain rfl:=List.mem_singleton.1 hb; exact hU) (by simp) (by simp) (by simp)) ?_
 refine hgS 16 (dz 6 274759680) [0,1,2,3,15] [fF] [(ub,6,1)] [.ops [1,0] [1,2],.code [1,1]] (usp_b1 sn mask e s L gP cp ub bg) [] w.heap.size ?_
 refine hcq (i6 (stateL L 2)) 124 [(pt ub 0)] (some 16) [] tI rfl (fun wx hm=>state_upd sn mask e s L hL8 gP cp ub base bg wx (hm.at_ 0 rfl) (hO.kept hm.kept (fun _ _ h=>h))) fun z2 hz2=>?_
 refine hgE 15 (dz 7 4362600448) [0,1,2,3,8,21,22] [] [(ub,4,1)] [.code [1,1,1,0],.blk 0] ⟨[(0,(pt ub 0)),(1,i6 c),(2,i6 4),(3,i6 1),(8,i6 (stateL L 2)),(21,i6 ((L.length:Nat):Int)),(22,i6 0)],(usp_b1 sn mask e s L gP cp ub bg),[],z2⟩ ?_
 refine holds_loopW (w:=w) (S':=(fun y=>y=gP)) (saidPrep_updI sn mask e s L gP cp ub base bg c) L.length (by kernel_rfl) (fun W0 hm=>⟨⟨0,_,by omega,by rw[upTo_zero]; exact hO.kept hm.kept (fun _ _ h=>h),rfl⟩,hm.wide (fun _ h=>h.elim)⟩) ?_
 rintro m _ W2 ⟨i,z,hmi,hO2,rfl⟩ hm2 J hJ
 by_cases h1:i<L.length
 rotate_left
 ·skip
  refine hgE 10 (dz 2 0) [] [dF (((i:Int):Int)<((L.length:Nat):Int))] [] [] ⟨[],(usp_b1 sn mask e s L gP cp ub bg),[],W2.heap.size⟩ ?_
  refine holds_end [] (show _=some ([],dupR [])by kernel_rfl) ?_
  intro wx hm
  have h5:=hO2.kept hm.kept (fun y hy ⟨b,hb,hr,_⟩=>by obtain rfl:=List.mem_singleton.1 hb; cases hr)
  rw[upTo_all (by omega)]at h5
  exact⟨rfl,h5,(MemOk.bck hm2 hm).kept⟩
 obtain⟨q,hq⟩:∃q,L[i]?=some q:=⟨_,List.getElem?_eq_getElem h1⟩
 refine holds_wins [⟨gP,0+i*4,[i6 q.col,sT q.blk,.bool q.opn,.bool q.don]⟩] (fun _ y hy=>?_) ?_
 ·simp only[List.mem_cons,List.not_mem_nil,or_false]at hy
  subst hy
  exact⟨fun⟨b,hb,hr,_⟩=>(by obtain rfl:=List.mem_singleton.1 hb; cases hr),(hO2.own gP ⟨_,rfl,rfl⟩).2,own_elem part_len hO2 (upTo_get hq)⟩
 by_cases hcq:q.col=c
 rotate_left
 ·skip
  refine hgE 43 [oh0,oh1,oh0,oh0,oh0,oh0,oh0,(oA 0 4 1),oh0,oh2,oh0,oh0,oh0,oh0,⟨false,0,[⟨true,0,0,1⟩]⟩,oh0,oh0,oh1,oh2,oh0] [0,1,2,3,8,21,22] [dT (((i:Int):Int)<((L.length:Nat):Int)),oE ((0:Int)<=(i:Int)∧(i:Int)<((L.length:Nat):Int)),oE ((q.col != c)=true) (bne_iff_ne.2 hcq),n64 (((i:Int)+1))] [(ub,4,1),(gP,0+i*4,1)] [.inv J,.blk 0] ⟨[(0,(pt ub 0)),(1,i6 c),(2,i6 4),(3,i6 1),(8,i6 (stateL L 2)),(21,i6 ((L.length:Nat):Int)),(22,i6 ((i:Int)+1))],(usp_b1 sn mask e s L gP cp ub bg),[⟨gP,0+i*4,[i6 q.col,sT q.blk,.bool q.opn,.bool q.don]⟩],W2.heap.size⟩ ?_
  refine holds_wins [] (fun _ _ h=>by cases h) ?_
  intro a_ w9 hf hm
  exact hJ (m-1) _ a_ w9 (by omega) ⟨i+1,_,by omega,by rw[upTo_same hq (show openP c q=q from if_neg hcq)]; exact hO2.kept hm.kept (fun y hy ⟨b,hb,hr,_⟩=>by obtain rfl:=List.mem_singleton.1 hb; cases hr),by rw[<-cast_succ i]⟩ hf (MemOk.bck hm2 hm)
 refine hgE 55 [oh0,oh1,oh0,oh0,oh0,oh0,oh0,(oA 0 4 1),oh0,oh2,oh0,oh0,oh0,oh0,⟨false,0,[⟨true,0,0,1⟩]⟩,oh0,oh0,oh0,oh0,oh0,oh0,oh1,oh1,oh3,oh0,oh1,oh0,oh0,oh0] [0,1,2,3,8,21,22,46] [dT (((i:Int):Int)<((L.length:Nat):Int)),oE ((0:Int)<=(i:Int)∧(i:Int)<((L.length:Nat):Int)),oE ((q.col != c)=false) (bne_eq_false_iff_eq.2 hcq),tT,tT,tT,tT] [(ub,4,1),(gP,0+i*4,1)] [.ops [1,1,1,0,0,1,1,0,0,1,1,1,0,1,0] [3],.blk 2,.blk 1,.code [1,1,1,0,0,1,1,1],.inv J,.blk 0] ⟨[(0,(pt ub 0)),(1,i6 c),(2,i6 4),(3,i6 1),(8,i6 (stateL L 2)),(21,i6 ((L.length:Nat):Int)),(22,i6 (i:Int)),(46,.pointer (some ⟨gP,0+i*4+2,none⟩))],(usp_b1 sn mask e s L gP cp ub bg),[⟨gP,0+i*4,[i6 q.col,sT q.blk,.bool q.opn,.bool q.don]⟩],W2.heap.size⟩ ?_
 refine holds_wins [] (fun _ _ h=>by cases h) ?_
 refine holds_opSU (w:=w) (S':=(fun y=>y=gP)) (x:=Instr.storeAt 4 (.pointer (some ⟨gP,0+i*4+2,none⟩)) (.bool true)) (fun W_=>OwnR W_ base 180 4 (some ⟨gP,0,none⟩) L.length cp (flatV PartM.cells (upTo (openP c) (i+1) L))) (by kernel_rfl) (by kernel_rfl) (fun wx hm=>?_) (fun W3 hO3 hm3=>?_)
 ·have hm0:=MemOk.bck hm2 hm
  have hOx:=hO2.kept hm.kept (fun y hy ⟨b,hb,hr,_⟩=>by obtain rfl:=List.mem_singleton.1 hb; cases hr)
  obtain⟨w',h1,h2,h3,_⟩:=own_storeG (P:=Tryz.prog) (t:=4) (v:=.bool true) (0+i*4+2) 1 hOx rfl (by omega) (by kernel_rfl) (ones_all rfl)
  have hs:=flatV_set (f:=PartM.cells) part_len (upTo_get (F:=openP c) hq) (show 2<4 by omega) (show q.cells.set 2 (.bool true)=(openP c q).cells by rw[openP,if_pos hcq]; rfl)
  rw[show 0+i*4+2=i*4+2 by omega]at h2
  rw[show(.bool true:Value).cells.toList=[.bool true]from rfl,hs,upTo_set hq]at h2
  exact⟨w',h1,h2,hm0.offA (fun _ h=>h) h3 (fun y ⟨a,ha,hy⟩=>.inl (by cases ha; exact hy)) (off_tys hm0 (own_tys hOx) rfl)⟩
 refine hgE 10 (dz 2 2) [0,1,2,3,8,21,22] [n64 (((i:Int)+1))] [] [.inv J,.blk 0] ⟨[(0,(pt ub 0)),(1,i6 c),(2,i6 4),(3,i6 1),(8,i6 (stateL L 2)),(21,i6 ((L.length:Nat):Int)),(22,i6 ((i:Int)+1))],(usp_b1 sn mask e s L gP cp ub bg),[],W3.heap.size⟩ ?_
 intro a_ w9 hf hm
 exact hJ (m-1) _ a_ w9 (by omega) ⟨i+1,_,by omega,hO3.kept hm.kept (fun y hy ⟨b,hb,hr,_⟩=>by obtain rfl:=List.mem_singleton.1 hb; cases hr),by rw[<-cast_succ i]⟩ hf (MemOk.bck hm3 hm)
def usc_v1(sn:Int)(mask:Int)(e:Int)(s:Int)(L:List PartM)(gP:Nat)(cp:Nat)(bg:Bool):List Value:=(ust_v1 sn mask e s L gP cp bg)
@[simp] def usc_b1(sn:Int)(mask:Int)(e:Int)(s:Int)(L:List PartM)(gP:Nat)(cp:Nat)(ub:Nat)(bg:Bool):List Bk:=[⟨ub,178,false,(usc_v1 sn mask e s L gP cp bg)⟩]
def saidComm_updI(sn:Int)(mask:Int)(e:Int)(s:Int)(L:List PartM)(gP:Nat)(cp:Nat)(ub:Nat)(base:Nat)(bg:Bool)(c:Int)  (m:Nat) (st:St) (W0:World):Prop:=
 ∃(i:Nat)(z:Nat),m+i=L.length∧OwnR W0 base 180 4 (some ⟨gP,0,none⟩) L.length cp (flatV PartM.cells (upTo (doneP c) i L))∧st=⟨[(0,(pt ub 0)),(1,i6 c),(2,i6 5),(3,i6 1),(8,i6 (stateL L 2)),(21,i6 ((L.length:Nat):Int)),(22,i6 (i:Int))],(usc_b1 sn mask e s L gP cp ub bg),[],z⟩
theorem saidComm_upd(sn mask e s:Int)(L:List PartM)(hL8:L.length<=8)(gP cp ub base:Nat)(bg:Bool)(c:Int)(hst:stateL L 2≠0)(w:World)(hU:Blk w ub 178 [i6 sn,i6 mask,i6 e,i6 s,.slice (some ⟨gP,0,none⟩) L.length cp,.bool bg,.bool false])(hO:OwnR w base 180 4 (some ⟨gP,0,none⟩) L.length cp (flatV PartM.cells L)) :
  Calls Tryz.prog 123 #[.pointer (some ⟨ub,0,none⟩),i6 c,i6 5,i6 1] w (fun e' w'=>e'=.returned (.tuple #[])∧OwnR w' base 180 4 (some ⟨gP,0,none⟩) L.length cp (flatV PartM.cells (L.map (doneP c)))∧Kept (fun y=>y=gP) w w'):=by
 refine cH (S:=(fun _=>False)) (n:=84) Tryz.func123 (MemOk.start (bk:=(usc_b1 sn mask e s L gP cp ub bg)) (wn:=[]) (fun b hb=>by obtain rfl:=List.mem_singleton.1 hb; exact hU) (by simp) (by simp) (by simp)) ?_
 refine hgS 16 (dz 6 274759680) [0,1,2,3,15] [fF] [(ub,6,1)] [.ops [1,0] [1,2],.code [1,1]] (usc_b1 sn mask e s L gP cp ub bg) [] w.heap.size ?_
 refine hcq (i6 (stateL L 2)) 124 [(pt ub 0)] (some 16) [] tI rfl (fun wx hm=>state_upd sn mask e s L hL8 gP cp ub base bg wx (hm.at_ 0 rfl) (hO.kept hm.kept (fun _ _ h=>h))) fun z2 hz2=>?_
 refine hgE 15 (dz 7 4362600448) [0,1,2,3,8,21,22] [] [(ub,4,1)] [.code [1,1,1,0],.blk 0] ⟨[(0,(pt ub 0)),(1,i6 c),(2,i6 5),(3,i6 1),(8,i6 (stateL L 2)),(21,i6 ((L.length:Nat):Int)),(22,i6 0)],(usc_b1 sn mask e s L gP cp ub bg),[],z2⟩ ?_
 refine holds_loopW (w:=w) (S':=(fun y=>y=gP)) (saidComm_updI sn mask e s L gP cp ub base bg c) L.length (by kernel_rfl) (fun W0 hm=>⟨⟨0,_,by omega,by rw[upTo_zero]; exact hO.kept hm.kept (fun _ _ h=>h),rfl⟩,hm.wide (fun _ h=>h.elim)⟩) ?_
 rintro m _ W2 ⟨i,z,hmi,hO2,rfl⟩ hm2 J hJ
 by_cases h1:i<L.length
 rotate_left
 ·skip
  refine hgE 10 (dz 2 0) [] [dF (((i:Int):Int)<((L.length:Nat):Int))] [] [] ⟨[],(usc_b1 sn mask e s L gP cp ub bg),[],W2.heap.size⟩ ?_
  refine holds_end [] (show _=some ([],dupR [])by kernel_rfl) ?_
  intro wx hm
  have h5:=hO2.kept hm.kept (fun y hy ⟨b,hb,hr,_⟩=>by obtain rfl:=List.mem_singleton.1 hb; cases hr)
  rw[upTo_all (by omega)]at h5
  exact⟨rfl,h5,(MemOk.bck hm2 hm).kept⟩
 obtain⟨q,hq⟩:∃q,L[i]?=some q:=⟨_,List.getElem?_eq_getElem h1⟩
 refine holds_wins [⟨gP,0+i*4,[i6 q.col,sT q.blk,.bool q.opn,.bool q.don]⟩] (fun _ y hy=>?_) ?_
 ·simp only[List.mem_cons,List.not_mem_nil,or_false]at hy
  subst hy
  exact⟨fun⟨b,hb,hr,_⟩=>(by obtain rfl:=List.mem_singleton.1 hb; cases hr),(hO2.own gP ⟨_,rfl,rfl⟩).2,own_elem part_len hO2 (upTo_get hq)⟩
 by_cases hcq:q.col=c
 rotate_left
 ·skip
  refine hgE 43 [oh0,oh1,oh0,oh0,oh0,oh0,oh0,(oA 0 4 1),oh0,oh2,oh0,oh0,oh0,oh0,⟨false,0,[⟨true,0,0,1⟩]⟩,oh0,oh0,oh1,oh2,oh0] [0,1,2,3,8,21,22] [dT (((i:Int):Int)<((L.length:Nat):Int)),oE ((0:Int)<=(i:Int)∧(i:Int)<((L.length:Nat):Int)),oE ((q.col != c)=true) (bne_iff_ne.2 hcq),n64 (((i:Int)+1))] [(ub,4,1),(gP,0+i*4,1)] [.inv J,.blk 0] ⟨[(0,(pt ub 0)),(1,i6 c),(2,i6 5),(3,i6 1),(8,i6 (stateL L 2)),(21,i6 ((L.length:Nat):Int)),(22,i6 ((i:Int)+1))],(usc_b1 sn mask e s L gP cp ub bg),[⟨gP,0+i*4,[i6 q.col,sT q.blk,.bool q.opn,.bool q.don]⟩],W2.heap.size⟩ ?_
  refine holds_wins [] (fun _ _ h=>by cases h) ?_
  intro a_ w9 hf hm
  exact hJ (m-1) _ a_ w9 (by omega) ⟨i+1,_,by omega,by rw[upTo_same hq (show doneP c q=q from if_neg hcq)]; exact hO2.kept hm.kept (fun y hy ⟨b,hb,hr,_⟩=>by obtain rfl:=List.mem_singleton.1 hb; cases hr),by rw[<-cast_succ i]⟩ hf (MemOk.bck hm2 hm)
 refine hgE 84 [oh0,oh1,oh0,oh0,oh0,oh0,oh0,(oA 0 4 1),oh0,oh2,oh0,oh0,oh0,oh0,⟨false,0,[⟨true,0,0,1⟩]⟩,oh0,oh0,oh0,oh0,oh0,oh0,oh0,oh0,⟨false,3,[]⟩,oh0,oh0,oh0,oh0,oh0,oh0,oh0,oh0,oh0,oh1,oh1,oh3,oh0,oh0,oh0,oh0,oh0,oh1,oh1,oh3,oh0,oh1,oh0,oh0,oh0] [0,1,2,3,8,21,22,82] [dT (((i:Int):Int)<((L.length:Nat):Int)),oE ((0:Int)<=(i:Int)∧(i:Int)<((L.length:Nat):Int)),oE ((q.col != c)=false) (bne_eq_false_iff_eq.2 hcq),fF,fF,fF,fF,fF,tT,tT,tT,fF,tT,tT,tT,oE (((stateL L 2)!=0)=true) (bne_iff_ne.2 hst)] [(ub,4,1),(gP,0+i*4,1)] [.ops [1,1,1,0,0,1,1,0,0,1,1,1,0,1,1,1,1,1,1,1,0] [3],.blk 2,.blk 1,.code [1,1,1,0,0,1,1,1],.inv J,.blk 0] ⟨[(0,(pt ub 0)),(1,i6 c),(2,i6 5),(3,i6 1),(8,i6 (stateL L 2)),(21,i6 ((L.length:Nat):Int)),(22,i6 (i:Int)),(82,.pointer (some ⟨gP,0+i*4+3,none⟩))],(usc_b1 sn mask e s L gP cp ub bg),[⟨gP,0+i*4,[i6 q.col,sT q.blk,.bool q.opn,.bool q.don]⟩],W2.heap.size⟩ ?_
 refine holds_wins [] (fun _ _ h=>by cases h) ?_
 refine holds_opSU (w:=w) (S':=(fun y=>y=gP)) (x:=Instr.storeAt 4 (.pointer (some ⟨gP,0+i*4+3,none⟩)) (.bool true)) (fun W_=>OwnR W_ base 180 4 (some ⟨gP,0,none⟩) L.length cp (flatV PartM.cells (upTo (doneP c) (i+1) L))) (by kernel_rfl) (by kernel_rfl) (fun wx hm=>?_) (fun W3 hO3 hm3=>?_)
 ·have hm0:=MemOk.bck hm2 hm
  have hOx:=hO2.kept hm.kept (fun y hy ⟨b,hb,hr,_⟩=>by obtain rfl:=List.mem_singleton.1 hb; cases hr)
  obtain⟨w',h1,h2,h3,_⟩:=own_storeG (P:=Tryz.prog) (t:=4) (v:=.bool true) (0+i*4+3) 1 hOx rfl (by omega) (by kernel_rfl) (ones_all rfl)
  have hs:=flatV_set (f:=PartM.cells) part_len (upTo_get (F:=doneP c) hq) (show 3<4 by omega) (show q.cells.set 3 (.bool true)=(doneP c q).cells by rw[doneP,if_pos hcq]; rfl)
  rw[show 0+i*4+3=i*4+3 by omega]at h2
  rw[show(.bool true:Value).cells.toList=[.bool true]from rfl,hs,upTo_set hq]at h2
  exact⟨w',h1,h2,hm0.offA (fun _ h=>h) h3 (fun y ⟨a,ha,hy⟩=>.inl (by cases ha; exact hy)) (off_tys hm0 (own_tys hOx) rfl)⟩
 refine hgE 10 (dz 2 2) [0,1,2,3,8,21,22] [n64 (((i:Int)+1))] [] [.inv J,.blk 0] ⟨[(0,(pt ub 0)),(1,i6 c),(2,i6 5),(3,i6 1),(8,i6 (stateL L 2)),(21,i6 ((L.length:Nat):Int)),(22,i6 ((i:Int)+1))],(usc_b1 sn mask e s L gP cp ub bg),[],W3.heap.size⟩ ?_
 intro a_ w9 hf hm
 exact hJ (m-1) _ a_ w9 (by omega) ⟨i+1,_,by omega,hO3.kept hm.kept (fun y hy ⟨b,hb,hr,_⟩=>by obtain rfl:=List.mem_singleton.1 hb; cases hr),by rw[<-cast_succ i]⟩ hf (MemOk.bck hm3 hm)
end Go.Proofs.YtcmpkkapkdlfhaaGreat
