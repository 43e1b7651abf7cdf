import Derived.Test.YtcmpkkapkdlfhaaGreatParty17
namespace Go.Proofs.YtcmpkkapkdlfhaaGreat
open Go.RowKit
set_option maxHeartbeats 4000000
set_option maxRecDepth 100000
theorem platRight(N S:Int)(hg:3<=N∧N<=6∧1<=S∧S<=8)(w:World) :
  Calls Tryz.prog 26 #[.agg #[i6 N,i6 S]] w (RetK (.bool true) w):=by
 refine cH (S:=(fun _=>False)) (n:=14) Tryz.func26 (MemOk.none w _) ?_
 refine hgS 23 (dz 14 0x2022010108022010008002000800) [2] [vV,vV,vV,vV,vV] [(w.heap.size,0,2),(w.heap.size,0,1),(w.heap.size,1,1)] [.code [1,1]] [⟨w.heap.size,23,true,[i6 N,i6 S]⟩] [] (w.heap.size+1) ?_
 refine hrt [] [.bool (((N:Int)==(minZ (maxZ N 3) 6))&&(((S:Int)==(minZ (maxZ S 1) 8))&&true))] [] ?_
 intro wx hm
 have h1:minZ (maxZ N 3) 6=N:=by unfold minZ maxZ; split<;>split<;>omega
 have h2:minZ (maxZ S 1) 8=S:=by unfold minZ maxZ; split<;>split<;>omega
 exact⟨ret_bool (by rw[h1,h2]; simp),hm.kept⟩
theorem plat_has(N S st c:Int)(hg:3<=N∧N<=6∧1<=S∧S<=8)(h:0<=st∧st<S∧0<=c∧c<N)(w:World) :
  Calls Tryz.prog 104 #[.agg #[i6 N,i6 S],i6 st,i6 c] w (RetK (.bool true) w):=by
 refine cH (S:=(fun _=>False)) (n:=29) Tryz.func104 (MemOk.none w _) ?_
 refine hgS 11 (dz 3 33556480) [1,2,3,6,7] [] [(w.heap.size,0,2)] [.ops [1,0] [1,2,3,4,5,6,7,8,9,10,11,12,13,14,15,16,17,18,19,20,21,22],.code [1,1]] [⟨w.heap.size,23,true,[i6 N,i6 S]⟩] [] (w.heap.size+1) ?_
 refine hcq (.bool true) _ _ (some 8) [] tI rfl (fun wx hm=>platRight N S hg wx) fun z2 hz2=>?_
 refine hgS 25 (dz 21 0x310100091103110310101091103110) [6] ([tT,tT,tT]++rE 5 (dT ((st:Int)>=0))++rE 3 (dT ((st:Int)<S))++rE 5 (dT ((c:Int)>=0))) [(w.heap.size,1,1),(w.heap.size,0,1)] [.code [1,1]] [⟨w.heap.size,23,true,[i6 N,i6 S]⟩] [] z2 ?_
 refine hrt [] [.bool (decide ((c:Int)<N))] [] ?_
 intro wx hm
 exact⟨ret_bool (decide_eq_true (by omega)),hm.kept⟩
theorem plat_hasNot(N S st c:Int)(hg:3<=N∧N<=6∧1<=S∧S<=8)(h:0<=st∧st<S∧c<0)(w:World) :
  Calls Tryz.prog 104 #[.agg #[i6 N,i6 S],i6 st,i6 c] w (RetK (.bool false) w):=by
 refine cH (S:=(fun _=>False)) (n:=29) Tryz.func104 (MemOk.none w _) ?_
 refine hgS 11 (dz 3 33556480) [1,2,3,6,7] [] [(w.heap.size,0,2)] [.ops [1,0] [1,2,3,4,5,6,7,8,9,10,11,12,13,14,15,16,17,18,19,20,21,22],.code [1,1]] [⟨w.heap.size,23,true,[i6 N,i6 S]⟩] [] (w.heap.size+1) ?_
 refine hcq (.bool true) _ _ (some 8) [] tI rfl (fun wx hm=>platRight N S hg wx) fun z2 hz2=>?_
 refine hgS 25 (dz 21 0x4000003110310101091103110) [6] ([tT,tT,tT]++rE 5 (dT ((st:Int)>=0))++rE 3 (dT ((st:Int)<S))++rE 5 (dF ((c:Int)>=0))) [(w.heap.size,1,1)] [.code [1,1]] [⟨w.heap.size,23,true,[i6 N,i6 S]⟩] [] z2 ?_
 refine hrt [] [.bool false] [] ?_
 intro wx hm
 exact⟨rfl,hm.kept⟩
theorem plat_parity(N S:Int)(hg:3<=N∧N<=6∧1<=S∧S<=8)(w:World) :
  Calls Tryz.prog 76 #[.agg #[i6 N,i6 S]] w (RetK (i6 (N-1)) w):=by
 refine cH (S:=(fun _=>False)) (n:=9) Tryz.func76 (MemOk.none w _) ?_
 refine hgS 12 (dz 3 33556480) [1,2,3] [] [(w.heap.size,0,2)] [.ops [1,0,0] [1,2],.code [1,0,1],.code [1,1]] [⟨w.heap.size,23,true,[i6 N,i6 S]⟩] [] (w.heap.size+1) ?_
 refine hcq (.bool true) _ _ (some 4) [] tI rfl (fun wx hm=>platRight N S hg wx) fun z2 hz2=>?_
 refine hgS 14 (dz 6 0x2010008000) [2] [fF,n64 ((N-1))] [(w.heap.size,0,1)] [.code [1,1,1]] [⟨w.heap.size,23,true,[i6 N,i6 S]⟩] [] z2 ?_
 refine hrt [] [i6 (N-1)] [] ?_
 intro wx hm
 exact⟨rfl,hm.kept⟩
theorem plat_blocks(N S:Int)(hg:3<=N∧N<=6∧1<=S∧S<=8)(w:World) :
  Calls Tryz.prog 75 #[.agg #[i6 N,i6 S]] w (RetK (i6 (S*(N-1))) w):=by
 refine cH (S:=(fun _=>False)) (n:=12) Tryz.func75 (MemOk.none w _) ?_
 have hm1:0<=S*(N-1):=Int.mul_nonneg (by omega) (by omega)
 have hm2:S*(N-1)<=8*5:=Int.mul_le_mul (by omega) (by omega) (by omega) (by omega)
 refine hgS 12 (dz 3 33556480) [1,2,3] [] [(w.heap.size,0,2)] [.ops [1,0,0] [1,2],.code [1,0,1],.code [1,1]] [⟨w.heap.size,23,true,[i6 N,i6 S]⟩] [] (w.heap.size+1) ?_
 refine hcq (.bool true) _ _ (some 4) [] tI rfl (fun wx hm=>platRight N S hg wx) fun z2 hz2=>?_
 refine hgS 17 (dz 9 0x220100080010108000) [2] [fF,n64 ((N-1)),n64 ((S*(N-1)))] [(w.heap.size,1,1),(w.heap.size,0,1)] [.code [1,1,1]] [⟨w.heap.size,23,true,[i6 N,i6 S]⟩] [] z2 ?_
 refine hrt [] [i6 (S*(N-1))] [] ?_
 intro wx hm
 exact⟨rfl,hm.kept⟩
theorem plat_nodeOf(N S st c:Int)(hg:3<=N∧N<=6∧1<=S∧S<=8)(h:0<=st∧st<S∧0<=c∧c<N)(w:World) :
  Calls Tryz.prog 77 #[.agg #[i6 N,i6 S],i6 st,i6 c] w (RetK (i6 ((c+st)%N)) w):=by
 refine cH (S:=(fun _=>False)) (n:=18) Tryz.func77 (MemOk.none w _) ?_
 refine hgS 14 (dz 5 33556480) [1,2,3,6,7,8,9] [] [(w.heap.size,0,2)] [.ops [1,0,0] [3,4],.code [1,0,1],.code [1,1]] [⟨w.heap.size,23,true,[i6 N,i6 S]⟩] [] (w.heap.size+1) ?_
 refine hcq (.bool true) _ _ (some 10) [] tI rfl (fun wx hm=>plat_has N S st c hg ⟨by omega,by omega,by omega,by omega⟩ wx) fun z2 hz2=>?_
 refine hgS 17 (dz 9 0x2010008020000) [6] [fF,n64 ((c+st)),oE ((0:Int)<=(c+st)∧(0:Int)<N)] [(w.heap.size,0,1)] [.code [1,1,1]] [⟨w.heap.size,23,true,[i6 N,i6 S]⟩] [] z2 ?_
 refine hrt [] [i6 ((c+st)%N)] [] ?_
 intro wx hm
 exact⟨rfl,hm.kept⟩
@[simp] def plc_b1(N:Int)(S:Int)(w:World):List Bk:=[⟨w.heap.size,23,true,[i6 N,i6 S]⟩]
theorem plc_q4(N:Int)(S:Int)(st:Int)(nd:Int)(w:World)(z2:Nat):Out.prune [6] (qListG Tryz.prog 24 w (fun _=>False) (opsOf (getCode (bodyOf Tryz.f78) [1,1,0])) (opsOf (getCode (bodyOf Tryz.f78) [1,1,0])).toList ⟨[(1,i6 st),(2,i6 nd),(3,(pt w.heap.size 0)),(6,i6 0)],(plc_b1 N S w),[],z2⟩ [(false,.op oh0),(false,.op oh0),(false,.op (oA 0 0 1)),(false,.op oh2),(false,.op oh0),(false,.op oh0),(false,.op (oA 0 0 1)),(false,.op oh2),(false,.op oh2),(false,.op oh0),(false,.op (oA 0 0 1)),(false,.op oh2),(false,.op oh0)])=some ⟨[inR .i64 ((nd+N)),(0:Int)<=st∧(0:Int)<N,inR .i64 (((nd+N)-(st%N))),(0:Int)<=((nd+N)-(st%N))∧(0:Int)<N],dupR [(w.heap.size,0,1),(w.heap.size,0,1),(w.heap.size,0,1)],⟨[(6,i6 (((nd+N)-(st%N))%N))],(plc_b1 N S w),[],z2⟩⟩:=by kernel_rfl
theorem plat_columnOf(N S st nd:Int)(hg:3<=N∧N<=6∧1<=S∧S<=8)(h:0<=st∧st<S∧0<=nd∧nd<N)(w:World) :
  Calls Tryz.prog 78 #[.agg #[i6 N,i6 S],i6 st,i6 nd] w (RetK (i6 ((nd+N-st%N)%N)) w):=by
 refine cH (S:=(fun _=>False)) (n:=24) Tryz.func78 (MemOk.none w _) ?_
 have hmb:0<=st%N∧st%N<N:=⟨Int.emod_nonneg _ (by omega),Int.emod_lt_of_pos _ (by omega)⟩
 refine hgS 14 (dz 5 33556480) [1,2,3,6,7,8,9] [] [(w.heap.size,0,2)] [.ops [1,0,0] [3,4],.code [1,0,1],.code [1,1]] (plc_b1 N S w) [] (w.heap.size+1) ?_
 refine hcq (.bool true) _ _ (some 10) [] tI rfl (fun wx hm=>plat_has N S st nd hg ⟨by omega,by omega,by omega,by omega⟩ wx) fun z2 hz2=>?_
 refine hgE 8 (dz 2 0) [1,2,3,6] [fF] [] [.code [1,1,0],.code [1,1,1]] ⟨[(1,i6 st),(2,i6 nd),(3,(pt w.heap.size 0)),(6,i6 0)],(plc_b1 N S w),[],z2⟩ ?_
 refine holds_quietG _ _ (by kernel_rfl) (by kernel_rfl) (by kernel_rfl) (plc_q4 N S st nd w z2) ⟨in64 (by omega),⟨by omega,by omega⟩,in64 (by omega),⟨by omega,by omega⟩,trivial⟩ fun z4 hz4=>?_
 replace hz4:z2<=z4:=hz4
 refine hgS 3 [] [6] [] [] [.code [1,1,1]] (plc_b1 N S w) [] z4 ?_
 refine hrt [] [i6 (((nd+N)-(st%N))%N)] [] ?_
 intro wx hm
 exact⟨rfl,hm.kept⟩
theorem plat_columnNone(N S st nd:Int)(hg:3<=N∧N<=6∧1<=S∧S<=8)(h:0<=st∧st<S∧nd<0)(w:World) :
  Calls Tryz.prog 78 #[.agg #[i6 N,i6 S],i6 st,i6 nd] w (RetK (i6 (-1)) w):=by
 refine cH (S:=(fun _=>False)) (n:=24) Tryz.func78 (MemOk.none w _) ?_
 refine hgS 14 (dz 5 33556480) [1,2,3,6,7,8,9] [] [(w.heap.size,0,2)] [.ops [1,0,0] [3,4],.code [1,0,1],.code [1,1]] [⟨w.heap.size,23,true,[i6 N,i6 S]⟩] [] (w.heap.size+1) ?_
 refine hcq (.bool false) _ _ (some 10) [] tI rfl (fun wx hm=>plat_hasNot N S st nd hg ⟨by omega,by omega,by omega⟩ wx) fun z2 hz2=>?_
 refine hgS 10 (dz 3 16) [1,2,3,6] [tT] [] [.code [1,0,1,0,1],.code [1,1]] [⟨w.heap.size,23,true,[i6 N,i6 S]⟩] [] z2 ?_
 refine hrt [] [i6 (-1)] [] ?_
 intro wx hm
 exact⟨rfl,hm.kept⟩
section
variable (N S b:Int)(w:World)
def plo_v1:List Value:=[i6 (b/(N-1)),i6 (b%(N-1)),i6 (((b%(N-1))+(b/(N-1)))%N)]
@[simp] def plo_b1:List Bk:=[⟨w.heap.size,23,true,[i6 N,i6 S]⟩,⟨w.heap.size+1,126,true,[i6 0,i6 0,i6 0]⟩]
theorem plo_q4(z2:Nat):Out.prune [2,4,5,6,7] (qListG Tryz.prog 32 w (fun _=>False) (opsOf (getCode (bodyOf Tryz.f45) [1,1,0])) (opsOf (getCode (bodyOf Tryz.f45) [1,1,0])).toList ⟨[(1,i6 b),(2,(pt w.heap.size 0)),(4,(pt (w.heap.size+1) 0)),(5,i6 0)],(plo_b1 N S w),[],z2⟩ [(false,.op oh0),(false,.op (oA 0 0 2)),(false,.call (i6 (N-1))),(false,.op oh2),(false,.op oh0),(false,.op (oA 0 0 2)),(false,.call (i6 (N-1))),(false,.op oh2),(false,.op oh0),(false,.op oh0)])=some ⟨[∀w',MemC w (fun _=>False) (plo_b1 N S w) [] z2 w'->Calls Tryz.prog 76 #[.agg #[i6 N,i6 S]] w' (RetK (i6 (N-1)) w'),(0:Int)<=b∧(0:Int)<(N-1)∧b<=IntKind.max .i64,∀w',MemC w (fun _=>False) (plo_b1 N S w) [] z2 w'->Calls Tryz.prog 76 #[.agg #[i6 N,i6 S]] w' (RetK (i6 (N-1)) w'),(0:Int)<=b∧(0:Int)<(N-1)],dupR [(w.heap.size,0,2),(w.heap.size,0,2)],⟨[(2,(pt w.heap.size 0)),(4,(pt (w.heap.size+1) 0)),(5,i6 0),(6,i6 (b/(N-1))),(7,i6 (b%(N-1)))],(plo_b1 N S w),[],z2⟩⟩:=by kernel_rfl
end
theorem plat_of(N S b:Int)(hg:3<=N∧N<=6∧1<=S∧S<=8)(hb:0<=b∧b<S*(N-1))(w:World) :
  Calls Tryz.prog 45 #[.agg #[i6 N,i6 S],i6 b] w (RetK (.tuple #[.agg #[i6 (b/(N-1)),i6 (b%(N-1)),i6 ((b%(N-1)+b/(N-1))%N)],i6 0]) w):=by
 refine cH (S:=(fun _=>False)) (n:=32) Tryz.func45 (MemOk.none w _) ?_
 have hd:0<=b/(N-1)∧b/(N-1)<S:=⟨Int.ediv_nonneg (by omega) (by omega),Int.ediv_lt_of_lt_mul (by omega) hb.2⟩
 have he:0<=b%(N-1)∧b%(N-1)<N-1:=⟨Int.emod_nonneg _ (by omega),Int.emod_lt_of_pos _ (by omega)⟩
 have hm2:S*(N-1)<=8*5:=Int.mul_le_mul (by omega) (by omega) (by omega) (by omega)
 refine hgS 17 (dz 8 0x200080000000) [1,2,4,5,10,11,12] (rE 2 (dF ((b:Int)<0))) [(w.heap.size,0,2)] [.ops [1,0,0] [5,6,7],.code [1,0,1],.code [1,1]] (plo_b1 N S w) [] (w.heap.size+2) ?_
 refine hcq (i6 (S*(N-1))) _ _ (some 13) [(decide ((b:Int)<0))=false] ⟨decide_eq_false (by omega),tI⟩ rfl (fun wx hm=>plat_blocks N S hg wx) fun z2 hz2=>?_
 refine hgE 9 (dz 3 64) [1,2,4,5] (rE 2 (dF ((b:Int)<0))++[dF ((b:Int)>=(S*(N-1)))]) [] [.code [1,1,0],.code [1,1,1]] ⟨[(1,i6 b),(2,(pt w.heap.size 0)),(4,(pt (w.heap.size+1) 0)),(5,i6 0)],(plo_b1 N S w),[],z2⟩ ?_
 refine holds_quietG _ _ (by kernel_rfl) (by kernel_rfl) (by kernel_rfl) (plo_q4 N S b w z2) ⟨(fun wx hm=>plat_parity N S hg wx),⟨by omega,by omega,le_max64 (by omega)⟩,(fun wx hm=>plat_parity N S hg wx),⟨by omega,by omega⟩,trivial⟩ fun z4 hz4=>?_
 replace hz4:z2<=z4:=hz4
 refine hgS 10 (dz 5 33556480) [4,5,25,26,27,28,29] [] [(w.heap.size,0,2)] [.ops [1,1,1,0] [5,6,7,8],.code [1,1,1,1]] (plo_b1 N S w) [] z4 ?_
 refine hcq (i6 (((b%(N-1))+(b/(N-1)))%N)) _ _ (some 30) [] tI rfl (fun wx hm=>plat_nodeOf N S (b/(N-1)) (b%(N-1)) hg ⟨by omega,by omega,by omega,by omega⟩ wx) fun z6 hz6=>?_
 refine hgS 7 (dz 3 3146112) [4,5] [] [(w.heap.size+1,0,3)] [.code [1,1,1,1]] [⟨w.heap.size,23,true,[i6 N,i6 S]⟩,⟨w.heap.size+1,126,true,(plo_v1 N b)⟩] [] z6 ?_
 refine hrt [[⟨false,1,0,3⟩]] [.agg (List.toArray (plo_v1 N b)),i6 0] [(w.heap.size+1,0,3)] ?_
 intro wx hm
 exact⟨rfl,hm.kept⟩
theorem pwithin_any(now:Int)(w:World) :
  Calls Tryz.prog 31 #[i6 now] w (RetK (i6 (within14 now)) w):=by
 refine cH (S:=(fun _=>False)) (n:=6) Tryz.func31 (MemOk.none w _) ?_
 refine hgS 14 (dz 5 8704) [2] [vV,vV] [] [.code [1,1]] [] [] w.heap.size ?_
 refine hrt [] [i6 (minZ (maxZ now 0) 1099511627776)] [] ?_
 intro wx hm
 exact⟨rfl,hm.kept⟩
theorem pil_busy(x:PilC)(pb:Nat)(w:World)(hP:Blk w pb 98 (PilC.cells x)) :
  Calls Tryz.prog 15 #[.pointer (some ⟨pb,0,none⟩)] w (RetK (.bool x.busy) w):=by
 refine cH (S:=(fun _=>False)) (n:=7) Tryz.func15 (MemOk.start (bk:=[⟨pb,98,false,(PilC.cells x)⟩]) (wn:=[]) (fun b hb=>by obtain rfl:=List.mem_singleton.1 hb; exact hP) (fun b hb _=>by obtain rfl:=List.mem_singleton.1 hb; cases ‹_›) (by simp) (by simp)) ?_
 refine hgS 15 (dz 6 5016911872) [2] [] [(pb,43,1)] [.code [1,1]] [⟨pb,98,false,(PilC.cells x)⟩] [] w.heap.size ?_
 refine hrt [] [.bool x.busy] [] ?_
 intro wx hm
 exact⟨rfl,hm.kept⟩
theorem pla_q2(x:PilC)(pb:Nat)(w:World):Out.prune [2,3,4] (qListG Tryz.prog 17 w (fun _=>False) (opsOf (getCode (bodyOf Tryz.f20) [1,0])) (opsOf (getCode (bodyOf Tryz.f20) [1,0])).toList ⟨[(0,(pt pb 0)),(2,i6 0),(3,sT ⟨#[]⟩),(4,i6 0)],[⟨pb,98,false,(PilC.cells x)⟩],[],w.heap.size⟩ [(false,.op oh0),(false,.op oh0),(false,.op oh0),(false,.op (oA 0 70 1)),(false,.op oh0),(false,.op oh0),(false,.op oh0),(false,.op (oA 0 71 1)),(false,.op oh0),(false,.op oh0),(false,.op oh0),(false,.op (oA 0 72 1)),(false,.op oh0),(false,.op oh0),(false,.op oh0)])=some ⟨[],dupR [(pb,70,1),(pb,71,1),(pb,72,1)],⟨[(2,i6 x.er),(3,sT x.dt),(4,i6 x.ed)],[⟨pb,98,false,(PilC.cells x)⟩],[],w.heap.size⟩⟩:=by kernel_rfl
theorem pil_last(x:PilC)(pb:Nat)(w:World)(hP:Blk w pb 98 (PilC.cells x)) :
  Calls Tryz.prog 20 #[.pointer (some ⟨pb,0,none⟩)] w (RetK (.tuple #[i6 x.er,sT x.dt,i6 x.ed]) w):=by
 refine cH (S:=(fun _=>False)) (n:=17) Tryz.func20 (MemOk.start (bk:=[⟨pb,98,false,(PilC.cells x)⟩]) (wn:=[]) (fun b hb=>by obtain rfl:=List.mem_singleton.1 hb; exact hP) (fun b hb _=>by obtain rfl:=List.mem_singleton.1 hb; cases ‹_›) (by simp) (by simp)) ?_
 refine hgE 10 (dz 3 0) [0,2,3,4] [] [] [.code [1,0],.code [1,1]] ⟨[(0,(pt pb 0)),(2,i6 0),(3,sT ⟨#[]⟩),(4,i6 0)],[⟨pb,98,false,(PilC.cells x)⟩],[],w.heap.size⟩ ?_
 refine holds_quietG _ _ (by kernel_rfl) (by kernel_rfl) (by kernel_rfl) (pla_q2 x pb w) trivial fun z2 hz2=>?_
 replace hz2:w.heap.size<=z2:=hz2
 refine hgS 3 [] [2,3,4] [] [] [.code [1,1]] [⟨pb,98,false,(PilC.cells x)⟩] [] z2 ?_
 refine hrt [] [i6 x.er,sT x.dt,i6 x.ed] [] ?_
 intro wx hm
 exact⟨rfl,hm.kept⟩
theorem pnd_q2(x:PilC)(pb:Nat)(w:World)(k:Int):Out.prune [4] (qListG Tryz.prog 16 w (fun _=>False) (opsOf (getCode (bodyOf Tryz.f81) [1,0])) (opsOf (getCode (bodyOf Tryz.f81) [1,0])).toList ⟨[(0,(pt pb 0)),(1,i6 k),(4,i6 0)],[⟨pb,98,false,(PilC.cells x)⟩],[],w.heap.size⟩ [(false,.op oh0),(false,.op oh0),(false,.op oh0),(false,.op (oA 0 0 2)),(false,.op oh0),(false,.op oh0),(false,.op oh0),(false,.op oh0),(false,.op (oA 0 47 1)),(false,.op oh0),(false,.call (i6 ((k+x.sn)%x.N))),(false,.op oh0)])=some ⟨[∀w',MemC w (fun _=>False) [⟨pb,98,false,(PilC.cells x)⟩] [] w.heap.size w'->Calls Tryz.prog 77 #[.agg #[i6 x.N,i6 x.S],i6 x.sn,i6 k] w' (RetK (i6 ((k+x.sn)%x.N)) w')],dupR [(pb,0,2),(pb,47,1)],⟨[(4,i6 ((k+x.sn)%x.N))],[⟨pb,98,false,(PilC.cells x)⟩],[],w.heap.size⟩⟩:=by kernel_rfl
theorem pil_node(x:PilC)(pb:Nat)(k:Int)(hg:3<=x.N∧x.N<=6∧1<=x.S∧x.S<=8)(hs:0<=x.sn∧x.sn<x.S)(hk:0<=k∧k<x.N)(w:World)(hP:Blk w pb 98 (PilC.cells x)) :
  Calls Tryz.prog 81 #[.pointer (some ⟨pb,0,none⟩),i6 k] w (RetK (i6 ((k+x.sn)%x.N)) w):=by
 refine cH (S:=(fun _=>False)) (n:=16) Tryz.func81 (MemOk.start (bk:=[⟨pb,98,false,(PilC.cells x)⟩]) (wn:=[]) (fun b hb=>by obtain rfl:=List.mem_singleton.1 hb; exact hP) (fun b hb _=>by obtain rfl:=List.mem_singleton.1 hb; cases ‹_›) (by simp) (by simp)) ?_
 refine hgE 8 [oh0] [0,1,4] [] [] [.code [1,0],.code [1,1]] ⟨[(0,(pt pb 0)),(1,i6 k),(4,i6 0)],[⟨pb,98,false,(PilC.cells x)⟩],[],w.heap.size⟩ ?_
 refine holds_quietG _ _ (by kernel_rfl) (by kernel_rfl) (by kernel_rfl) (pnd_q2 x pb w k) ⟨(fun wx hm=>plat_nodeOf x.N x.S x.sn k hg ⟨by omega,by omega,by omega,by omega⟩ wx),trivial⟩ fun z2 hz2=>?_
 replace hz2:w.heap.size<=z2:=hz2
 refine hgS 3 [] [4] [] [] [.code [1,1]] [⟨pb,98,false,(PilC.cells x)⟩] [] z2 ?_
 refine hrt [] [i6 ((k+x.sn)%x.N)] [] ?_
 intro wx hm
 exact⟨rfl,hm.kept⟩
theorem pcl_q2(x:PilC)(pb:Nat)(w:World)(k:Int):Out.prune [4] (qListG Tryz.prog 16 w (fun _=>False) (opsOf (getCode (bodyOf Tryz.f46) [1,0])) (opsOf (getCode (bodyOf Tryz.f46) [1,0])).toList ⟨[(0,(pt pb 0)),(1,i6 k),(4,i6 0)],[⟨pb,98,false,(PilC.cells x)⟩],[],w.heap.size⟩ [(false,.op oh0),(false,.op oh0),(false,.op oh0),(false,.op (oA 0 0 2)),(false,.op oh0),(false,.op oh0),(false,.op oh0),(false,.op oh0),(false,.op (oA 0 47 1)),(false,.op oh0),(false,.call (i6 ((k+x.N-x.sn%x.N)%x.N))),(false,.op oh0)])=some ⟨[∀w',MemC w (fun _=>False) [⟨pb,98,false,(PilC.cells x)⟩] [] w.heap.size w'->Calls Tryz.prog 78 #[.agg #[i6 x.N,i6 x.S],i6 x.sn,i6 k] w' (RetK (i6 ((k+x.N-x.sn%x.N)%x.N)) w')],dupR [(pb,0,2),(pb,47,1)],⟨[(4,i6 ((k+x.N-x.sn%x.N)%x.N))],[⟨pb,98,false,(PilC.cells x)⟩],[],w.heap.size⟩⟩:=by kernel_rfl
theorem pil_column(x:PilC)(pb:Nat)(k:Int)(hg:3<=x.N∧x.N<=6∧1<=x.S∧x.S<=8)(hs:0<=x.sn∧x.sn<x.S)(hk:0<=k∧k<x.N)(w:World)(hP:Blk w pb 98 (PilC.cells x)) :
  Calls Tryz.prog 46 #[.pointer (some ⟨pb,0,none⟩),i6 k] w (RetK (i6 ((k+x.N-x.sn%x.N)%x.N)) w):=by
 refine cH (S:=(fun _=>False)) (n:=16) Tryz.func46 (MemOk.start (bk:=[⟨pb,98,false,(PilC.cells x)⟩]) (wn:=[]) (fun b hb=>by obtain rfl:=List.mem_singleton.1 hb; exact hP) (fun b hb _=>by obtain rfl:=List.mem_singleton.1 hb; cases ‹_›) (by simp) (by simp)) ?_
 refine hgE 8 [oh0] [0,1,4] [] [] [.code [1,0],.code [1,1]] ⟨[(0,(pt pb 0)),(1,i6 k),(4,i6 0)],[⟨pb,98,false,(PilC.cells x)⟩],[],w.heap.size⟩ ?_
 refine holds_quietG _ _ (by kernel_rfl) (by kernel_rfl) (by kernel_rfl) (pcl_q2 x pb w k) ⟨(fun wx hm=>plat_columnOf x.N x.S x.sn k hg ⟨by omega,by omega,by omega,by omega⟩ wx),trivial⟩ fun z2 hz2=>?_
 replace hz2:w.heap.size<=z2:=hz2
 refine hgS 3 [] [4] [] [] [.code [1,1]] [⟨pb,98,false,(PilC.cells x)⟩] [] z2 ?_
 refine hrt [] [i6 ((k+x.N-x.sn%x.N)%x.N)] [] ?_
 intro wx hm
 exact⟨rfl,hm.kept⟩
theorem pcz_q2(x:PilC)(pb:Nat)(w:World):Out.prune [4] (qListG Tryz.prog 16 w (fun _=>False) (opsOf (getCode (bodyOf Tryz.f46) [1,0])) (opsOf (getCode (bodyOf Tryz.f46) [1,0])).toList ⟨[(0,(pt pb 0)),(1,i6 (-1)),(4,i6 0)],[⟨pb,98,false,(PilC.cells x)⟩],[],w.heap.size⟩ [(false,.op oh0),(false,.op oh0),(false,.op oh0),(false,.op (oA 0 0 2)),(false,.op oh0),(false,.op oh0),(false,.op oh0),(false,.op oh0),(false,.op (oA 0 47 1)),(false,.op oh0),(false,.call (i6 (-1))),(false,.op oh0)])=some ⟨[∀w',MemC w (fun _=>False) [⟨pb,98,false,(PilC.cells x)⟩] [] w.heap.size w'->Calls Tryz.prog 78 #[.agg #[i6 x.N,i6 x.S],i6 x.sn,i6 (-1)] w' (RetK (i6 (-1)) w')],dupR [(pb,0,2),(pb,47,1)],⟨[(4,i6 (-1))],[⟨pb,98,false,(PilC.cells x)⟩],[],w.heap.size⟩⟩:=by kernel_rfl
theorem pil_columnNone(x:PilC)(pb:Nat)(hg:3<=x.N∧x.N<=6∧1<=x.S∧x.S<=8)(hs:0<=x.sn∧x.sn<x.S)(w:World)(hP:Blk w pb 98 (PilC.cells x)) :
  Calls Tryz.prog 46 #[.pointer (some ⟨pb,0,none⟩),i6 (-1)] w (RetK (i6 (-1)) w):=by
 refine cH (S:=(fun _=>False)) (n:=16) Tryz.func46 (MemOk.start (bk:=[⟨pb,98,false,(PilC.cells x)⟩]) (wn:=[]) (fun b hb=>by obtain rfl:=List.mem_singleton.1 hb; exact hP) (fun b hb _=>by obtain rfl:=List.mem_singleton.1 hb; cases ‹_›) (by simp) (by simp)) ?_
 refine hgE 8 [oh0] [0,1,4] [] [] [.code [1,0],.code [1,1]] ⟨[(0,(pt pb 0)),(1,i6 (-1)),(4,i6 0)],[⟨pb,98,false,(PilC.cells x)⟩],[],w.heap.size⟩ ?_
 refine holds_quietG _ _ (by kernel_rfl) (by kernel_rfl) (by kernel_rfl) (pcz_q2 x pb w) ⟨(fun wx hm=>plat_columnNone x.N x.S x.sn (-1) hg ⟨by omega,by omega,by omega⟩ wx),trivial⟩ fun z2 hz2=>?_
 replace hz2:w.heap.size<=z2:=hz2
 refine hgS 3 [] [4] [] [] [.code [1,1]] [⟨pb,98,false,(PilC.cells x)⟩] [] z2 ?_
 refine hrt [] [i6 (-1)] [] ?_
 intro wx hm
 exact⟨rfl,hm.kept⟩
theorem pil_enter(x:PilC)(c:CM)(pb base:Nat)(fr:Fn)(fa fb:Array Value)(w:World)(hP:Blk w pb 98 (PilC.cells x))(hQ:PartyX 124 141 w base x.cb c) :
  Calls Tryz.prog 53 #[.pointer (some ⟨pb,0,none⟩),(.func fr fa fb)] w (fun e w'=>e=.returned (.tuple #[])∧Blk w' pb 98 (PilC.cells { x with nx:=(.func fr fa fb),lg:=false })∧(∀base',PartyX 124 141 w' base' x.cb { c with opn:=[] })∧Kept (fun y=>y=pb∨y=x.cb) w w'):=by
 refine cH (S:=(fun y=>y=pb)) (n:=18) Tryz.func53 (MemOk.start (bk:=[⟨pb,98,true,(PilC.cells x)⟩]) (wn:=[]) (fun b hb=>by obtain rfl:=List.mem_singleton.1 hb; exact hP) (fun b hb _=>by obtain rfl:=List.mem_singleton.1 hb; rfl) (by simp) (by simp)) ?_
 have hne:pb≠x.cb:=fun e=>absurd (tyIn_one (e▸blk_ty hP) hQ.blk) (by decide)
 refine hgS 9 (dz 4 270565376) [0,1,7] [] [(pb,2,1)] [.ops [0] [4],.code [1]] [⟨pb,98,true,(PilC.cells x)⟩] [] w.heap.size ?_
 refine hcV (w:=w) (S':=(fun y=>y=pb∨y=x.cb)) (Y:=Unit) (fun _=>.tuple #[]) (fun _=>[⟨pb,98,true,(PilC.cells x)⟩]) (fun _ W_=>∀base',PartyX 124 141 W_ base' x.cb { c with opn:=[] }) (show _=some (79,[(pt x.cb 0)],some 8,[])by kernel_rfl) tI (fun wx hm=>?_) (fun y_ W1 hQ1 hm1=>?_)
 ·have hm0:=hm.wide (S':=(fun y=>y=pb∨y=x.cb)) (fun _ h=>.inl h)
  refine(drop_partyX (hQ.keptT (es:=[98]) hm.kept (fun y hy=>by subst hy; exact⟨98,by simp,blk_ty hP⟩) rfl rfl)).mono fun e w' hq=>?_
  obtain⟨h1,h2,h3⟩:=hq
  exact⟨(),h1,h2,hm0.offA (fun _ h=>h) h3 (fun y hy=>.inl (.inr hy)) (fun b hb hy=>by obtain rfl:=List.mem_singleton.1 hb; exact hne hy)⟩
 refine hgE 17 (dz 11 0x13208000013108000000) [] [] [(pb,49,1),(pb,50,1)] [] ⟨[],[⟨pb,98,true,(PilC.cells { x with nx:=(.func fr fa fb),lg:=false })⟩],[],W1.heap.size⟩ ?_
 refine holds_end [] (show _=some ([],dupR [])by kernel_rfl) ?_
 intro wx hm
 exact⟨rfl,hm.at_ 0 rfl,fun base'=>(hQ1 base').keptT hm.kept (turned_tys hm1) rfl rfl,(MemOk.bck hm1 hm).kept⟩
theorem pil_enterNil(x:PilC)(c:CM)(pb base:Nat)(w:World)(hP:Blk w pb 98 (PilC.cells x))(hQ:PartyX 124 141 w base x.cb c) :
  Calls Tryz.prog 53 #[.pointer (some ⟨pb,0,none⟩),.nilFunc] w (fun e w'=>e=.returned (.tuple #[])∧Blk w' pb 98 (PilC.cells { x with nx:=.nilFunc,lg:=false })∧(∀base',PartyX 124 141 w' base' x.cb { c with opn:=[] })∧Kept (fun y=>y=pb∨y=x.cb) w w'):=by
 refine cH (S:=(fun y=>y=pb)) (n:=18) Tryz.func53 (MemOk.start (bk:=[⟨pb,98,true,(PilC.cells x)⟩]) (wn:=[]) (fun b hb=>by obtain rfl:=List.mem_singleton.1 hb; exact hP) (fun b hb _=>by obtain rfl:=List.mem_singleton.1 hb; rfl) (by simp) (by simp)) ?_
 have hne:pb≠x.cb:=fun e=>absurd (tyIn_one (e▸blk_ty hP) hQ.blk) (by decide)
 refine hgS 9 (dz 4 270565376) [0,1,7] [] [(pb,2,1)] [.ops [0] [4],.code [1]] [⟨pb,98,true,(PilC.cells x)⟩] [] w.heap.size ?_
 refine hcV (w:=w) (S':=(fun y=>y=pb∨y=x.cb)) (Y:=Unit) (fun _=>.tuple #[]) (fun _=>[⟨pb,98,true,(PilC.cells x)⟩]) (fun _ W_=>∀base',PartyX 124 141 W_ base' x.cb { c with opn:=[] }) (show _=some (79,[(pt x.cb 0)],some 8,[])by kernel_rfl) tI (fun wx hm=>?_) (fun y_ W1 hQ1 hm1=>?_)
 ·have hm0:=hm.wide (S':=(fun y=>y=pb∨y=x.cb)) (fun _ h=>.inl h)
  refine(drop_partyX (hQ.keptT (es:=[98]) hm.kept (fun y hy=>by subst hy; exact⟨98,by simp,blk_ty hP⟩) rfl rfl)).mono fun e w' hq=>?_
  obtain⟨h1,h2,h3⟩:=hq
  exact⟨(),h1,h2,hm0.offA (fun _ h=>h) h3 (fun y hy=>.inl (.inr hy)) (fun b hb hy=>by obtain rfl:=List.mem_singleton.1 hb; exact hne hy)⟩
 refine hgE 17 (dz 11 0x13208000013108000000) [] [] [(pb,49,1),(pb,50,1)] [] ⟨[],[⟨pb,98,true,(PilC.cells { x with nx:=.nilFunc,lg:=false })⟩],[],W1.heap.size⟩ ?_
 refine holds_end [] (show _=some ([],dupR [])by kernel_rfl) ?_
 intro wx hm
 exact⟨rfl,hm.at_ 0 rfl,fun base'=>(hQ1 base').keptT hm.kept (turned_tys hm1) rfl rfl,(MemOk.bck hm1 hm).kept⟩
end Go.Proofs.YtcmpkkapkdlfhaaGreat
