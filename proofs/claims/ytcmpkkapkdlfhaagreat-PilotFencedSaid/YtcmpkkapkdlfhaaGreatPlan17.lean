import Derived.Test.YtcmpkkapkdlfhaaGreatLib17
namespace Go.Proofs.YtcmpkkapkdlfhaaGreat
open Go.RowKit
set_option maxHeartbeats 4000000
set_option maxRecDepth 100000
theorem platRight (N S:Int) (hg:3 ≤ N ∧ N ≤ 6 ∧ 1 ≤ S ∧ S ≤ 8) (w:World) :
  Calls Tryz.prog 26 #[.agg #[i6 N,i6 S]] w (RetK (.bool true) w):=by
 refine cH (S:=(fun _=>False)) (n:=14) Tryz.func26 (MemOk.none w _) ?_
 refine hgS 23 (dz 14 0x2022010108022010008002000800) [2] [vV,vV,vV,vV,vV] [(w.heap.size,0,2),(w.heap.size,0,1),(w.heap.size,1,1)] [.code [1,1]] [⟨w.heap.size,23,true,[i6 N,i6 S]⟩] [] (w.heap.size + 1) ?_
 refine hrt [] [.bool (((N:Int) == (minZ (maxZ N 3) 6)) && (((S:Int) == (minZ (maxZ S 1) 8)) && true))] [] ?_
 intro wx hm
 have h1:minZ (maxZ N 3) 6 = N:=by unfold minZ maxZ; split <;> split <;> omega
 have h2:minZ (maxZ S 1) 8 = S:=by unfold minZ maxZ; split <;> split <;> omega
 exact ⟨ret_bool (by rw [h1,h2]; simp),hm.kept⟩
theorem plat_has (N S st c:Int) (hg:3 ≤ N ∧ N ≤ 6 ∧ 1 ≤ S ∧ S ≤ 8) (h:0 ≤ st ∧ st < S ∧ 0 ≤ c ∧ c < N) (w:World) :
  Calls Tryz.prog 104 #[.agg #[i6 N,i6 S],i6 st,i6 c] w (RetK (.bool true) w):=by
 refine cH (S:=(fun _=>False)) (n:=29) Tryz.func104 (MemOk.none w _) ?_
 refine hgS 11 (dz 3 33556480) [1,2,3,6,7] [] [(w.heap.size,0,2)] [.ops [1,0] [1,2,3,4,5,6,7,8,9,10,11,12,13,14,15,16,17,18,19,20,21,22],.code [1,1]] [⟨w.heap.size,23,true,[i6 N,i6 S]⟩] [] (w.heap.size + 1) ?_
 refine hcq (.bool true) _ _ (some 8) [] tI rfl (fun wx hm=>platRight N S hg wx) fun z2 hz2=>?_
 refine hgS 25 (dz 21 0x310100091103110310101091103110) [6] ([tT,tT,tT] ++ rE 5 (dT ((st:Int) ≥ 0)) ++ rE 3 (dT ((st:Int) < S)) ++ rE 5 (dT ((c:Int) ≥ 0))) [(w.heap.size,1,1),(w.heap.size,0,1)] [.code [1,1]] [⟨w.heap.size,23,true,[i6 N,i6 S]⟩] [] z2 ?_
 refine hrt [] [.bool (decide ((c:Int) < N))] [] ?_
 intro wx hm
 exact ⟨ret_bool (decide_eq_true (by omega)),hm.kept⟩
theorem plat_hasNot (N S st c:Int) (hg:3 ≤ N ∧ N ≤ 6 ∧ 1 ≤ S ∧ S ≤ 8) (h:0 ≤ st ∧ st < S ∧ c < 0) (w:World) :
  Calls Tryz.prog 104 #[.agg #[i6 N,i6 S],i6 st,i6 c] w (RetK (.bool false) w):=by
 refine cH (S:=(fun _=>False)) (n:=29) Tryz.func104 (MemOk.none w _) ?_
 refine hgS 11 (dz 3 33556480) [1,2,3,6,7] [] [(w.heap.size,0,2)] [.ops [1,0] [1,2,3,4,5,6,7,8,9,10,11,12,13,14,15,16,17,18,19,20,21,22],.code [1,1]] [⟨w.heap.size,23,true,[i6 N,i6 S]⟩] [] (w.heap.size + 1) ?_
 refine hcq (.bool true) _ _ (some 8) [] tI rfl (fun wx hm=>platRight N S hg wx) fun z2 hz2=>?_
 refine hgS 25 (dz 21 0x4000003110310101091103110) [6] ([tT,tT,tT] ++ rE 5 (dT ((st:Int) ≥ 0)) ++ rE 3 (dT ((st:Int) < S)) ++ rE 5 (dF ((c:Int) ≥ 0))) [(w.heap.size,1,1)] [.code [1,1]] [⟨w.heap.size,23,true,[i6 N,i6 S]⟩] [] z2 ?_
 refine hrt [] [.bool false] [] ?_
 intro wx hm
 exact ⟨rfl,hm.kept⟩
theorem plat_parity (N S:Int) (hg:3 ≤ N ∧ N ≤ 6 ∧ 1 ≤ S ∧ S ≤ 8) (w:World) :
  Calls Tryz.prog 76 #[.agg #[i6 N,i6 S]] w (RetK (i6 (N - 1)) w):=by
 refine cH (S:=(fun _=>False)) (n:=9) Tryz.func76 (MemOk.none w _) ?_
 refine hgS 12 (dz 3 33556480) [1,2,3] [] [(w.heap.size,0,2)] [.ops [1,0,0] [1,2],.code [1,0,1],.code [1,1]] [⟨w.heap.size,23,true,[i6 N,i6 S]⟩] [] (w.heap.size + 1) ?_
 refine hcq (.bool true) _ _ (some 4) [] tI rfl (fun wx hm=>platRight N S hg wx) fun z2 hz2=>?_
 refine hgS 14 (dz 6 0x2010008000) [2] [fF,n64 ((N - 1))] [(w.heap.size,0,1)] [.code [1,1,1]] [⟨w.heap.size,23,true,[i6 N,i6 S]⟩] [] z2 ?_
 refine hrt [] [i6 (N - 1)] [] ?_
 intro wx hm
 exact ⟨rfl,hm.kept⟩
theorem plat_blocks (N S:Int) (hg:3 ≤ N ∧ N ≤ 6 ∧ 1 ≤ S ∧ S ≤ 8) (w:World) :
  Calls Tryz.prog 75 #[.agg #[i6 N,i6 S]] w (RetK (i6 (S * (N - 1))) w):=by
 refine cH (S:=(fun _=>False)) (n:=12) Tryz.func75 (MemOk.none w _) ?_
 have hm1:0 ≤ S * (N - 1):=Int.mul_nonneg (by omega) (by omega)
 have hm2:S * (N - 1) ≤ 8 * 5:=Int.mul_le_mul (by omega) (by omega) (by omega) (by omega)
 refine hgS 12 (dz 3 33556480) [1,2,3] [] [(w.heap.size,0,2)] [.ops [1,0,0] [1,2],.code [1,0,1],.code [1,1]] [⟨w.heap.size,23,true,[i6 N,i6 S]⟩] [] (w.heap.size + 1) ?_
 refine hcq (.bool true) _ _ (some 4) [] tI rfl (fun wx hm=>platRight N S hg wx) fun z2 hz2=>?_
 refine hgS 17 (dz 9 0x220100080010108000) [2] [fF,n64 ((N - 1)),n64 ((S * (N - 1)))] [(w.heap.size,1,1),(w.heap.size,0,1)] [.code [1,1,1]] [⟨w.heap.size,23,true,[i6 N,i6 S]⟩] [] z2 ?_
 refine hrt [] [i6 (S * (N - 1))] [] ?_
 intro wx hm
 exact ⟨rfl,hm.kept⟩
theorem plat_nodeOf (N S st c:Int) (hg:3 ≤ N ∧ N ≤ 6 ∧ 1 ≤ S ∧ S ≤ 8) (h:0 ≤ st ∧ st < S ∧ 0 ≤ c ∧ c < N) (w:World) :
  Calls Tryz.prog 77 #[.agg #[i6 N,i6 S],i6 st,i6 c] w (RetK (i6 ((c + st) % N)) w):=by
 refine cH (S:=(fun _=>False)) (n:=18) Tryz.func77 (MemOk.none w _) ?_
 refine hgS 14 (dz 5 33556480) [1,2,3,6,7,8,9] [] [(w.heap.size,0,2)] [.ops [1,0,0] [3,4],.code [1,0,1],.code [1,1]] [⟨w.heap.size,23,true,[i6 N,i6 S]⟩] [] (w.heap.size + 1) ?_
 refine hcq (.bool true) _ _ (some 10) [] tI rfl (fun wx hm=>plat_has N S st c hg ⟨by omega,by omega,by omega,by omega⟩ wx) fun z2 hz2=>?_
 refine hgS 17 (dz 9 0x2010008020000) [6] [fF,n64 ((c + st)),oE ((0:Int) ≤ (c + st) ∧ (0:Int) < N)] [(w.heap.size,0,1)] [.code [1,1,1]] [⟨w.heap.size,23,true,[i6 N,i6 S]⟩] [] z2 ?_
 refine hrt [] [i6 ((c + st) % N)] [] ?_
 intro wx hm
 exact ⟨rfl,hm.kept⟩
@[simp] def plc_b1 (N:Int) (S:Int) (w:World):List Bk:=[⟨w.heap.size,23,true,[i6 N,i6 S]⟩]
theorem plc_q4 (N:Int) (S:Int) (st:Int) (nd:Int) (w:World) (z2:Nat):Out.prune [6] (qListG Tryz.prog 24 w (fun _=>False) (opsOf (getCode (bodyOf Tryz.f78) [1,1,0])) (opsOf (getCode (bodyOf Tryz.f78) [1,1,0])).toList ⟨[(1,i6 st),(2,i6 nd),(3,(pt w.heap.size 0)),(6,i6 0)],(plc_b1 N S w),[],z2⟩ [(false,.op oh0),(false,.op oh0),(false,.op (oA 0 0 1)),(false,.op oh2),(false,.op oh0),(false,.op oh0),(false,.op (oA 0 0 1)),(false,.op oh2),(false,.op oh2),(false,.op oh0),(false,.op (oA 0 0 1)),(false,.op oh2),(false,.op oh0)]) = some ⟨[inR .i64 ((nd + N)),(0:Int) ≤ st ∧ (0:Int) < N,inR .i64 (((nd + N) - (st % N))),(0:Int) ≤ ((nd + N) - (st % N)) ∧ (0:Int) < N],dupR [(w.heap.size,0,1),(w.heap.size,0,1),(w.heap.size,0,1)],⟨[(6,i6 (((nd + N) - (st % N)) % N))],(plc_b1 N S w),[],z2⟩⟩:=by kernel_rfl
theorem plat_columnOf (N S st nd:Int) (hg:3 ≤ N ∧ N ≤ 6 ∧ 1 ≤ S ∧ S ≤ 8) (h:0 ≤ st ∧ st < S ∧ 0 ≤ nd ∧ nd < N) (w:World) :
  Calls Tryz.prog 78 #[.agg #[i6 N,i6 S],i6 st,i6 nd] w (RetK (i6 ((nd + N - st % N) % N)) w):=by
 refine cH (S:=(fun _=>False)) (n:=24) Tryz.func78 (MemOk.none w _) ?_
 have hmb:0 ≤ st % N ∧ st % N < N:=⟨Int.emod_nonneg _ (by omega),Int.emod_lt_of_pos _ (by omega)⟩
 refine hgS 14 (dz 5 33556480) [1,2,3,6,7,8,9] [] [(w.heap.size,0,2)] [.ops [1,0,0] [3,4],.code [1,0,1],.code [1,1]] (plc_b1 N S w) [] (w.heap.size + 1) ?_
 refine hcq (.bool true) _ _ (some 10) [] tI rfl (fun wx hm=>plat_has N S st nd hg ⟨by omega,by omega,by omega,by omega⟩ wx) fun z2 hz2=>?_
 refine hgE 8 (dz 2 0) [1,2,3,6] [fF] [] [.code [1,1,0],.code [1,1,1]] ⟨[(1,i6 st),(2,i6 nd),(3,(pt w.heap.size 0)),(6,i6 0)],(plc_b1 N S w),[],z2⟩ ?_
 refine holds_quietG _ _ (by kernel_rfl) (by kernel_rfl) (by kernel_rfl) (plc_q4 N S st nd w z2) ⟨in64 (by omega),⟨by omega,by omega⟩,in64 (by omega),⟨by omega,by omega⟩,trivial⟩ fun z4 hz4=>?_
 replace hz4:z2 ≤ z4:=hz4
 refine hgS 3 [] [6] [] [] [.code [1,1,1]] (plc_b1 N S w) [] z4 ?_
 refine hrt [] [i6 (((nd + N) - (st % N)) % N)] [] ?_
 intro wx hm
 exact ⟨rfl,hm.kept⟩
theorem plat_columnNone (N S st nd:Int) (hg:3 ≤ N ∧ N ≤ 6 ∧ 1 ≤ S ∧ S ≤ 8) (h:0 ≤ st ∧ st < S ∧ nd < 0) (w:World) :
  Calls Tryz.prog 78 #[.agg #[i6 N,i6 S],i6 st,i6 nd] w (RetK (i6 (-1)) w):=by
 refine cH (S:=(fun _=>False)) (n:=24) Tryz.func78 (MemOk.none w _) ?_
 refine hgS 14 (dz 5 33556480) [1,2,3,6,7,8,9] [] [(w.heap.size,0,2)] [.ops [1,0,0] [3,4],.code [1,0,1],.code [1,1]] [⟨w.heap.size,23,true,[i6 N,i6 S]⟩] [] (w.heap.size + 1) ?_
 refine hcq (.bool false) _ _ (some 10) [] tI rfl (fun wx hm=>plat_hasNot N S st nd hg ⟨by omega,by omega,by omega⟩ wx) fun z2 hz2=>?_
 refine hgS 10 (dz 3 16) [1,2,3,6] [tT] [] [.code [1,0,1,0,1],.code [1,1]] [⟨w.heap.size,23,true,[i6 N,i6 S]⟩] [] z2 ?_
 refine hrt [] [i6 (-1)] [] ?_
 intro wx hm
 exact ⟨rfl,hm.kept⟩
section
variable (N S b:Int) (w:World)
def plo_v1:List Value:=[i6 (b / (N - 1)),i6 (b % (N - 1)),i6 (((b % (N - 1)) + (b / (N - 1))) % N)]
@[simp] def plo_b1:List Bk:=[⟨w.heap.size,23,true,[i6 N,i6 S]⟩,⟨w.heap.size + 1,126,true,[i6 0,i6 0,i6 0]⟩]
theorem plo_q4 (z2:Nat):Out.prune [2,4,5,6,7] (qListG Tryz.prog 32 w (fun _=>False) (opsOf (getCode (bodyOf Tryz.f45) [1,1,0])) (opsOf (getCode (bodyOf Tryz.f45) [1,1,0])).toList ⟨[(1,i6 b),(2,(pt w.heap.size 0)),(4,(pt (w.heap.size + 1) 0)),(5,i6 0)],(plo_b1 N S w),[],z2⟩ [(false,.op oh0),(false,.op (oA 0 0 2)),(false,.call (i6 (N - 1))),(false,.op oh2),(false,.op oh0),(false,.op (oA 0 0 2)),(false,.call (i6 (N - 1))),(false,.op oh2),(false,.op oh0),(false,.op oh0)]) = some ⟨[∀ w',MemC w (fun _=>False) (plo_b1 N S w) [] z2 w' → Calls Tryz.prog 76 #[.agg #[i6 N,i6 S]] w' (RetK (i6 (N - 1)) w'),(0:Int) ≤ b ∧ (0:Int) < (N - 1) ∧ b ≤ IntKind.max .i64,∀ w',MemC w (fun _=>False) (plo_b1 N S w) [] z2 w' → Calls Tryz.prog 76 #[.agg #[i6 N,i6 S]] w' (RetK (i6 (N - 1)) w'),(0:Int) ≤ b ∧ (0:Int) < (N - 1)],dupR [(w.heap.size,0,2),(w.heap.size,0,2)],⟨[(2,(pt w.heap.size 0)),(4,(pt (w.heap.size + 1) 0)),(5,i6 0),(6,i6 (b / (N - 1))),(7,i6 (b % (N - 1)))],(plo_b1 N S w),[],z2⟩⟩:=by kernel_rfl
end
theorem plat_of (N S b:Int) (hg:3 ≤ N ∧ N ≤ 6 ∧ 1 ≤ S ∧ S ≤ 8) (hb:0 ≤ b ∧ b < S * (N - 1)) (w:World) :
  Calls Tryz.prog 45 #[.agg #[i6 N,i6 S],i6 b] w (RetK (.tuple #[.agg #[i6 (b / (N - 1)),i6 (b % (N - 1)),i6 ((b % (N - 1) + b / (N - 1)) % N)],i6 0]) w):=by
 refine cH (S:=(fun _=>False)) (n:=32) Tryz.func45 (MemOk.none w _) ?_
 have hd:0 ≤ b / (N - 1) ∧ b / (N - 1) < S:=⟨Int.ediv_nonneg (by omega) (by omega),Int.ediv_lt_of_lt_mul (by omega) hb.2⟩
 have he:0 ≤ b % (N - 1) ∧ b % (N - 1) < N - 1:=⟨Int.emod_nonneg _ (by omega),Int.emod_lt_of_pos _ (by omega)⟩
 have hm2:S * (N - 1) ≤ 8 * 5:=Int.mul_le_mul (by omega) (by omega) (by omega) (by omega)
 refine hgS 17 (dz 8 0x200080000000) [1,2,4,5,10,11,12] (rE 2 (dF ((b:Int) < 0))) [(w.heap.size,0,2)] [.ops [1,0,0] [5,6,7],.code [1,0,1],.code [1,1]] (plo_b1 N S w) [] (w.heap.size + 2) ?_
 refine hcq (i6 (S * (N - 1))) _ _ (some 13) [(decide ((b:Int) < 0)) = false] ⟨decide_eq_false (by omega),tI⟩ rfl (fun wx hm=>plat_blocks N S hg wx) fun z2 hz2=>?_
 refine hgE 9 (dz 3 64) [1,2,4,5] (rE 2 (dF ((b:Int) < 0)) ++ [dF ((b:Int) ≥ (S * (N - 1)))]) [] [.code [1,1,0],.code [1,1,1]] ⟨[(1,i6 b),(2,(pt w.heap.size 0)),(4,(pt (w.heap.size + 1) 0)),(5,i6 0)],(plo_b1 N S w),[],z2⟩ ?_
 refine holds_quietG _ _ (by kernel_rfl) (by kernel_rfl) (by kernel_rfl) (plo_q4 N S b w z2) ⟨(fun wx hm=>plat_parity N S hg wx),⟨by omega,by omega,le_max64 (by omega)⟩,(fun wx hm=>plat_parity N S hg wx),⟨by omega,by omega⟩,trivial⟩ fun z4 hz4=>?_
 replace hz4:z2 ≤ z4:=hz4
 refine hgS 10 (dz 5 33556480) [4,5,25,26,27,28,29] [] [(w.heap.size,0,2)] [.ops [1,1,1,0] [5,6,7,8],.code [1,1,1,1]] (plo_b1 N S w) [] z4 ?_
 refine hcq (i6 (((b % (N - 1)) + (b / (N - 1))) % N)) _ _ (some 30) [] tI rfl (fun wx hm=>plat_nodeOf N S (b / (N - 1)) (b % (N - 1)) hg ⟨by omega,by omega,by omega,by omega⟩ wx) fun z6 hz6=>?_
 refine hgS 7 (dz 3 3146112) [4,5] [] [(w.heap.size + 1,0,3)] [.code [1,1,1,1]] [⟨w.heap.size,23,true,[i6 N,i6 S]⟩,⟨w.heap.size + 1,126,true,(plo_v1 N b)⟩] [] z6 ?_
 refine hrt [[⟨false,1,0,3⟩]] [.agg (List.toArray (plo_v1 N b)),i6 0] [(w.heap.size + 1,0,3)] ?_
 intro wx hm
 exact ⟨rfl,hm.kept⟩
theorem plan_right (N S c:Int) (hg:3 ≤ N ∧ N ≤ 6 ∧ 1 ≤ S ∧ S ≤ 8) (h:0 ≤ c ∧ c < N - 1) (w:World) :
  Calls Tryz.prog 82 #[.agg #[i6 N,i6 S],i6 c,i6 (-1)] w (RetK (.bool true) w):=by
 refine cH (S:=(fun _=>False)) (n:=26) Tryz.func82 (MemOk.none w _) ?_
 refine hgS 11 (dz 3 33556480) [1,2,6,8] [] [(w.heap.size,0,2)] [.ops [1,0] [1,2],.code [1,1]] [⟨w.heap.size,23,true,[i6 N,i6 S]⟩] [] (w.heap.size + 1) ?_
 refine hcq (i6 (N - 1)) _ _ (some 9) [] tI rfl (fun wx hm=>plat_parity N S hg wx) fun z2 hz2=>?_
 refine hgS 25 (dz 18 0x31110311031110000) [6] (rE 4 (dT ((c:Int) ≥ 0)) ++ rE 3 (dT ((c:Int) < (N - 1))) ++ [tT,tT,tT,tT]) [] [.code [1,1,1]] [⟨w.heap.size,23,true,[i6 N,i6 S]⟩] [] z2 ?_
 refine hrt [] [.bool (decide (((-1):Int) ≤ (N - 1)))] [] ?_
 intro wx hm
 exact ⟨ret_bool (decide_eq_true (by omega)),hm.kept⟩
def pnf_n1:List Nat:=[1,1,0,1,0,1,1,1,0,0]
def pnf_n2:List Nat:=[1,1,0,1,0,1,1,1,0,1]
section
variable (N S c:Int) (w:World)
@[simp] def pnf_b1:List Bk:=[⟨w.heap.size,23,true,[i6 N,i6 S]⟩]
def pnf_g4s:List (Nat × Value):=[(1,i6 c),(3,(pt w.heap.size 0)),(6,.slice none 0 0),(7,.slice none 0 0),(8,i6 0)]
def pnf_g4v:List (Option Value):=[some (i6 c),none,some (i6 c),some (i6 (c + 1)),some ((pt w.heap.size 0)),some (i6 N),some (i6 ((c + 1) % N)),none,none,none,some (i6 0)]
def pnf_g4m:List (List Bk):=[(pnf_b1 N S w)]
def pnf_g4t:List (Option Nat):=[none,none,none,none,none,none,none,none,none,none,none]
def pnf_g4C (z2:Nat) (i_:Nat):Prop:=CertG (wpOp Tryz.prog (opsOf (getCode (bodyOf Tryz.f49) pnf_n1)) (sem Tryz.prog (bodyOf Tryz.f49) (bodyPost Tryz.prog Tryz.f49 (fun e w'=>∃ ga gb,e = .returned (.tuple #[.slice (some ⟨ga,0,none⟩) 1 1,.slice (some ⟨gb,0,none⟩) 1 1,i6 0]) ∧ OwnR w' w.heap.size 3 1 (some ⟨ga,0,none⟩) 1 1 [i6 c] ∧ OwnR w' w.heap.size 3 1 (some ⟨gb,0,none⟩) 1 1 [i6 ((c + 1) % N)] ∧ Kept (fun _=>False) w w')) [.code pnf_n2,.blk 0,.code [1,1,1]])) [] 34 (opsOf (getCode (bodyOf Tryz.f49) pnf_n1)) (slI (opsOf (getCode (bodyOf Tryz.f49) pnf_n1)) (pnf_g4s c w) i_) (pnf_g4t) 0 (MG w (fun _=>False) (pnf_g4m N S w) [] z2) (Turned (pnf_b1 N S w)) (PvG (pnf_g4v N c w) (CNews z2 [(1,3,1,[i6 c]),(8,3,1,[i6 c]),(7,3,1,[i6 ((c + 1) % N)]),(9,3,1,[i6 ((c + 1) % N)])])) i_
end
theorem plan_fetch (N S c:Int) (hg:3 ≤ N ∧ N ≤ 6 ∧ 1 ≤ S ∧ S ≤ 8) (h:0 ≤ c ∧ c < N - 1) (w:World) :
  Calls Tryz.prog 49 #[.agg #[i6 N,i6 S],i6 c,i6 (-1)] w (fun e w'=>∃ ga gb,e = .returned (.tuple #[.slice (some ⟨ga,0,none⟩) 1 1,.slice (some ⟨gb,0,none⟩) 1 1,i6 0]) ∧ OwnR w' w.heap.size 3 1 (some ⟨ga,0,none⟩) 1 1 [i6 c] ∧ OwnR w' w.heap.size 3 1 (some ⟨gb,0,none⟩) 1 1 [i6 ((c + 1) % N)] ∧ Kept (fun _=>False) w w'):=by
 refine cH (S:=(fun _=>False)) (n:=34) Tryz.func49 (MemOk.none w _) ?_
 have hmb:0 ≤ (c + 1) % N ∧ (c + 1) % N < N:=⟨Int.emod_nonneg _ (by omega),Int.emod_lt_of_pos _ (by omega)⟩
 refine hgS 16 (dz 7 8590458880) [1,2,3,6,7,8,9,10,11] [] [(w.heap.size,0,2)] [.ops [1,0,0] [3,4],.code [1,0,1],.code [1,1]] (pnf_b1 N S w) [] (w.heap.size + 1) ?_
 refine hcq (.bool true) _ _ (some 12) [] tI rfl (fun wx hm=>plan_right N S c hg h wx) fun z2 hz2=>?_
 refine hgE 27 (dz 10 0x1000000000) [1,3,6,7,8] [fF,oE ((((-1):Int) == c) = false) (beq_eq_false_iff_ne.2 (by omega)),tT] [] [.code pnf_n1,.code pnf_n2,.blk 0,.code [1,1,1]] ⟨[(1,i6 c),(3,(pt w.heap.size 0)),(6,.slice none 0 0),(7,.slice none 0 0),(8,i6 0)],(pnf_b1 N S w),[],z2⟩ ?_
 have pnf_g4_c1:pnf_g4C N S c w z2 1:=cert_newN (h:=oh0) (ob:=[]) (rs:=[]) (e:=3) (L:=1) (l:=[i6 c]) (by kernel_rfl) (by kernel_rfl) (by kernel_rfl) (by kernel_rfl) (fun sz=>by kernel_rfl) trivial
 have pnf_g4_c7:pnf_g4C N S c w z2 7:=cert_newN (h:=oh0) (ob:=[]) (rs:=[]) (e:=3) (L:=1) (l:=[i6 ((c + 1) % N)]) (by kernel_rfl) (by kernel_rfl) (by kernel_rfl) (by kernel_rfl) (fun sz=>by kernel_rfl) trivial
 have pnf_g4_c8:pnf_g4C N S c w z2 8:=cert_asgN (k:=1) (d:=25) (show 1 ∈ _ from List.mem_of_getElem? (i:=0) (by kernel_rfl)) (by kernel_rfl) (by kernel_rfl) (by kernel_rfl) (by kernel_rfl) (by kernel_rfl) (fun v=>by kernel_rfl) (fun v=>by kernel_rfl)
 have pnf_g4_c9:pnf_g4C N S c w z2 9:=cert_asgN (k:=7) (d:=31) (show 7 ∈ _ from List.mem_of_getElem? (i:=0) (by kernel_rfl)) (by kernel_rfl) (by kernel_rfl) (by kernel_rfl) (by kernel_rfl) (by kernel_rfl) (fun v=>by kernel_rfl) (fun v=>by kernel_rfl)
 have pnf_g4_R:∀ e_ ∈ (rZs [0,2,4,10] ++ [⟨3,oh2,[n64 ((c + 1))],[]⟩,rG 5 0 0 1 w.heap.size,⟨6,oh2,[oE ((0:Int) ≤ (c + 1) ∧ (0:Int) < N)],[]⟩]:List RegE),pnf_g4C N S c w z2 e_.i:=certs_reg (by kernel_rfl) _ (fun sz=>by kernel_rfl)
 refine holds_mixU (vs:=(pnf_g4v N c w)) (ms:=(pnf_g4m N S w)) (stg:=(pnf_g4t)) (J:=0) (sl':=[(1,i6 c),(8,i6 0)]) (bk':=(pnf_b1 N S w)) (CNews z2 [(1,3,1,[i6 c]),(8,3,1,[i6 c]),(7,3,1,[i6 ((c + 1) % N)]),(9,3,1,[i6 ((c + 1) % N)])]) [1,8] 8 6 9 7 (by kernel_rfl) (by kernel_rfl) (by kernel_rfl) (cnews_stable (by intro b hb; simp at hb; subst hb; simp; omega)) (certs_mix pnf_g4_R [1,7,8,9] ⟨pnf_g4_c1,pnf_g4_c7,pnf_g4_c8,pnf_g4_c9,tI⟩ (by kernel_rfl)) (by kernel_rfl) (by kernel_rfl) rfl (of_decide_eq_true (by kernel_rfl)) (of_decide_eq_true (by kernel_rfl)) (by kernel_rfl) (by kernel_rfl) (by kernel_rfl) (by kernel_rfl) (by kernel_rfl) (fun v_ u_ W1 ⟨x1,hx1,ga,ha,hv1,hB1⟩ ⟨x2,hx2,gb,hb,hu1,hB2⟩ hz1 hm1=>?_)
 injection (show some (3,1,[i6 c]) = some x1 from hx1) with hx1
 subst hx1
 subst hv1
 injection (show some (3,1,[i6 ((c + 1) % N)]) = some x2 from hx2) with hx2
 subst hx2
 subst hu1
 replace hB1:Blk W1 ga 3 [i6 c]:=hB1
 replace hB2:Blk W1 gb 3 [i6 ((c + 1) % N)]:=hB2
 replace ha:z2 ≤ ga:=ha
 replace hb:z2 ≤ gb:=hb
 refine hgS 3 [] [1,6,7,8] [] [] [.code pnf_n2,.blk 0,.code [1,1,1]] (pnf_b1 N S w) [] W1.heap.size ?_
 refine hrt [] [.slice (some ⟨ga,0,none⟩) 1 1,.slice (some ⟨gb,0,none⟩) 1 1,i6 0] [] ?_
 intro wx hm
 exact ⟨ga,gb,rfl,own_of_blk (by omega) (hB1.kept hm.kept (fun ⟨b',hb',hr',he'⟩=>by simp at hb'; subst hb'; simp at he'; omega)) rfl (by omega),own_of_blk (by omega) (hB2.kept hm.kept (fun ⟨b',hb',hr',he'⟩=>by simp at hb'; subst hb'; simp at he'; omega)) rfl (by omega),(hm1.bck hm).kept⟩
theorem plan_update (N S c:Int) (hg:3 ≤ N ∧ N ≤ 6 ∧ 1 ≤ S ∧ S ≤ 8) (h:0 ≤ c ∧ c < N - 1) (w:World) :
  Calls Tryz.prog 51 #[.agg #[i6 N,i6 S],i6 c,i6 (-1)] w (fun e w'=>∃ ga gb,e = .returned (.tuple #[.slice (some ⟨ga,0,none⟩) 2 2,.slice (some ⟨gb,0,none⟩) 2 2,i6 0]) ∧ OwnR w' w.heap.size 3 1 (some ⟨ga,0,none⟩) 2 2 [i6 c,i6 (N - 1)] ∧ OwnR w' w.heap.size 3 1 (some ⟨gb,0,none⟩) 2 2 [i6 c,i6 (N - 1)] ∧ Kept (fun _=>False) w w'):=by
 refine cH (S:=(fun _=>False)) (n:=37) Tryz.func51 (MemOk.none w _) ?_
 refine hgS 16 (dz 7 8590458880) [1,2,3,6,7,8,10,11,12] [] [(w.heap.size,0,2)] [.ops [1,0,0] [3,4],.code [1,0,1],.code [1,1]] [⟨w.heap.size,23,true,[i6 N,i6 S]⟩] [] (w.heap.size + 1) ?_
 refine hcq (.bool true) _ _ (some 13) [] tI rfl (fun wx hm=>plan_right N S c hg h wx) fun z2 hz2=>?_
 refine hgS 10 (dz 3 33556480) [1,2,6,7,8,15] [fF] [(w.heap.size,0,2)] [.ops [1,1,0] [1,2],.code [1,1,1]] [⟨w.heap.size,23,true,[i6 N,i6 S]⟩] [] z2 ?_
 refine hcq (i6 (N - 1)) _ _ (some 16) [] tI rfl (fun wx hm=>plat_parity N S hg wx) fun z4 hz4=>?_
 refine hgS 39 (dz 19 0) [6,7,8] [oE ((((-1):Int) == (N - 1)) = false) (beq_eq_false_iff_ne.2 (by omega)),oE ((((-1):Int) == c) = false) (beq_eq_false_iff_ne.2 (by omega))] [] [.code [1,1,1,1,1]] [⟨w.heap.size,23,true,[i6 N,i6 S]⟩,⟨z4,3,true,[i6 c,i6 (N - 1)]⟩,⟨z4 + 1,3,true,[i6 c,i6 (N - 1)]⟩] [] (z4 + 2) ?_
 refine hrt [] [.slice (some ⟨z4,0,none⟩) 2 2,.slice (some ⟨z4 + 1,0,none⟩) 2 2,i6 0] [] ?_
 intro wx hm
 have hs:=hm.kept.size
 exact ⟨_,_,rfl,own_of_blk (by omega) (hm.at_ 1 rfl) rfl (by omega),own_of_blk (by omega) (hm.at_ 2 rfl) rfl (by omega),hm.kept⟩
def PlanBlocksI (L:List ByteArray) (gL:Nat) (cp:Nat)  (m:Nat) (st:St):Prop:=
 ∃ (i:Nat) (z:Nat),m + i = L.length ∧ st = ⟨[(4,.bool false),(11,.slice (some ⟨gL,0,none⟩) L.length cp),(12,i6 ((L.length:Nat):Int)),(13,i6 (i:Int))],[],[],z⟩
theorem plan_blocks (L:List ByteArray) (gL cp:Nat) (hL:∀ s ∈ L,s.size = 16) (hll:L.length ≤ 100) (w:World) (hgL:gL < w.heap.size) (hc:∀ (j:Nat) (v:Value),(strsV L)[j]? = some v → w.cell? ⟨gL,0 + j,none⟩ = some v) :
  Calls Tryz.prog 108 #[.slice (some ⟨gL,0,none⟩) L.length cp,i6 (L.length:Int)] w (RetK (.bool true) w):=by
 refine cH (S:=(fun _=>False)) (n:=21) Tryz.func108 (MemOk.none w _) ?_
 refine hgE 25 (dz 9 0) [4,11,12,13] [oE ((((L.length:Nat):Int) != (L.length:Int)) = false) (bne_eq_false_iff_eq.2 rfl)] [] [.code [1,1,0,1,0],.blk 0,.code [1,1,1]] ⟨[(4,.bool false),(11,.slice (some ⟨gL,0,none⟩) L.length cp),(12,i6 ((L.length:Nat):Int)),(13,i6 0)],[],[],w.heap.size⟩ ?_
 refine holds_loop (PlanBlocksI L gL cp) L.length (by kernel_rfl) ⟨0,_,by omega,rfl⟩ ?_
 rintro m _ ⟨i,z,hmi,rfl⟩ J hJ
 by_cases h1:i < L.length
 rotate_left
 ·skip
  refine hgS 14 (dz 3 0) [4] [dF (((i:Int):Int) < ((L.length:Nat):Int))] [] [.code [1,1,1,1]] [] [] z ?_
  refine hrt [] [.bool true] [] ?_
  intro wx hm
  exact ⟨rfl,hm.kept⟩
 obtain ⟨s,hs⟩:∃ s,L[i]? = some s:=⟨_,List.getElem?_eq_getElem h1⟩
 have hs16:=hL s (List.mem_of_getElem? hs)
 refine holds_wins [⟨gL,0 + i * 1,[sT s]⟩] (fun _ y hy=>?_) ?_
 ·simp only [List.mem_cons,List.not_mem_nil,or_false] at hy
  subst hy
  exact ⟨fun h=>h,hgL,strs_cell hc hs⟩
 refine hgE 31 [oh0,oh1,oh2,⟨false,0,[⟨true,0,0,1⟩]⟩,oh0,oh0,oh0,oh0,oh0,oh2,oh0] [4,11,12,13] [dT (((i:Int):Int) < ((L.length:Nat):Int)),oE ((0:Int) ≤ (i:Int) ∧ (i:Int) < ((L.length:Nat):Int)),oE (((s.size:Int) != 16) = false) (bne_eq_false_iff_eq.2 (by rw [hs16]; rfl)),n64 (((i:Int) + 1))] [(gL,0 + i * 1,1)] [.inv J,.blk 0,.code [1,1,1]] ⟨[(4,.bool false),(11,.slice (some ⟨gL,0,none⟩) L.length cp),(12,i6 ((L.length:Nat):Int)),(13,i6 ((i:Int) + 1))],[],[⟨gL,0 + i * 1,[sT s]⟩],z⟩ ?_
 refine holds_wins [] (fun _ _ h=>by cases h) ?_
 exact hJ (m - 1) _ (by omega) ⟨i + 1,_,by omega,by rw [← cast_succ i]⟩
@[simp] def png_b1 (N:Int) (S:Int) (w:World):List Bk:=[⟨w.heap.size,23,true,[i6 N,i6 S]⟩]
theorem plan_got (N S c:Int) (hg:3 ≤ N ∧ N ≤ 6 ∧ 1 ≤ S ∧ S ≤ 8) (h:0 ≤ c ∧ c < N - 1) (s:ByteArray) (hs16:s.size = 16) (gL cp:Nat) (w:World) (hgL:gL < w.heap.size) (hc:∀ (j:Nat) (v:Value),(strsV [s])[j]? = some v → w.cell? ⟨gL,0 + j,none⟩ = some v) :
  Calls Tryz.prog 107 #[.agg #[i6 N,i6 S],i6 c,i6 (-1),.slice (some ⟨gL,0,none⟩) 1 cp] w (RetK (.tuple #[sT s,i6 0]) w):=by
 refine cH (S:=(fun _=>False)) (n:=39) Tryz.func107 (MemOk.none w _) ?_
 refine hgS 14 (dz 6 536903680) [1,2,3,8,9,14,15,16] [] [(w.heap.size,0,2)] [.ops [1,0] [3,4,5,6,7,8,9,10],.code [1,1]] (png_b1 N S w) [] (w.heap.size + 1) ?_
 refine hcV (w:=w) (S':=(fun _=>False)) (Y:=Nat × Nat) (fun y_=>.tuple #[.slice (some ⟨y_.1,0,none⟩) 1 1,.slice (some ⟨y_.2,0,none⟩) 1 1,i6 0]) (fun y_=>(png_b1 N S w)) (fun y_ W_=>True) (show _ = some (49,[.agg #[i6 N,i6 S],i6 c,i6 (-1)],some 17,[]) by kernel_rfl) tI (fun wx hm=>?_) (fun y_ W1 hX_ hm1=>?_)
 ·refine (plan_fetch N S c hg h wx).mono fun e w' hq=>?_
  obtain ⟨a,b,he,_,_,hk⟩:=hq
  exact ⟨(a,b),he,trivial,hm.offA (fun _ h=>h) hk (fun _ h=>h.elim) (fun _ _ h=>h)⟩
 obtain ⟨ga,gb⟩:=y_
 refine hgS 25 (dz 13 0) [1,2,3,8,9,24,26] [fF] [] [.ops [1,1,1,0,0] [3,4],.code [1,1,1,0,1],.code [1,1,1,1]] (png_b1 N S w) [] W1.heap.size ?_
 refine hcq (.bool true) _ _ (some 27) [] tI rfl (fun wx hm=>plan_blocks [s] gL cp (by intro x hx; obtain rfl:=List.mem_singleton.1 hx; exact hs16) (by simp) wx (Nat.lt_of_lt_of_le hgL (hm1.bck hm).kept.size) (fun j v hj=>cell_kept (hm1.bck hm).kept hgL (hc j v hj))) fun z4 hz4=>?_
 refine holds_wins [⟨gL,0,[sT s]⟩] (fun _ y hy=>?_) ?_
 ·simp only [List.mem_cons,List.not_mem_nil,or_false] at hy
  subst hy
  exact ⟨fun h=>absurd (turned_new hm1 h) (Nat.not_le.2 hgL),Nat.lt_of_lt_of_le hgL hm1.kept.size,fun j v hj=>cell_kept hm1.kept hgL (hc j v hj)⟩
 refine hgS 24 [oh0,oh0,oh0,oh0,oh0,oh0,oh0,oh2,⟨false,0,[⟨true,0,0,1⟩]⟩,oh0,oh0] [8,9] [fF,oE ((((-1):Int) == c) = false) (beq_eq_false_iff_ne.2 (by omega)),oE ((0:Int) ≤ 0 ∧ 0 < ((1:Nat):Int))] [(gL,0,1)] [.code [1,1,1,1,1,1]] (png_b1 N S w) [⟨gL,0,[sT s]⟩] z4 ?_
 refine hrt [] [sT s,i6 0] [] ?_
 intro wx hm
 exact ⟨rfl,(hm1.bck hm).kept⟩
end Go.Proofs.YtcmpkkapkdlfhaaGreat
