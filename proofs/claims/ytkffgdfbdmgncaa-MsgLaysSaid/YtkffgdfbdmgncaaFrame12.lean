import Derived.ChangeKeysEq
import Derived.Test.YtkffgdfbdmgncaaTlv12
import Derived.Test.YtkffgdfbdmgncaaCrc
import Derived.Test.YtkffgdfbdmgncaaEngY
namespace Go.Proofs.Ytkffgdfbdmgncaa
open Go.RowKit
theorem run_arrayAt {P:Program} (w:World) (t e m c:Nat) (a:Addr) (hu:P.underlying t = some (.array m e)):(Instr.arrayAt t (.slice (some a) m c)).run P w = .ok (.pointer (some a)) w:=by
 simp [Instr.arrayAt,run_underlying hu]
theorem run_loadFB {P:Program} (w:World) (t e m g:Nat) (tt:TypeId) (L:List Int) (hu:P.underlying t = some (.array m e)) (hs:(P.info? t).map (·.size) = some L.length) (hB:FB w g tt L) :
  (Instr.loadAt t (.pointer (some ⟨g,0,none⟩))).run P w = .ok (.agg (intsV L).toArray) w:=by
 obtain ⟨inf,hi,hz⟩:=Option.map_eq_some_iff.1 hs
 have h1:=run_loadCells_list (P:=P) (w:=w) ⟨g,0,none⟩ (intsV L) (fun j v hj=>by
  rw [add_norm,Nat.zero_add]
  simp only [intsV,List.getElem?_map,Option.map_eq_some_iff] at hj
  obtain ⟨x,hx,rfl⟩:=hj
  exact hB.cell hx)
 have hl:(intsV L).length = L.length:=by simp [intsV]
 rw [hl] at h1
 simp [Instr.loadAt,Instr.sureAddr,loadVar,isAgg,run_underlying hu,sizeOf,typeInfo,hi,hz,h1]
theorem bytesI_add (a b:List Int):bytesI a ++ bytesI b = bytesI (a ++ b):=by
 apply ByteArray.ext
 simp [bytesI,u8s,ByteArray.data_append]
theorem bytesI_adds (a:List Int) (s:ByteArray):bytesI a ++ s = bytesI (a ++ intsOf s):=by
 rw [← bytesI_add,bytesI_intsOf]
theorem toList_dec (a b:ByteArray):(a.toList == b.toList) = decide (intsOf a = intsOf b):=by
 rw [toList_beq]
 by_cases h:a = b
 ·subst h
  simp
 ·rw [decide_eq_false h,decide_eq_false (fun e=>h (intsOf_inj e))]
theorem one_slot {D:List Deferred} {n:Nat} {sl:List (Nat × Value)} {a:Act} {d:Nat} {v:Value} (hf:FrOk D n sl a) (hv:a.tmps[d]? = some v):FrOk D n [(d,v)] a:=⟨hf.size,hf.df,fun q u hq=>by
 simp only [getS] at hq
 split at hq
 ·rename_i he
  have he':d = q:=Nat.eq_of_beq_eq_true he
  subst he'
  simp only [Option.some.injEq] at hq
  subst hq
  exact hv
 ·cases hq⟩
theorem run_neq4 (w:World) (x y:Operand) (a0 a1 a2 a3 b0 b1 b2 b3:Int):(eqGuard .neq 81 x y (.agg #[.int .u8 b0,.int .u8 b1,.int .u8 b2,.int .u8 b3]) (.agg #[.int .u8 a0,.int .u8 a1,.int .u8 a2,.int .u8 a3]) >>= fun _=>binOp .neq 81 (.agg #[.int .u8 b0,.int .u8 b1,.int .u8 b2,.int .u8 b3]) (.agg #[.int .u8 a0,.int .u8 a1,.int .u8 a2,.int .u8 a3])).run Try.prog w = .ok (.bool (!decide ([a0,a1,a2,a3] = [b0,b1,b2,b3]))) w:=by
 obtain ⟨i,hi⟩:∃ i,Try.prog.info? 5 = some i:=Option.isSome_iff_exists.1 (by kernel_rfl)
 have hc:Try.prog.cellsOf 5 = 1:=by kernel_rfl
 have he:Try.prog.underlying 5 = some (.int .u8):=by kernel_rfl
 have r0:∀ (a b c d:Int) (w:World),(part 5 #[.int .u8 a,.int .u8 b,.int .u8 c,.int .u8 d] 0).run Try.prog w = .ok (.int .u8 a) w:=fun a b c d w=>run_part (by kernel_rfl) w
 have r1:∀ (a b c d:Int) (w:World),(part 5 #[.int .u8 a,.int .u8 b,.int .u8 c,.int .u8 d] 1).run Try.prog w = .ok (.int .u8 b) w:=fun a b c d w=>run_part (by kernel_rfl) w
 have r2:∀ (a b c d:Int) (w:World),(part 5 #[.int .u8 a,.int .u8 b,.int .u8 c,.int .u8 d] 2).run Try.prog w = .ok (.int .u8 c) w:=fun a b c d w=>run_part (by kernel_rfl) w
 have r3:∀ (a b c d:Int) (w:World),(part 5 #[.int .u8 a,.int .u8 b,.int .u8 c,.int .u8 d] 3).run Try.prog w = .ok (.int .u8 d) w:=fun a b c d w=>run_part (by kernel_rfl) w
 rw [Sem.run_bind,run_eqGuard_agg w _ _ x y _ _ (by kernel_rfl)]
 simp only [Result.andThen_ok,run_neq_struct]
 rw [run_equalIn_array w 9999 _ _ (by kernel_rfl:_ = some (TypeDesc.array 4 5)) hi,hc]
 rw [show List.range 4 = [0,1,2,3] by rfl]
 have st:∀ (k:Nat) (is:List Nat) (xs ys:Array Value) (a b:Int),(∀ w,(part 5 xs k).run Try.prog w = .ok (.int .u8 a) w) → (∀ w,(part 5 ys k).run Try.prog w = .ok (.int .u8 b) w) → ∀ w,(Op.eqItems 9999 5 1 xs ys (k :: is)).run Try.prog w = if a = b then (Op.eqItems 9999 5 1 xs ys is).run Try.prog w else .ok false w:=by
  intro k is xs ys a b h1 h2 w
  simp only [Op.eqItems,Nat.mul_one,Sem.run_bind,h1,h2,Result.andThen_ok,run_equalIn_int _ 9998 _ _ _ _ _ he]
  by_cases h:a = b
  ·rw [if_pos h,h]
   simp
  ·rw [if_neg h]
   simp [h]
 have e0:∀ (xs ys:Array Value) w,(Op.eqItems 9999 5 1 xs ys []).run Try.prog w = .ok true w:=fun _ _ _=>rfl
 rw [st 0 _ _ _ _ _ (r0 _ _ _ _) (r0 _ _ _ _),st 1 _ _ _ _ _ (r1 _ _ _ _) (r1 _ _ _ _),st 2 _ _ _ _ _ (r2 _ _ _ _) (r2 _ _ _ _),st 3 _ _ _ _ _ (r3 _ _ _ _) (r3 _ _ _ _),e0]
 by_cases h0:b0 = a0
 ·by_cases h1:b1 = a1
  ·by_cases h2:b2 = a2
   ·by_cases h3:b3 = a3
    ·rw [if_pos h0,if_pos h1,if_pos h2,if_pos h3,h0,h1,h2,h3]
     simp
    ·rw [if_pos h0,if_pos h1,if_pos h2,if_neg h3,decide_eq_false (fun e=>h3 (by simp at e; exact e.2.2.2.symm))]
     rfl
   ·rw [if_pos h0,if_pos h1,if_neg h2,decide_eq_false (fun e=>h2 (by simp at e; exact e.2.2.1.symm))]
    rfl
  ·rw [if_pos h0,if_neg h1,decide_eq_false (fun e=>h1 (by simp at e; exact e.2.1.symm))]
   rfl
 ·rw [if_neg h0,decide_eq_false (fun e=>h0 (by simp at e; exact e.1.symm))]
  rfl
set_option maxRecDepth 100000 in
set_option maxHeartbeats 4000000 in
theorem head_any (n:Int) (w:World) :
  Calls Try.prog 44 #[.int .i64 n] w (RetK (.agg #[.int .u8 87,.int .u8 76,.int .u8 (n % 256),.int .u8 (n / 256 % 256)]) w):=by
 refine calls_of_holds (S:=(fun _=>False)) (l:=[.int .i64 n]) (n:=9) Try.func44 (body_of (by kernel_rfl)) rfl (by simp) (MemOk.none w _) ?_
 refine hgE 17 [oh0,oh0,oh3,oh0,oh2,oh3,oh0,(oA 0 0 4)] [2] [vV,oE ((0:Int) ≤ 8 ∧ (8:Int) ≤ (IntKind.bits .i64:Nat)) (⟨by decide,by decide⟩),vV] [(w.heap.size,0,4)] [.code [1,1]] ⟨[(2,(pt w.heap.size 0))],[⟨w.heap.size,81,true,[u6 87,u6 76,u6 (n % 256),u6 ((n / 256) % 256)]⟩],[],w.heap.size + 1⟩ ?_
 refine hrt [[⟨false,0,0,4⟩]] [.agg #[u6 87,u6 76,u6 (n % 256),u6 ((n / 256) % 256)]] [(w.heap.size,0,4)] ?_
 intro wx hm
 exact ⟨rfl,hm.kept⟩
def ftl_v1 (s:ByteArray):List Value:=[u6 ((crcS s) / 65536),u6 (((crcS s) / 256) % 256),u6 ((crcS s) % 256)]
set_option maxRecDepth 100000 in
set_option maxHeartbeats 4000000 in
theorem tail_any (s:ByteArray) (hs:(s.size:Int) ≤ 9223372036854775807) (w:World) :
  Calls Try.prog 45 #[.string s] w (RetK (.string (bytesI (tail3 (crcS s)))) w):=by
 refine calls_of_holds (S:=(fun _=>False)) (l:=[.string s]) (n:=16) Try.func45 (body_of (by kernel_rfl)) rfl (by simp) (MemOk.none w _) ?_
 have hc:=crcS_bd s
 refine hgE 10 [oh0,oh0] [2,4] [] [] [.ops [1,0] [1,2],.code [1,1]] ⟨[(2,sT ⟨#[]⟩),(4,sT s)],[],[],w.heap.size⟩ ?_
 refine hcp (i6 (crcS s)) 60 [sT s] (some 5) [] tI rfl (fun wx hm=>sum_any s hs wx) fun z2 hz2=>?_
 replace hz2:w.heap.size ≤ z2:=hz2
 refine hgE 16 [oh0,oh0,oh2,oh2,oh0,oh2,oh3,oh0,oh3,oh0] [2,14] [oE ((0:Int) ≤ 16 ∧ (16:Int) ≤ (IntKind.bits .i64:Nat)) (⟨by decide,by decide⟩),n8 (((crcS s) / 65536)),oE ((0:Int) ≤ 8 ∧ (8:Int) ≤ (IntKind.bits .i64:Nat)) (⟨by decide,by decide⟩),vV,vV] [] [.ops [1,1,0] [9,10],.code [1,1,1]] ⟨[(2,sT ⟨#[]⟩),(14,.slice (some ⟨z2,0,none⟩) 3 3)],[⟨z2,5,true,(ftl_v1 s)⟩],[],z2 + 1⟩ ?_
 refine holds_opR (dst:=(some 15)) (x:=convert 50 9 (.slice (some ⟨z2,0,none⟩) 3 3)) (.string (bytesI (tail3 (crcS s)))) (by kernel_rfl) (by kernel_rfl) rfl (fun wx hm=>?_) ?_
 ·exact run_bytesAt (P:=Try.prog) wx 50 9 5 _ _ _ _ _ (tail3 (crcS s)) ([]) [] (by kernel_rfl) (by kernel_rfl) (by kernel_rfl) (hm.at_ 0 rfl) rfl rfl (byts_tail3 hc)
 refine hgE 5 [oh0] [2] [] [] [.code [1,1,1]] ⟨[(2,sT (bytesI (tail3 (crcS s))))],[⟨z2,5,true,(ftl_v1 s)⟩],[],z2 + 1⟩ ?_
 refine hrt [] [sT (bytesI (tail3 (crcS s)))] [] ?_
 intro wx hm
 exact ⟨rfl,hm.kept⟩
def flg_v1 (s:ByteArray):List Value:=[u6 87,u6 76,u6 ((s.size:Int) % 256),u6 ((s.size:Int) / 256 % 256)]
set_option maxRecDepth 100000 in
set_option maxHeartbeats 4000000 in
theorem frameLay_ok (s:ByteArray) (hs:s.size ≤ 800) (w:World) :
  Calls Try.prog 21 #[.string s] w (RetK (.tuple #[.string (frameT s),.int .i64 0]) w):=by
 refine calls_of_holds (S:=(fun _=>False)) (l:=[.string s]) (n:=20) Try.func21 (body_of (by kernel_rfl)) rfl (by simp) (MemOk.none w _) ?_
 refine hgE 21 [oh0,oh0,oh0,oh0,oh0,oh0,oh0,oh0] [0,2,3,10] [dF (((s.size:Int):Int) > 800)] [] [.ops [1,1,0] [2,3,4],.code [1,1,1]] ⟨[(0,sT s),(2,sT ⟨#[]⟩),(3,i6 0),(10,i6 (s.size:Int))],[],[],w.heap.size⟩ ?_
 refine hcp (.agg (List.toArray (flg_v1 s))) 44 [i6 (s.size:Int)] (some 11) [] tI rfl (fun wx hm=>head_any _ wx) fun z2 hz2=>?_
 replace hz2:w.heap.size ≤ z2:=hz2
 refine hgE 9 [oh0,(oA 0 0 4),oh0] [0,2,3,12] [] [(z2,0,4)] [.ops [1,1,1,0] [1,2,3,4],.code [1,1,1,1]] ⟨[(0,sT s),(2,sT ⟨#[]⟩),(3,i6 0),(12,.slice (some ⟨z2,0,none⟩) 4 4)],[⟨z2,81,true,(flg_v1 s)⟩],[],z2 + 1⟩ ?_
 refine holds_opR (dst:=(some 13)) (x:=convert 50 9 (.slice (some ⟨z2,0,none⟩) 4 4)) (.string (bytesI (headI (s.size:Int)))) (by kernel_rfl) (by kernel_rfl) rfl (fun wx hm=>?_) ?_
 ·exact run_bytesAt (P:=Try.prog) wx 50 9 5 _ _ _ _ _ (headI (s.size:Int)) ([]) [] (by kernel_rfl) (by kernel_rfl) (by kernel_rfl) (hm.at_ 0 rfl) rfl rfl (byts_headI _)
 have hz4:(bytesI (headI (s.size:Int))).size = 4:=by rw [size_bytesI]; rfl
 have hz3:∀ c,(bytesI (tail3 c)).size = 3:=fun c=>by rw [size_bytesI]; rfl
 refine hgE 11 [oh0,oh2,oh0,oh0,oh0] [2,3,16,17] [oE (((((bytesI (headI (s.size:Int)))).size + (s).size:Nat):Int) ≤ 9223372036854775807) (by rw [hz4]; omega)] [] [.ops [1,1,1,1,0] [2,3,4,5],.code [1,1,1,1,1]] ⟨[(2,sT ⟨#[]⟩),(3,i6 0),(16,sT ((bytesI (headI (s.size:Int))) ++ s)),(17,sT ((bytesI (headI (s.size:Int))) ++ s))],[⟨z2,81,true,(flg_v1 s)⟩],[],z2 + 1⟩ ?_
 refine hcp (sT (bytesI (tail3 (crcS (bytesI (headI (s.size:Int)) ++ s))))) 45 [sT ((bytesI (headI (s.size:Int))) ++ s)] (some 18) [] tI rfl (fun wx hm=>tail_any _ (by simp only [ByteArray.size_append,hz4]; omega) wx) fun z6 hz6=>?_
 replace hz6:z2 + 1 ≤ z6:=hz6
 refine hgE 7 [oh2,oh0,oh0] [2,3] [oE ((((((bytesI (headI (s.size:Int))) ++ s)).size + ((bytesI (tail3 (crcS (bytesI (headI (s.size:Int)) ++ s))))).size:Nat):Int) ≤ 9223372036854775807) (by simp only [ByteArray.size_append,hz4,hz3]; omega)] [] [.code [1,1,1,1,1]] ⟨[(2,sT (((bytesI (headI (s.size:Int))) ++ s) ++ (bytesI (tail3 (crcS (bytesI (headI (s.size:Int)) ++ s)))))),(3,i6 0)],[⟨z2,81,true,(flg_v1 s)⟩],[],z6⟩ ?_
 refine hrt [] [sT (((bytesI (headI (s.size:Int))) ++ s) ++ (bytesI (tail3 (crcS (bytesI (headI (s.size:Int)) ++ s))))),i6 0] [] ?_
 intro wx hm
 refine ⟨?_,hm.kept⟩
 have e:(bytesI (headI (s.size:Int)) ++ s) ++ bytesI (tail3 (crcS (bytesI (headI (s.size:Int)) ++ s))) = frameT s:=by
  have hb:Byts (headI ((intsOf s).length:Nat) ++ intsOf s):=(byts_headI _).append (byts_intsOf s)
  rw [bytesI_adds,← length_intsOf,crcS_bytesI hb,bytesI_add]
  rfl
 rw [← e]
 rfl
set_option maxRecDepth 100000 in
set_option maxHeartbeats 4000000 in
theorem open_size (s:ByteArray) (hs:(s.size:Int) ≤ 9223372036854775807) (h:s.size < 7 ∨ 807 < s.size) (w:World) :
  Calls Try.prog 26 #[.string s] w (RetK (.tuple #[.string ⟨#[]⟩,.int .i64 40]) w):=by
 refine calls_of_holds (S:=(fun _=>False)) (l:=[.string s]) (n:=37) Try.func26 (body_of (by kernel_rfl)) rfl (by simp) (MemOk.none w _) ?_
 rcases h with h | h
 ·skip
  refine hgE 32 [oh0,oh0,oh0,oh0,oh2,oh2,oh0,oh0,oh0,oh0,oh1,oh1,oh3,oh1,oh0,oh0] [0,2,3,4] [n64 (((s.size:Int) - 4)),n64 ((((s.size:Int) - 4) - 3)),dT (((((s.size:Int) - 4) - 3):Int) < 0),dT (((((s.size:Int) - 4) - 3):Int) < 0),dT (((((s.size:Int) - 4) - 3):Int) < 0),tT] [] [.code [1,1,0,1,0,1],.code [1,1,1]] ⟨[(0,sT s),(2,sT ⟨#[]⟩),(3,i6 40),(4,i6 (((s.size:Int) - 4) - 3))],[],[],w.heap.size⟩ ?_
  refine hrt [] [sT ⟨#[]⟩,i6 40] [] ?_
  intro wx hm
  exact ⟨rfl,hm.kept⟩
 ·skip
  refine hgE 32 [oh0,oh0,oh0,oh0,oh2,oh2,oh0,oh0,oh0,oh0,oh0,oh0,⟨false,3,[]⟩,oh1,oh0,oh0] [0,2,3,4] [n64 (((s.size:Int) - 4)),n64 ((((s.size:Int) - 4) - 3)),dF (((((s.size:Int) - 4) - 3):Int) < 0),dF (((((s.size:Int) - 4) - 3):Int) < 0),dF (((((s.size:Int) - 4) - 3):Int) < 0),dT (((((s.size:Int) - 4) - 3):Int) > 800)] [] [.code [1,1,0,1,0,1],.code [1,1,1]] ⟨[(0,sT s),(2,sT ⟨#[]⟩),(3,i6 40),(4,i6 (((s.size:Int) - 4) - 3))],[],[],w.heap.size⟩ ?_
  refine hrt [] [sT ⟨#[]⟩,i6 40] [] ?_
  intro wx hm
  exact ⟨rfl,hm.kept⟩
def fo1_v1 (s:ByteArray):List Value:=[u6 87,u6 76,u6 ((((s.size:Int) - 4) - 3) % 256),u6 ((((s.size:Int) - 4) - 3) / 256 % 256)]
def fo1_g2s (s:ByteArray):List (Nat × Value):=[(0,sT s),(2,sT ⟨#[]⟩),(3,i6 0),(4,i6 (((s.size:Int) - 4) - 3))]
def fo1_g2v (s:ByteArray) (a0:Int) (a1:Int) (a2:Int) (a3:Int):List (Option Value):=[some (i6 (((s.size:Int) - 4) - 3)),some (.agg (List.toArray (fo1_v1 s))),some (sT s),some (sT (ByteArray.extract s 0 4)),none,none,some (.agg #[u6 a0,u6 a1,u6 a2,u6 a3]),some (.bool (!(decide (([a0,a1,a2,a3]:List Int) = headI ((s.size:Int) - 7)))))]
def fo1_g2m:List (List Bk):=[[]]
def fo1_g2t:List (Option Nat):=[none,none,none,none,none,none,none,none]
theorem fo1_g2_1 (s:ByteArray) (a0:Int) (a1:Int) (a2:Int) (a3:Int):callAt Try.prog (opsOf (getCode (bodyOf Try.f26) [1,1,1,0,0])) (slG (opsOf (getCode (bodyOf Try.f26) [1,1,1,0,0])) (fo1_g2v s a0 a1 a2 a3) (slI (opsOf (getCode (bodyOf Try.f26) [1,1,1,0,0])) (fo1_g2s s) 1) (needsOf (opsOf (getCode (bodyOf Try.f26) [1,1,1,0,0])) 1)) 1 = some (44,[i6 (((s.size:Int) - 4) - 3)],dstOf (opsOf (getCode (bodyOf Try.f26) [1,1,1,0,0])) 1,[]):=by kernel_rfl
def fo1_g2C (s:ByteArray) (w:World) (a0:Int) (a1:Int) (a2:Int) (a3:Int) (i_:Nat):Prop:=CertG (wpOp Try.prog (opsOf (getCode (bodyOf Try.f26) [1,1,1,0,0])) (sem Try.prog (bodyOf Try.f26) (bodyPost Try.prog Try.f26 (RetK (.tuple #[sT ⟨#[]⟩,i6 40]) w)) [.code [1,1,1,0,1],.code [1,1,1,1]])) [] 37 (opsOf (getCode (bodyOf Try.f26) [1,1,1,0,0])) (slI (opsOf (getCode (bodyOf Try.f26) [1,1,1,0,0])) (fo1_g2s s) i_) (fo1_g2t) 0 (MG w (fun _=>False) (fo1_g2m) [] w.heap.size) (Turned []) (PvG (fo1_g2v s a0 a1 a2 a3) (fun k_ v_ w_=>(k_ = 4 ∧ ∃ g c,w.heap.size ≤ g ∧ v_ = .slice (some ⟨g,0,none⟩) 4 c ∧ FB w_ g 5 [a0,a1,a2,a3]) ∨ (k_ = 5 ∧ ∃ g,w.heap.size ≤ g ∧ v_ = (pt g 0) ∧ FB w_ g 5 [a0,a1,a2,a3]))) i_
set_option maxRecDepth 100000 in
set_option maxHeartbeats 4000000 in
theorem open_head (s:ByteArray) (hz7:7 ≤ s.size) (hz8:s.size ≤ 807) (hh:¬ (intsOf s).take 4 = headI ((s.size:Int) - 7)) (w:World) :
  Calls Try.prog 26 #[.string s] w (RetK (.tuple #[.string ⟨#[]⟩,.int .i64 40]) w):=by
 refine calls_of_holds (S:=(fun _=>False)) (l:=[.string s]) (n:=37) Try.func26 (body_of (by kernel_rfl)) rfl (by simp) (MemOk.none w _) ?_
 have hl4:(intsOf (ByteArray.extract s 0 4)).length = 4:=by rw [intsOf_extract]; simp [length_intsOf]; omega
 obtain ⟨p4,hp4⟩:∃ p,intsOf (ByteArray.extract s 0 4) = p:=⟨_,rfl⟩
 rw [hp4] at hl4
 obtain ⟨a0,a1,a2,a3,rfl⟩:∃ a0 a1 a2 a3,p4 = [a0,a1,a2,a3]:=by
  match p4,hl4 with
  | [a0,a1,a2,a3],_=>exact ⟨a0,a1,a2,a3,rfl⟩
 refine hgE 30 [oh0,oh0,oh0,oh0,oh2,oh2,oh0,oh0,oh0,oh0,oh0,oh0,⟨false,3,[]⟩,oh0] [0,2,3,4] [n64 (((s.size:Int) - 4)),n64 ((((s.size:Int) - 4) - 3)),dF (((((s.size:Int) - 4) - 3):Int) < 0),dF (((((s.size:Int) - 4) - 3):Int) < 0),dF (((((s.size:Int) - 4) - 3):Int) < 0),dF (((((s.size:Int) - 4) - 3):Int) > 800)] [] [.code [1,1,1,0,0],.code [1,1,1,0,1],.code [1,1,1,1]] ⟨[(0,sT s),(2,sT ⟨#[]⟩),(3,i6 0),(4,i6 (((s.size:Int) - 4) - 3))],[],[],w.heap.size⟩ ?_
 have fo1_g2_c1:fo1_g2C s w a0 a1 a2 a3 1:=cert_call (v:=.agg (List.toArray (fo1_v1 s))) (by kernel_rfl) (by kernel_rfl) (fo1_g2_1 s a0 a1 a2 a3) trivial (fun j wx _ hm=>head_any _ wx)
 have fo1_g2_c4:fo1_g2C s w a0 a1 a2 a3 4:=cert_op (by
   intro j a_ wx hj hjs hcap hf hk_ hm
   obtain ⟨bk,hb,hz,hM⟩:=hm
   obtain ⟨c,w',h1,h2,h3⟩:=run_newBytes (P:=Try.prog) wx 9 50 5 (ByteArray.extract s 0 4) (by kernel_rfl) (by kernel_rfl) (by kernel_rfl)
   have e4:(ByteArray.extract s 0 4).size = 4:=by rw [← length_intsOf,hp4]; rfl
   rw [hp4] at h2
   rw [e4] at h1
   exact ⟨_,convert 9 50 (.string (ByteArray.extract s 0 4)),_,w',hf,by kernel_rfl,by kernel_rfl,h1,.inl ⟨rfl,_,c,hz,rfl,h2⟩,h3.mono (fun _ _ h=>h.elim),bk,hb,Nat.le_trans hz h3.size,(hM.same h3).2⟩)
 have fo1_g2_c5:fo1_g2C s w a0 a1 a2 a3 5:=cert_op (by
   intro j a_ wx hj hjs hcap hf hk_ hm
   obtain ⟨v,hv1,hv2⟩:=hk_ 4 (List.mem_of_getElem? (i:=0) (by kernel_rfl)) 20 (by kernel_rfl)
   have hv3:(fun k_ v_ w_=>(k_ = 4 ∧ ∃ g c,w.heap.size ≤ g ∧ v_ = .slice (some ⟨g,0,none⟩) 4 c ∧ FB w_ g 5 [a0,a1,a2,a3]) ∨ (k_ = 5 ∧ ∃ g,w.heap.size ≤ g ∧ v_ = (pt g 0) ∧ FB w_ g 5 [a0,a1,a2,a3])) 4 v wx:=hv2
   rcases hv3 with ⟨_,g,c,hg,rfl,hB⟩ | ⟨h,_⟩
   ·exact ⟨[(20,.slice (some ⟨g,0,none⟩) 4 c)],Instr.arrayAt 81 (.slice (some ⟨g,0,none⟩) 4 c),_,wx,one_slot hf hv1,by kernel_rfl,by kernel_rfl,run_arrayAt (P:=Try.prog) wx 81 5 4 c _ (by kernel_rfl),.inr ⟨rfl,g,hg,rfl,hB⟩,Kept.refl _ _,hm⟩
   ·cases h)
 have fo1_g2_c6:fo1_g2C s w a0 a1 a2 a3 6:=cert_op (by
   intro j a_ wx hj hjs hcap hf hk_ hm
   obtain ⟨v,hv1,hv2⟩:=hk_ 5 (List.mem_of_getElem? (i:=0) (by kernel_rfl)) 21 (by kernel_rfl)
   have hv3:(fun k_ v_ w_=>(k_ = 4 ∧ ∃ g c,w.heap.size ≤ g ∧ v_ = .slice (some ⟨g,0,none⟩) 4 c ∧ FB w_ g 5 [a0,a1,a2,a3]) ∨ (k_ = 5 ∧ ∃ g,w.heap.size ≤ g ∧ v_ = (pt g 0) ∧ FB w_ g 5 [a0,a1,a2,a3])) 5 v wx:=hv2
   rcases hv3 with ⟨h,_⟩ | ⟨_,g,hg,rfl,hB⟩
   ·cases h
   ·exact ⟨[(21,(pt g 0))],Instr.loadAt 81 ((pt g 0)),_,wx,one_slot hf hv1,by kernel_rfl,by kernel_rfl,run_loadFB (P:=Try.prog) wx 81 5 4 g 5 [a0,a1,a2,a3] (by kernel_rfl) (by kernel_rfl) hB,(show _ = _ from rfl),Kept.refl _ _,hm⟩)
 have fo1_g2_c7:fo1_g2C s w a0 a1 a2 a3 7:=cert_op (by
   intro j a_ wx hj hjs hcap hf hk_ hm
   exact ⟨_,eqGuard .neq 81 (.tmp 17) (.tmp 22) (.agg (List.toArray (fo1_v1 s))) (.agg #[.int .u8 a0,.int .u8 a1,.int .u8 a2,.int .u8 a3]) >>= fun _=>binOp .neq 81 (.agg (List.toArray (fo1_v1 s))) (.agg #[.int .u8 a0,.int .u8 a1,.int .u8 a2,.int .u8 a3]),_,wx,hf,by kernel_rfl,by kernel_rfl,run_neq4 wx (.tmp 17) (.tmp 22) _ _ _ _ _ _ _ _,(by rw [show (s.size:Int) - 4 - 3 = (s.size:Int) - 7 by omega]; rfl),Kept.refl _ _,hm⟩)
 have fo1_g2_R:∀ e_ ∈ (rZs [0,2] ++ [⟨3,oh2,[oE ((0:Int) ≤ 4 ∧ 4 ≤ ((s).size:Int))],[]⟩]:List RegE),fo1_g2C s w a0 a1 a2 a3 e_.i:=certs_reg (by kernel_rfl) _ (fun sz=>by kernel_rfl)
 refine holds_mixG (vs:=(fo1_g2v s a0 a1 a2 a3)) (ms:=(fo1_g2m)) (stg:=(fo1_g2t)) (J:=0) (sl':=[(0,sT s),(2,sT ⟨#[]⟩),(3,i6 0),(4,i6 (((s.size:Int) - 4) - 3)),(23,.bool (!(decide (([a0,a1,a2,a3]:List Int) = headI ((s.size:Int) - 7)))))]) (bk':=[]) (fun k_ v_ w_=>(k_ = 4 ∧ ∃ g c,w.heap.size ≤ g ∧ v_ = .slice (some ⟨g,0,none⟩) 4 c ∧ FB w_ g 5 [a0,a1,a2,a3]) ∨ (k_ = 5 ∧ ∃ g,w.heap.size ≤ g ∧ v_ = (pt g 0) ∧ FB w_ g 5 [a0,a1,a2,a3])) [0,2,3,4,23] (by kernel_rfl) (by kernel_rfl) (by kernel_rfl) (fun k v w_ w' h hk=>by
  rcases h with ⟨h1,g,c,h2,h3,h4⟩ | ⟨h1,g,h2,h3,h4⟩
  ·exact .inl ⟨h1,g,c,h2,h3,h4.kept hk (fun ⟨b,hb,_⟩=>by cases hb)⟩
  ·exact .inr ⟨h1,g,h2,h3,h4.kept hk (fun ⟨b,hb,_⟩=>by cases hb)⟩) (certs_mix fo1_g2_R [1,4,5,6,7] ⟨fo1_g2_c1,fo1_g2_c4,fo1_g2_c5,fo1_g2_c6,fo1_g2_c7,trivial⟩ (by kernel_rfl)) (by kernel_rfl) (by kernel_rfl) (by kernel_rfl) (fun z2 hz2=>?_)
 replace hz2:w.heap.size ≤ z2:=hz2
 have e40:(intsOf s).take 4 = [a0,a1,a2,a3]:=by rw [← hp4,intsOf_extract]; rfl
 refine hgE 9 [oh1,oh0,oh0] [0,2,3,4] [oE ((!(decide (([a0,a1,a2,a3]:List Int) = headI ((s.size:Int) - 7)))) = true) (by rw [decide_eq_false (by rw [← e40]; exact hh)]; rfl)] [] [.code [1,1,1,0,1,0,1],.code [1,1,1,1]] ⟨[(0,sT s),(2,sT ⟨#[]⟩),(3,i6 40),(4,i6 (((s.size:Int) - 4) - 3))],[],[],z2⟩ ?_
 refine hrt [] [sT ⟨#[]⟩,i6 40] [] ?_
 intro wx hm
 exact ⟨rfl,hm.kept⟩
def fo2_v1 (s:ByteArray):List Value:=(fo1_v1 s)
def fo2_g2s (s:ByteArray):List (Nat × Value):=[(0,sT s),(2,sT ⟨#[]⟩),(3,i6 0),(4,i6 (((s.size:Int) - 4) - 3))]
def fo2_g2v (s:ByteArray) (a0:Int) (a1:Int) (a2:Int) (a3:Int):List (Option Value):=[some (i6 (((s.size:Int) - 4) - 3)),some (.agg (List.toArray (fo2_v1 s))),some (sT s),some (sT (ByteArray.extract s 0 4)),none,none,some (.agg #[u6 a0,u6 a1,u6 a2,u6 a3]),some (.bool (!(decide (([a0,a1,a2,a3]:List Int) = headI ((s.size:Int) - 7)))))]
def fo2_g2m:List (List Bk):=[[]]
def fo2_g2t:List (Option Nat):=[none,none,none,none,none,none,none,none]
theorem fo2_g2_1 (s:ByteArray) (a0:Int) (a1:Int) (a2:Int) (a3:Int):callAt Try.prog (opsOf (getCode (bodyOf Try.f26) [1,1,1,0,0])) (slG (opsOf (getCode (bodyOf Try.f26) [1,1,1,0,0])) (fo2_g2v s a0 a1 a2 a3) (slI (opsOf (getCode (bodyOf Try.f26) [1,1,1,0,0])) (fo2_g2s s) 1) (needsOf (opsOf (getCode (bodyOf Try.f26) [1,1,1,0,0])) 1)) 1 = some (44,[i6 (((s.size:Int) - 4) - 3)],dstOf (opsOf (getCode (bodyOf Try.f26) [1,1,1,0,0])) 1,[]):=by kernel_rfl
def fo2_g2C (s:ByteArray) (w:World) (a0:Int) (a1:Int) (a2:Int) (a3:Int) (i_:Nat):Prop:=CertG (wpOp Try.prog (opsOf (getCode (bodyOf Try.f26) [1,1,1,0,0])) (sem Try.prog (bodyOf Try.f26) (bodyPost Try.prog Try.f26 (RetK (.tuple #[sT ⟨#[]⟩,i6 40]) w)) [.code [1,1,1,0,1],.code [1,1,1,1]])) [] 37 (opsOf (getCode (bodyOf Try.f26) [1,1,1,0,0])) (slI (opsOf (getCode (bodyOf Try.f26) [1,1,1,0,0])) (fo2_g2s s) i_) (fo2_g2t) 0 (MG w (fun _=>False) (fo2_g2m) [] w.heap.size) (Turned []) (PvG (fo2_g2v s a0 a1 a2 a3) (fun k_ v_ w_=>(k_ = 4 ∧ ∃ g c,w.heap.size ≤ g ∧ v_ = .slice (some ⟨g,0,none⟩) 4 c ∧ FB w_ g 5 [a0,a1,a2,a3]) ∨ (k_ = 5 ∧ ∃ g,w.heap.size ≤ g ∧ v_ = (pt g 0) ∧ FB w_ g 5 [a0,a1,a2,a3]))) i_
theorem fo2_q4 (s:ByteArray) (w:World) (z2:Nat):Out.prune [0,2,3,5,33] (qListG Try.prog 37 w (fun _=>False) (opsOf (getCode (bodyOf Try.f26) [1,1,1,1,1,0,0])) (opsOf (getCode (bodyOf Try.f26) [1,1,1,1,1,0,0])).toList ⟨[(0,sT s),(2,sT ⟨#[]⟩),(3,i6 0),(5,i6 (4 + (((s.size:Int) - 4) - 3)))],[],[],z2⟩ [(false,.op oh0),(false,.op oh0),(false,.op oh2),(false,.call (sT (bytesI (tail3 (crcS (ByteArray.extract s 0 (Int.toNat (4 + (((s.size:Int) - 4) - 3))))))))),(false,.op oh0),(false,.op oh0),(false,.op oh2),(false,.op oh0)]) = some ⟨[(0:Int) ≤ (4 + (((s.size:Int) - 4) - 3)) ∧ (4 + (((s.size:Int) - 4) - 3)) ≤ ((s).size:Int),∀ w',MemC w (fun _=>False) [] [] z2 w' → Calls Try.prog 45 #[sT (ByteArray.extract s 0 (Int.toNat (4 + (((s.size:Int) - 4) - 3))))] w' (RetK (sT (bytesI (tail3 (crcS (ByteArray.extract s 0 (Int.toNat (4 + (((s.size:Int) - 4) - 3)))))))) w'),(0:Int) ≤ (4 + (((s.size:Int) - 4) - 3)) ∧ (4 + (((s.size:Int) - 4) - 3)) ≤ ((s).size:Int)],dupR [],⟨[(0,sT s),(2,sT ⟨#[]⟩),(3,i6 0),(5,i6 (4 + (((s.size:Int) - 4) - 3))),(33,.bool (!(ByteArray.toList (bytesI (tail3 (crcS (ByteArray.extract s 0 (Int.toNat (4 + (((s.size:Int) - 4) - 3))))))) == ByteArray.toList (ByteArray.extract s (Int.toNat (4 + (((s.size:Int) - 4) - 3))) (s).size))))],[],[],z2⟩⟩:=by kernel_rfl
set_option maxRecDepth 100000 in
set_option maxHeartbeats 4000000 in
theorem open_sum (s:ByteArray) (hz7:7 ≤ s.size) (hz8:s.size ≤ 807) (hh:(intsOf s).take 4 = headI ((s.size:Int) - 7)) (hs2:¬ tail3 (sumI (bodyI s)) = (intsOf s).drop (s.size - 3)) (w:World) :
  Calls Try.prog 26 #[.string s] w (RetK (.tuple #[.string ⟨#[]⟩,.int .i64 40]) w):=by
 refine calls_of_holds (S:=(fun _=>False)) (l:=[.string s]) (n:=37) Try.func26 (body_of (by kernel_rfl)) rfl (by simp) (MemOk.none w _) ?_
 have hl4:(intsOf (ByteArray.extract s 0 4)).length = 4:=by rw [intsOf_extract]; simp [length_intsOf]; omega
 obtain ⟨p4,hp4⟩:∃ p,intsOf (ByteArray.extract s 0 4) = p:=⟨_,rfl⟩
 rw [hp4] at hl4
 obtain ⟨a0,a1,a2,a3,rfl⟩:∃ a0 a1 a2 a3,p4 = [a0,a1,a2,a3]:=by
  match p4,hl4 with
  | [a0,a1,a2,a3],_=>exact ⟨a0,a1,a2,a3,rfl⟩
 refine hgE 30 [oh0,oh0,oh0,oh0,oh2,oh2,oh0,oh0,oh0,oh0,oh0,oh0,⟨false,3,[]⟩,oh0] [0,2,3,4] [n64 (((s.size:Int) - 4)),n64 ((((s.size:Int) - 4) - 3)),dF (((((s.size:Int) - 4) - 3):Int) < 0),dF (((((s.size:Int) - 4) - 3):Int) < 0),dF (((((s.size:Int) - 4) - 3):Int) < 0),dF (((((s.size:Int) - 4) - 3):Int) > 800)] [] [.code [1,1,1,0,0],.code [1,1,1,0,1],.code [1,1,1,1]] ⟨[(0,sT s),(2,sT ⟨#[]⟩),(3,i6 0),(4,i6 (((s.size:Int) - 4) - 3))],[],[],w.heap.size⟩ ?_
 have fo2_g2_c1:fo2_g2C s w a0 a1 a2 a3 1:=cert_call (v:=.agg (List.toArray (fo2_v1 s))) (by kernel_rfl) (by kernel_rfl) (fo2_g2_1 s a0 a1 a2 a3) trivial (fun j wx _ hm=>head_any _ wx)
 have fo2_g2_c4:fo2_g2C s w a0 a1 a2 a3 4:=cert_op (by
   intro j a_ wx hj hjs hcap hf hk_ hm
   obtain ⟨bk,hb,hz,hM⟩:=hm
   obtain ⟨c,w',h1,h2,h3⟩:=run_newBytes (P:=Try.prog) wx 9 50 5 (ByteArray.extract s 0 4) (by kernel_rfl) (by kernel_rfl) (by kernel_rfl)
   have e4:(ByteArray.extract s 0 4).size = 4:=by rw [← length_intsOf,hp4]; rfl
   rw [hp4] at h2
   rw [e4] at h1
   exact ⟨_,convert 9 50 (.string (ByteArray.extract s 0 4)),_,w',hf,by kernel_rfl,by kernel_rfl,h1,.inl ⟨rfl,_,c,hz,rfl,h2⟩,h3.mono (fun _ _ h=>h.elim),bk,hb,Nat.le_trans hz h3.size,(hM.same h3).2⟩)
 have fo2_g2_c5:fo2_g2C s w a0 a1 a2 a3 5:=cert_op (by
   intro j a_ wx hj hjs hcap hf hk_ hm
   obtain ⟨v,hv1,hv2⟩:=hk_ 4 (List.mem_of_getElem? (i:=0) (by kernel_rfl)) 20 (by kernel_rfl)
   have hv3:(fun k_ v_ w_=>(k_ = 4 ∧ ∃ g c,w.heap.size ≤ g ∧ v_ = .slice (some ⟨g,0,none⟩) 4 c ∧ FB w_ g 5 [a0,a1,a2,a3]) ∨ (k_ = 5 ∧ ∃ g,w.heap.size ≤ g ∧ v_ = (pt g 0) ∧ FB w_ g 5 [a0,a1,a2,a3])) 4 v wx:=hv2
   rcases hv3 with ⟨_,g,c,hg,rfl,hB⟩ | ⟨h,_⟩
   ·exact ⟨[(20,.slice (some ⟨g,0,none⟩) 4 c)],Instr.arrayAt 81 (.slice (some ⟨g,0,none⟩) 4 c),_,wx,one_slot hf hv1,by kernel_rfl,by kernel_rfl,run_arrayAt (P:=Try.prog) wx 81 5 4 c _ (by kernel_rfl),.inr ⟨rfl,g,hg,rfl,hB⟩,Kept.refl _ _,hm⟩
   ·cases h)
 have fo2_g2_c6:fo2_g2C s w a0 a1 a2 a3 6:=cert_op (by
   intro j a_ wx hj hjs hcap hf hk_ hm
   obtain ⟨v,hv1,hv2⟩:=hk_ 5 (List.mem_of_getElem? (i:=0) (by kernel_rfl)) 21 (by kernel_rfl)
   have hv3:(fun k_ v_ w_=>(k_ = 4 ∧ ∃ g c,w.heap.size ≤ g ∧ v_ = .slice (some ⟨g,0,none⟩) 4 c ∧ FB w_ g 5 [a0,a1,a2,a3]) ∨ (k_ = 5 ∧ ∃ g,w.heap.size ≤ g ∧ v_ = (pt g 0) ∧ FB w_ g 5 [a0,a1,a2,a3])) 5 v wx:=hv2
   rcases hv3 with ⟨h,_⟩ | ⟨_,g,hg,rfl,hB⟩
   ·cases h
   ·exact ⟨[(21,(pt g 0))],Instr.loadAt 81 ((pt g 0)),_,wx,one_slot hf hv1,by kernel_rfl,by kernel_rfl,run_loadFB (P:=Try.prog) wx 81 5 4 g 5 [a0,a1,a2,a3] (by kernel_rfl) (by kernel_rfl) hB,(show _ = _ from rfl),Kept.refl _ _,hm⟩)
 have fo2_g2_c7:fo2_g2C s w a0 a1 a2 a3 7:=cert_op (by
   intro j a_ wx hj hjs hcap hf hk_ hm
   exact ⟨_,eqGuard .neq 81 (.tmp 17) (.tmp 22) (.agg (List.toArray (fo2_v1 s))) (.agg #[.int .u8 a0,.int .u8 a1,.int .u8 a2,.int .u8 a3]) >>= fun _=>binOp .neq 81 (.agg (List.toArray (fo2_v1 s))) (.agg #[.int .u8 a0,.int .u8 a1,.int .u8 a2,.int .u8 a3]),_,wx,hf,by kernel_rfl,by kernel_rfl,run_neq4 wx (.tmp 17) (.tmp 22) _ _ _ _ _ _ _ _,(by rw [show (s.size:Int) - 4 - 3 = (s.size:Int) - 7 by omega]; rfl),Kept.refl _ _,hm⟩)
 have fo2_g2_R:∀ e_ ∈ (rZs [0,2] ++ [⟨3,oh2,[oE ((0:Int) ≤ 4 ∧ 4 ≤ ((s).size:Int))],[]⟩]:List RegE),fo2_g2C s w a0 a1 a2 a3 e_.i:=certs_reg (by kernel_rfl) _ (fun sz=>by kernel_rfl)
 refine holds_mixG (vs:=(fo2_g2v s a0 a1 a2 a3)) (ms:=(fo2_g2m)) (stg:=(fo2_g2t)) (J:=0) (sl':=[(0,sT s),(2,sT ⟨#[]⟩),(3,i6 0),(4,i6 (((s.size:Int) - 4) - 3)),(23,.bool (!(decide (([a0,a1,a2,a3]:List Int) = headI ((s.size:Int) - 7)))))]) (bk':=[]) (fun k_ v_ w_=>(k_ = 4 ∧ ∃ g c,w.heap.size ≤ g ∧ v_ = .slice (some ⟨g,0,none⟩) 4 c ∧ FB w_ g 5 [a0,a1,a2,a3]) ∨ (k_ = 5 ∧ ∃ g,w.heap.size ≤ g ∧ v_ = (pt g 0) ∧ FB w_ g 5 [a0,a1,a2,a3])) [0,2,3,4,23] (by kernel_rfl) (by kernel_rfl) (by kernel_rfl) (fun k v w_ w' h hk=>by
  rcases h with ⟨h1,g,c,h2,h3,h4⟩ | ⟨h1,g,h2,h3,h4⟩
  ·exact .inl ⟨h1,g,c,h2,h3,h4.kept hk (fun ⟨b,hb,_⟩=>by cases hb)⟩
  ·exact .inr ⟨h1,g,h2,h3,h4.kept hk (fun ⟨b,hb,_⟩=>by cases hb)⟩) (certs_mix fo2_g2_R [1,4,5,6,7] ⟨fo2_g2_c1,fo2_g2_c4,fo2_g2_c5,fo2_g2_c6,fo2_g2_c7,trivial⟩ (by kernel_rfl)) (by kernel_rfl) (by kernel_rfl) (by kernel_rfl) (fun z2 hz2=>?_)
 replace hz2:w.heap.size ≤ z2:=hz2
 have e40:(intsOf s).take 4 = [a0,a1,a2,a3]:=by rw [← hp4,intsOf_extract]; rfl
 refine hgE 13 [oh0,oh0,oh2,oh0] [0,2,3,5] [oE ((!(decide (([a0,a1,a2,a3]:List Int) = headI ((s.size:Int) - 7)))) = false) (by rw [decide_eq_true (by rw [← e40]; exact hh)]; rfl),n64 ((4 + (((s.size:Int) - 4) - 3)))] [] [.code [1,1,1,1,1,0,0],.code [1,1,1,1,1,0,1],.code [1,1,1,1,1,1]] ⟨[(0,sT s),(2,sT ⟨#[]⟩),(3,i6 0),(5,i6 (4 + (((s.size:Int) - 4) - 3)))],[],[],z2⟩ ?_
 have hNd:(Int.toNat (4 + (((s.size:Int) - 4) - 3))) = s.size - 3:=by omega
 have hcs:crcS (ByteArray.extract s 0 (Int.toNat (4 + (((s.size:Int) - 4) - 3)))) = sumI (bodyI s):=by
  unfold crcS sumI bodyI
  rw [intsOf_extract,hNd]
  rfl
 refine holds_quietG _ _ (by kernel_rfl) (by kernel_rfl) (by kernel_rfl) (fo2_q4 s w z2) ⟨⟨by omega,by omega⟩,(fun wx hm=>tail_any _ (by rw [← length_intsOf,intsOf_extract]; simp [length_intsOf]; omega) wx),⟨by omega,by omega⟩,trivial⟩ fun z4 hz4=>?_
 replace hz4:z2 ≤ z4:=hz4
 refine hgE 9 [oh1,oh0,oh0] [0,2,3,5] [oE ((!(ByteArray.toList (bytesI (tail3 (crcS (ByteArray.extract s 0 (Int.toNat (4 + (((s.size:Int) - 4) - 3))))))) == ByteArray.toList (ByteArray.extract s (Int.toNat (4 + (((s.size:Int) - 4) - 3))) (s).size))) = true) (by rw [show (ByteArray.toList (bytesI (tail3 (crcS (ByteArray.extract s 0 (Int.toNat (4 + (((s.size:Int) - 4) - 3))))))) == ByteArray.toList (ByteArray.extract s (Int.toNat (4 + (((s.size:Int) - 4) - 3))) (s).size)) = false from by rw [toList_dec,intsOf_bytesI (byts_tail3 (crcS_bd _)),hcs,intsOf_extract,hNd,List.take_of_length_le (by rw [length_intsOf]; omega)]; exact decide_eq_false hs2]; rfl)] [] [.code [1,1,1,1,1,0,1,0,1],.code [1,1,1,1,1,1]] ⟨[(0,sT s),(2,sT ⟨#[]⟩),(3,i6 40),(5,i6 (4 + (((s.size:Int) - 4) - 3)))],[],[],z4⟩ ?_
 refine hrt [] [sT ⟨#[]⟩,i6 40] [] ?_
 intro wx hm
 exact ⟨rfl,hm.kept⟩
def fo3_v1 (s:ByteArray):List Value:=(fo1_v1 s)
def fo3_g2s (s:ByteArray):List (Nat × Value):=[(0,sT s),(2,sT ⟨#[]⟩),(3,i6 0),(4,i6 (((s.size:Int) - 4) - 3))]
def fo3_g2v (s:ByteArray) (a0:Int) (a1:Int) (a2:Int) (a3:Int):List (Option Value):=[some (i6 (((s.size:Int) - 4) - 3)),some (.agg (List.toArray (fo3_v1 s))),some (sT s),some (sT (ByteArray.extract s 0 4)),none,none,some (.agg #[u6 a0,u6 a1,u6 a2,u6 a3]),some (.bool (!(decide (([a0,a1,a2,a3]:List Int) = headI ((s.size:Int) - 7)))))]
def fo3_g2m:List (List Bk):=[[]]
def fo3_g2t:List (Option Nat):=[none,none,none,none,none,none,none,none]
theorem fo3_g2_1 (s:ByteArray) (a0:Int) (a1:Int) (a2:Int) (a3:Int):callAt Try.prog (opsOf (getCode (bodyOf Try.f26) [1,1,1,0,0])) (slG (opsOf (getCode (bodyOf Try.f26) [1,1,1,0,0])) (fo3_g2v s a0 a1 a2 a3) (slI (opsOf (getCode (bodyOf Try.f26) [1,1,1,0,0])) (fo3_g2s s) 1) (needsOf (opsOf (getCode (bodyOf Try.f26) [1,1,1,0,0])) 1)) 1 = some (44,[i6 (((s.size:Int) - 4) - 3)],dstOf (opsOf (getCode (bodyOf Try.f26) [1,1,1,0,0])) 1,[]):=by kernel_rfl
def fo3_g2C (s:ByteArray) (w:World) (a0:Int) (a1:Int) (a2:Int) (a3:Int) (i_:Nat):Prop:=CertG (wpOp Try.prog (opsOf (getCode (bodyOf Try.f26) [1,1,1,0,0])) (sem Try.prog (bodyOf Try.f26) (bodyPost Try.prog Try.f26 (RetK (.tuple #[sT (openT s),i6 0]) w)) [.code [1,1,1,0,1],.code [1,1,1,1]])) [] 37 (opsOf (getCode (bodyOf Try.f26) [1,1,1,0,0])) (slI (opsOf (getCode (bodyOf Try.f26) [1,1,1,0,0])) (fo3_g2s s) i_) (fo3_g2t) 0 (MG w (fun _=>False) (fo3_g2m) [] w.heap.size) (Turned []) (PvG (fo3_g2v s a0 a1 a2 a3) (fun k_ v_ w_=>(k_ = 4 ∧ ∃ g c,w.heap.size ≤ g ∧ v_ = .slice (some ⟨g,0,none⟩) 4 c ∧ FB w_ g 5 [a0,a1,a2,a3]) ∨ (k_ = 5 ∧ ∃ g,w.heap.size ≤ g ∧ v_ = (pt g 0) ∧ FB w_ g 5 [a0,a1,a2,a3]))) i_
theorem fo3_q4 (s:ByteArray) (w:World) (z2:Nat):Out.prune [0,2,3,5,33] (qListG Try.prog 37 w (fun _=>False) (opsOf (getCode (bodyOf Try.f26) [1,1,1,1,1,0,0])) (opsOf (getCode (bodyOf Try.f26) [1,1,1,1,1,0,0])).toList ⟨[(0,sT s),(2,sT ⟨#[]⟩),(3,i6 0),(5,i6 (4 + (((s.size:Int) - 4) - 3)))],[],[],z2⟩ [(false,.op oh0),(false,.op oh0),(false,.op oh2),(false,.call (sT (bytesI (tail3 (crcS (ByteArray.extract s 0 (Int.toNat (4 + (((s.size:Int) - 4) - 3))))))))),(false,.op oh0),(false,.op oh0),(false,.op oh2),(false,.op oh0)]) = some ⟨[(0:Int) ≤ (4 + (((s.size:Int) - 4) - 3)) ∧ (4 + (((s.size:Int) - 4) - 3)) ≤ ((s).size:Int),∀ w',MemC w (fun _=>False) [] [] z2 w' → Calls Try.prog 45 #[sT (ByteArray.extract s 0 (Int.toNat (4 + (((s.size:Int) - 4) - 3))))] w' (RetK (sT (bytesI (tail3 (crcS (ByteArray.extract s 0 (Int.toNat (4 + (((s.size:Int) - 4) - 3)))))))) w'),(0:Int) ≤ (4 + (((s.size:Int) - 4) - 3)) ∧ (4 + (((s.size:Int) - 4) - 3)) ≤ ((s).size:Int)],dupR [],⟨[(0,sT s),(2,sT ⟨#[]⟩),(3,i6 0),(5,i6 (4 + (((s.size:Int) - 4) - 3))),(33,.bool (!(ByteArray.toList (bytesI (tail3 (crcS (ByteArray.extract s 0 (Int.toNat (4 + (((s.size:Int) - 4) - 3))))))) == ByteArray.toList (ByteArray.extract s (Int.toNat (4 + (((s.size:Int) - 4) - 3))) (s).size))))],[],[],z2⟩⟩:=by kernel_rfl
set_option maxRecDepth 100000 in
set_option maxHeartbeats 4000000 in
theorem open_ok (s:ByteArray) (hz7:7 ≤ s.size) (hz8:s.size ≤ 807) (hh:(intsOf s).take 4 = headI ((s.size:Int) - 7)) (hs2:tail3 (sumI (bodyI s)) = (intsOf s).drop (s.size - 3)) (w:World) :
  Calls Try.prog 26 #[.string s] w (RetK (.tuple #[.string (openT s),.int .i64 0]) w):=by
 refine calls_of_holds (S:=(fun _=>False)) (l:=[.string s]) (n:=37) Try.func26 (body_of (by kernel_rfl)) rfl (by simp) (MemOk.none w _) ?_
 have hl4:(intsOf (ByteArray.extract s 0 4)).length = 4:=by rw [intsOf_extract]; simp [length_intsOf]; omega
 obtain ⟨p4,hp4⟩:∃ p,intsOf (ByteArray.extract s 0 4) = p:=⟨_,rfl⟩
 rw [hp4] at hl4
 obtain ⟨a0,a1,a2,a3,rfl⟩:∃ a0 a1 a2 a3,p4 = [a0,a1,a2,a3]:=by
  match p4,hl4 with
  | [a0,a1,a2,a3],_=>exact ⟨a0,a1,a2,a3,rfl⟩
 refine hgE 30 [oh0,oh0,oh0,oh0,oh2,oh2,oh0,oh0,oh0,oh0,oh0,oh0,⟨false,3,[]⟩,oh0] [0,2,3,4] [n64 (((s.size:Int) - 4)),n64 ((((s.size:Int) - 4) - 3)),dF (((((s.size:Int) - 4) - 3):Int) < 0),dF (((((s.size:Int) - 4) - 3):Int) < 0),dF (((((s.size:Int) - 4) - 3):Int) < 0),dF (((((s.size:Int) - 4) - 3):Int) > 800)] [] [.code [1,1,1,0,0],.code [1,1,1,0,1],.code [1,1,1,1]] ⟨[(0,sT s),(2,sT ⟨#[]⟩),(3,i6 0),(4,i6 (((s.size:Int) - 4) - 3))],[],[],w.heap.size⟩ ?_
 have fo3_g2_c1:fo3_g2C s w a0 a1 a2 a3 1:=cert_call (v:=.agg (List.toArray (fo3_v1 s))) (by kernel_rfl) (by kernel_rfl) (fo3_g2_1 s a0 a1 a2 a3) trivial (fun j wx _ hm=>head_any _ wx)
 have fo3_g2_c4:fo3_g2C s w a0 a1 a2 a3 4:=cert_op (by
   intro j a_ wx hj hjs hcap hf hk_ hm
   obtain ⟨bk,hb,hz,hM⟩:=hm
   obtain ⟨c,w',h1,h2,h3⟩:=run_newBytes (P:=Try.prog) wx 9 50 5 (ByteArray.extract s 0 4) (by kernel_rfl) (by kernel_rfl) (by kernel_rfl)
   have e4:(ByteArray.extract s 0 4).size = 4:=by rw [← length_intsOf,hp4]; rfl
   rw [hp4] at h2
   rw [e4] at h1
   exact ⟨_,convert 9 50 (.string (ByteArray.extract s 0 4)),_,w',hf,by kernel_rfl,by kernel_rfl,h1,.inl ⟨rfl,_,c,hz,rfl,h2⟩,h3.mono (fun _ _ h=>h.elim),bk,hb,Nat.le_trans hz h3.size,(hM.same h3).2⟩)
 have fo3_g2_c5:fo3_g2C s w a0 a1 a2 a3 5:=cert_op (by
   intro j a_ wx hj hjs hcap hf hk_ hm
   obtain ⟨v,hv1,hv2⟩:=hk_ 4 (List.mem_of_getElem? (i:=0) (by kernel_rfl)) 20 (by kernel_rfl)
   have hv3:(fun k_ v_ w_=>(k_ = 4 ∧ ∃ g c,w.heap.size ≤ g ∧ v_ = .slice (some ⟨g,0,none⟩) 4 c ∧ FB w_ g 5 [a0,a1,a2,a3]) ∨ (k_ = 5 ∧ ∃ g,w.heap.size ≤ g ∧ v_ = (pt g 0) ∧ FB w_ g 5 [a0,a1,a2,a3])) 4 v wx:=hv2
   rcases hv3 with ⟨_,g,c,hg,rfl,hB⟩ | ⟨h,_⟩
   ·exact ⟨[(20,.slice (some ⟨g,0,none⟩) 4 c)],Instr.arrayAt 81 (.slice (some ⟨g,0,none⟩) 4 c),_,wx,one_slot hf hv1,by kernel_rfl,by kernel_rfl,run_arrayAt (P:=Try.prog) wx 81 5 4 c _ (by kernel_rfl),.inr ⟨rfl,g,hg,rfl,hB⟩,Kept.refl _ _,hm⟩
   ·cases h)
 have fo3_g2_c6:fo3_g2C s w a0 a1 a2 a3 6:=cert_op (by
   intro j a_ wx hj hjs hcap hf hk_ hm
   obtain ⟨v,hv1,hv2⟩:=hk_ 5 (List.mem_of_getElem? (i:=0) (by kernel_rfl)) 21 (by kernel_rfl)
   have hv3:(fun k_ v_ w_=>(k_ = 4 ∧ ∃ g c,w.heap.size ≤ g ∧ v_ = .slice (some ⟨g,0,none⟩) 4 c ∧ FB w_ g 5 [a0,a1,a2,a3]) ∨ (k_ = 5 ∧ ∃ g,w.heap.size ≤ g ∧ v_ = (pt g 0) ∧ FB w_ g 5 [a0,a1,a2,a3])) 5 v wx:=hv2
   rcases hv3 with ⟨h,_⟩ | ⟨_,g,hg,rfl,hB⟩
   ·cases h
   ·exact ⟨[(21,(pt g 0))],Instr.loadAt 81 ((pt g 0)),_,wx,one_slot hf hv1,by kernel_rfl,by kernel_rfl,run_loadFB (P:=Try.prog) wx 81 5 4 g 5 [a0,a1,a2,a3] (by kernel_rfl) (by kernel_rfl) hB,(show _ = _ from rfl),Kept.refl _ _,hm⟩)
 have fo3_g2_c7:fo3_g2C s w a0 a1 a2 a3 7:=cert_op (by
   intro j a_ wx hj hjs hcap hf hk_ hm
   exact ⟨_,eqGuard .neq 81 (.tmp 17) (.tmp 22) (.agg (List.toArray (fo3_v1 s))) (.agg #[.int .u8 a0,.int .u8 a1,.int .u8 a2,.int .u8 a3]) >>= fun _=>binOp .neq 81 (.agg (List.toArray (fo3_v1 s))) (.agg #[.int .u8 a0,.int .u8 a1,.int .u8 a2,.int .u8 a3]),_,wx,hf,by kernel_rfl,by kernel_rfl,run_neq4 wx (.tmp 17) (.tmp 22) _ _ _ _ _ _ _ _,(by rw [show (s.size:Int) - 4 - 3 = (s.size:Int) - 7 by omega]; rfl),Kept.refl _ _,hm⟩)
 have fo3_g2_R:∀ e_ ∈ (rZs [0,2] ++ [⟨3,oh2,[oE ((0:Int) ≤ 4 ∧ 4 ≤ ((s).size:Int))],[]⟩]:List RegE),fo3_g2C s w a0 a1 a2 a3 e_.i:=certs_reg (by kernel_rfl) _ (fun sz=>by kernel_rfl)
 refine holds_mixG (vs:=(fo3_g2v s a0 a1 a2 a3)) (ms:=(fo3_g2m)) (stg:=(fo3_g2t)) (J:=0) (sl':=[(0,sT s),(2,sT ⟨#[]⟩),(3,i6 0),(4,i6 (((s.size:Int) - 4) - 3)),(23,.bool (!(decide (([a0,a1,a2,a3]:List Int) = headI ((s.size:Int) - 7)))))]) (bk':=[]) (fun k_ v_ w_=>(k_ = 4 ∧ ∃ g c,w.heap.size ≤ g ∧ v_ = .slice (some ⟨g,0,none⟩) 4 c ∧ FB w_ g 5 [a0,a1,a2,a3]) ∨ (k_ = 5 ∧ ∃ g,w.heap.size ≤ g ∧ v_ = (pt g 0) ∧ FB w_ g 5 [a0,a1,a2,a3])) [0,2,3,4,23] (by kernel_rfl) (by kernel_rfl) (by kernel_rfl) (fun k v w_ w' h hk=>by
  rcases h with ⟨h1,g,c,h2,h3,h4⟩ | ⟨h1,g,h2,h3,h4⟩
  ·exact .inl ⟨h1,g,c,h2,h3,h4.kept hk (fun ⟨b,hb,_⟩=>by cases hb)⟩
  ·exact .inr ⟨h1,g,h2,h3,h4.kept hk (fun ⟨b,hb,_⟩=>by cases hb)⟩) (certs_mix fo3_g2_R [1,4,5,6,7] ⟨fo3_g2_c1,fo3_g2_c4,fo3_g2_c5,fo3_g2_c6,fo3_g2_c7,trivial⟩ (by kernel_rfl)) (by kernel_rfl) (by kernel_rfl) (by kernel_rfl) (fun z2 hz2=>?_)
 replace hz2:w.heap.size ≤ z2:=hz2
 have e40:(intsOf s).take 4 = [a0,a1,a2,a3]:=by rw [← hp4,intsOf_extract]; rfl
 refine hgE 13 [oh0,oh0,oh2,oh0] [0,2,3,5] [oE ((!(decide (([a0,a1,a2,a3]:List Int) = headI ((s.size:Int) - 7)))) = false) (by rw [decide_eq_true (by rw [← e40]; exact hh)]; rfl),n64 ((4 + (((s.size:Int) - 4) - 3)))] [] [.code [1,1,1,1,1,0,0],.code [1,1,1,1,1,0,1],.code [1,1,1,1,1,1]] ⟨[(0,sT s),(2,sT ⟨#[]⟩),(3,i6 0),(5,i6 (4 + (((s.size:Int) - 4) - 3)))],[],[],z2⟩ ?_
 have hNd:(Int.toNat (4 + (((s.size:Int) - 4) - 3))) = s.size - 3:=by omega
 have hcs:crcS (ByteArray.extract s 0 (Int.toNat (4 + (((s.size:Int) - 4) - 3)))) = sumI (bodyI s):=by
  unfold crcS sumI bodyI
  rw [intsOf_extract,hNd]
  rfl
 refine holds_quietG _ _ (by kernel_rfl) (by kernel_rfl) (by kernel_rfl) (fo3_q4 s w z2) ⟨⟨by omega,by omega⟩,(fun wx hm=>tail_any _ (by rw [← length_intsOf,intsOf_extract]; simp [length_intsOf]; omega) wx),⟨by omega,by omega⟩,trivial⟩ fun z4 hz4=>?_
 replace hz4:z2 ≤ z4:=hz4
 refine hgE 13 [oh0,oh0,oh0,oh2,oh0,oh0] [2,3] [oE ((!(ByteArray.toList (bytesI (tail3 (crcS (ByteArray.extract s 0 (Int.toNat (4 + (((s.size:Int) - 4) - 3))))))) == ByteArray.toList (ByteArray.extract s (Int.toNat (4 + (((s.size:Int) - 4) - 3))) (s).size))) = false) (by rw [show (ByteArray.toList (bytesI (tail3 (crcS (ByteArray.extract s 0 (Int.toNat (4 + (((s.size:Int) - 4) - 3))))))) == ByteArray.toList (ByteArray.extract s (Int.toNat (4 + (((s.size:Int) - 4) - 3))) (s).size)) = true from by rw [toList_dec,intsOf_bytesI (byts_tail3 (crcS_bd _)),hcs,intsOf_extract,hNd,List.take_of_length_le (by rw [length_intsOf]; omega)]; exact decide_eq_true hs2]; rfl),oE ((0:Int) ≤ 4 ∧ (4:Int) ≤ (4 + (((s.size:Int) - 4) - 3)) ∧ (4 + (((s.size:Int) - 4) - 3)) ≤ ((s).size:Int))] [] [.code [1,1,1,1,1,1,1]] ⟨[(2,sT (ByteArray.extract s 4 (Int.toNat (4 + (((s.size:Int) - 4) - 3))))),(3,i6 0)],[],[],z4⟩ ?_
 refine hrt [] [sT (ByteArray.extract s 4 (Int.toNat (4 + (((s.size:Int) - 4) - 3)))),i6 0] [] ?_
 intro wx hm
 exact ⟨by rw [show openT s = ByteArray.extract s (Int.toNat 4) (Int.toNat (4 + (((s.size:Int) - 4) - 3))) by rw [hNd]; rfl]; rfl,hm.kept⟩
theorem open_any (s:ByteArray) (hs:(s.size:Int) ≤ 9223372036854775807) (w:World):Calls Try.prog 26 #[.string s] w (RetK (.tuple #[.string (bif openOk s then openT s else noText),.int .i64 (bif openOk s then 0 else 40)]) w):=by
 cases ho:openOk s with
 | true=>
  simp only [openOk,Bool.and_eq_true,decide_eq_true_eq] at ho
  exact open_ok s ho.1.1.1 ho.1.1.2 ho.1.2 ho.2 w
 | false=>
  by_cases h1:s.size < 7 ∨ 807 < s.size
  ·exact open_size s hs h1 w
  ·by_cases h2:(intsOf s).take 4 = headI ((s.size:Int) - 7)
   ·by_cases h3:tail3 (sumI (bodyI s)) = (intsOf s).drop (s.size - 3)
    ·have:openOk s = true:=by
      simp only [openOk,Bool.and_eq_true,decide_eq_true_eq]
      exact ⟨⟨⟨by omega,by omega⟩,h2⟩,h3⟩
     rw [ho] at this
     cases this
    ·exact open_sum s (by omega) (by omega) h2 h3 w
   ·exact open_head s (by omega) (by omega) h2 w
end Go.Proofs.Ytkffgdfbdmgncaa
