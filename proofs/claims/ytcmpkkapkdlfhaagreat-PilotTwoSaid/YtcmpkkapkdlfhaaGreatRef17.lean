import Derived.Test.YtcmpkkapkdlfhaaGreatEngL
import Derived.Test.YtcmpkkapkdlfhaaGreatProg
namespace Go.Proofs.YtcmpkkapkdlfhaaGreat
open Go.RowKit
set_option maxHeartbeats 4000000
set_option maxRecDepth 100000
theorem r8tag(a b:Int)(ha:0<=a∧a<=16777215)(hb:0<=b∧b<=16777215)(w:World) :
  Calls Tryz.prog 99 #[.agg #[i6 a,i6 b]] w (RetK (.bool true) w):=by
 refine cH (S:=(fun _=>False)) (n:=21) Tryz.func99 (MemOk.none w _) ?_
 refine hgS 30 (dz 21 0x3101010910310101091031010009100010008000) [2] (rE 4 (dT ((a:Int)>=0))++rE 4 (dT ((a:Int)<=16777215))++rE 4 (dT ((b:Int)>=0))) [(w.heap.size,0,1),(w.heap.size,0,1),(w.heap.size,1,1),(w.heap.size,1,1)] [.code [1,1]] [⟨w.heap.size,57,true,[i6 a,i6 b]⟩] [] (w.heap.size+1) ?_
 refine hrt [] [.bool (decide ((b:Int)<=16777215))] [] ?_
 intro wx hm
 exact⟨ret_bool (decide_eq_true (by omega)),hm.kept⟩
def rrc_v1(F:Int)(a:Int)(b:Int)(B:ByteArray):List Value:=[.bool true,i6 F,i6 a,i6 b,sT B,.bool false,i6 0,i6 0,i6 0,sT ⟨#[]⟩]
theorem r8right_c(F a b:Int)(B:ByteArray)(hF:0<=F∧F<=16777215)(ha:0<=a∧a<=16777215)(hb:0<=b∧b<=16777215)(hB:B.size=16)(w:World) :
  Calls Tryz.prog 63 #[.agg #[.bool true,i6 F,i6 a,i6 b,sT B,.bool false,i6 0,i6 0,i6 0,sT ⟨#[]⟩]] w (RetK (.bool true) w):=by
 refine cH (S:=(fun _=>False)) (n:=97) Tryz.func63 (MemOk.none w _) ?_
 refine hgS 12 (dz 4 539000832) [1,2,6] [] [(w.heap.size,2,2)] [.ops [1,0] [2,3],.code [1,1]] [⟨w.heap.size,61,true,(rrc_v1 F a b B)⟩] [] (w.heap.size+1) ?_
 refine hcq (.bool true) _ _ (some 7) [] tI rfl (fun wx hm=>r8tag a b (by omega) (by omega) wx) fun z2 hz2=>?_
 refine hgS 9 (dz 3 33949696) [1,2,3,9] [] [(w.heap.size,6,2)] [.ops [1,1,0] [2,3],.code [1,1,1]] [⟨w.heap.size,61,true,(rrc_v1 F a b B)⟩] [] z2 ?_
 refine hcq (.bool true) _ _ (some 10) [] tI rfl (fun wx hm=>r8tag 0 0 (by omega) (by omega) wx) fun z4 hz4=>?_
 refine hgS 109 (dz 87 0x31010809103101070911031010609110001090800010508004400000000000000000000001000800311010409100100080040010808004001080800400101080040010108004000000) [2] (rE 7 fF++rE 4 (dF ((F:Int)<0))++rE 4 (dF ((F:Int)>16777215))++[fF,fF,fF,fF,fF,tT,tT,tT,tT,tT]++rE 4 (oE (((B.size:Int)!=16)=false) (by rw[hB]; rfl))++rE 9 fF++[oE (((B.size:Int)!=16)=false) (by rw[hB]; rfl),fF,oE (((B.size:Int)!=16)=false) (by rw[hB]; rfl),fF,fF]++rE 5 (oE ((ByteArray.toList ⟨#[]⟩==ByteArray.toList ⟨#[]⟩)=true) (by simp))++rE 9 tT) [(w.heap.size,1,1),(w.heap.size,1,1),(w.heap.size,8,1),(w.heap.size,8,1),(w.heap.size,0,1),(w.heap.size,4,1),(w.heap.size,0,1),(w.heap.size,5,1),(w.heap.size,9,1),(w.heap.size,6,1),(w.heap.size,7,1),(w.heap.size,8,1)] [.code [1,1,1,1,1,1,1]] [⟨w.heap.size,61,true,(rrc_v1 F a b B)⟩] [] z4 ?_
 refine hrt [] [.bool true] [] ?_
 intro wx hm
 exact⟨rfl,hm.kept⟩
def rro_v1(M:Int)(F:Int)(a:Int)(b:Int)(ie:Int)(is:Int)(B:ByteArray)(T:ByteArray):List Value:=[.bool true,i6 F,i6 a,i6 b,sT B,.bool true,i6 ie,i6 is,i6 M,sT T]
theorem r8right_o(F a b ie is M:Int)(B T:ByteArray)(hF:0<=F∧F<=16777215)(ha:0<=a∧a<=16777215)(hb:0<=b∧b<=16777215)(hB:B.size=16)(hie:0<=ie∧ie<=16777215)(his:0<=is∧is<=16777215)(hM:1<=M∧M<=63)(hT:T.size=16)(w:World) :
  Calls Tryz.prog 63 #[.agg #[.bool true,i6 F,i6 a,i6 b,sT B,.bool true,i6 ie,i6 is,i6 M,sT T]] w (RetK (.bool true) w):=by
 refine cH (S:=(fun _=>False)) (n:=97) Tryz.func63 (MemOk.none w _) ?_
 refine hgS 12 (dz 4 539000832) [1,2,6] [] [(w.heap.size,2,2)] [.ops [1,0] [2,3],.code [1,1]] [⟨w.heap.size,61,true,(rro_v1 M F a b ie is B T)⟩] [] (w.heap.size+1) ?_
 refine hcq (.bool true) _ _ (some 7) [] tI rfl (fun wx hm=>r8tag a b (by omega) (by omega) wx) fun z2 hz2=>?_
 refine hgS 9 (dz 3 33949696) [1,2,3,9] [] [(w.heap.size,6,2)] [.ops [1,1,0] [2,3],.code [1,1,1]] [⟨w.heap.size,61,true,(rro_v1 M F a b ie is B T)⟩] [] z2 ?_
 refine hcq (.bool true) _ _ (some 10) [] tI rfl (fun wx hm=>r8tag ie is (by omega) (by omega) wx) fun z4 hz4=>?_
 refine hgS 92 (dz 71 0x1090801010508004400000000000000000000001000800311010409100100080040010808004001080800400101080040010108004000000) [1,2] (rE 7 fF++rE 4 (dF ((F:Int)<0))++rE 4 (dF ((F:Int)>16777215))++rE 4 (dF ((M:Int)<0))++[dF ((M:Int)>63),tT,tT,tT,tT,tT]++rE 4 (oE (((B.size:Int)!=16)=false) (by rw[hB]; rfl))++rE 9 fF++[oE (((B.size:Int)!=16)=false) (by rw[hB]; rfl),fF,oE (((B.size:Int)!=16)=false) (by rw[hB]; rfl),fF,tT]) [(w.heap.size,1,1),(w.heap.size,1,1),(w.heap.size,8,1),(w.heap.size,8,1),(w.heap.size,0,1),(w.heap.size,4,1),(w.heap.size,0,1),(w.heap.size,5,1),(w.heap.size,9,1)] [.code [1,1,1,1,1,0,1,0,1],.code [1,1,1,1,1,1]] [⟨w.heap.size,61,true,(rro_v1 M F a b ie is B T)⟩] [] z4 ?_
 refine hrt [] [.bool ((T.size:Int)==16)] [] ?_
 intro wx hm
 exact⟨ret_bool (by rw[hT]; rfl),hm.kept⟩
theorem r9num(a:Int)(h:1<=a∧a<=16777215)(w:World) :
  Calls Tryz.prog 100 #[i6 a] w (RetK (.bool true) w):=by
 refine cH (S:=(fun _=>False)) (n:=9) Tryz.func100 (MemOk.none w _) ?_
 refine hgS 17 (dz 8 51445760) [2] (rE 3 (dT ((a:Int)>=1))) [] [.code [1,1]] [] [] w.heap.size ?_
 refine hrt [] [.bool (decide ((a:Int)<=16777215))] [] ?_
 intro wx hm
 exact⟨ret_bool (decide_eq_true (by omega)),hm.kept⟩
theorem r9num0  (w:World) :
  Calls Tryz.prog 100 #[i6 0] w (RetK (.bool false) w):=by
 refine cH (S:=(fun _=>False)) (n:=9) Tryz.func100 (MemOk.none w _) ?_
 refine hgS 17 (dz 8 67108864) [2] [fF,fF,fF] [] [.code [1,1]] [] [] w.heap.size ?_
 refine hrt [] [.bool false] [] ?_
 intro wx hm
 exact⟨rfl,hm.kept⟩
def qr1_v1(S:Int)(E:Int):List Value:=[i6 1,i6 S,i6 E]++rp 5 (i6 0)++[sT ⟨#[]⟩]
def qr1_v2(S:Int):List Value:=[i6 1,i6 S]++rp 6 (i6 0)++[sT ⟨#[]⟩]
theorem r9right_1(S E:Int)(hS:0<=S∧S<=7)(hE:1<=E∧E<=16777215)(w:World) :
  Calls Tryz.prog 64 #[.agg #[i6 1,i6 S,i6 E,i6 0,i6 0,i6 0,i6 0,i6 0,sT ⟨#[]⟩]] w (RetK (.bool true) w):=by
 refine cH (S:=(fun _=>False)) (n:=205) Tryz.func64 (MemOk.none w _) ?_
 refine hgS 36 (dz 20 0x1020800900180001010800100080040010108000010108000) [1,2,3,20] (rE 4 (dF ((S:Int)<0))++[dF ((S:Int)>=8)]) [(w.heap.size,1,1),(w.heap.size,1,1),(w.heap.size,0,1),(w.heap.size,1,1),(w.heap.size+1,0,9),(w.heap.size,2,1)] [.ops [1,1,1,0] [2,3],.code [1,1,1,1]] [⟨w.heap.size,59,true,(qr1_v1 S E)⟩,⟨w.heap.size+1,59,true,(qr1_v2 S)⟩] [] (w.heap.size+2) ?_
 refine hcq (.bool true) 100 [i6 E] (some 21) [] tI rfl (fun wx hm=>r9num _ (by omega) wx) fun z2 hz2=>?_
 refine hgS 9 (dz 3 16975872) [1,2,3,4,23] [] [(w.heap.size,3,1)] [.ops [1,1,1,1,0] [2,3],.code [1,1,1,1,1]] [⟨w.heap.size,59,true,(qr1_v1 S E)⟩,⟨w.heap.size+1,59,true,(qr1_v2 S)⟩] [] z2 ?_
 refine hcq (.bool false) _ _ (some 24) [] tI rfl (fun wx hm=>r9num0 wx) fun z4 hz4=>?_
 refine hgS 38 (dz 18 0x350900090900190001021800102080110001000800) [2] [tT,tT,tT,tT,tT,vV,tT] [(w.heap.size,0,1),(w.heap.size,2,1),(w.heap.size+1,2,1),(w.heap.size+1,0,9),(w.heap.size,0,9)] [.code [1,1,1,1,1,0,1,0,1,0,1,1],.blk 0,.code [1,1,1,1,1,1]] [⟨w.heap.size,59,true,(qr1_v1 S E)⟩,⟨w.heap.size+1,59,true,(qr1_v1 S E)⟩] [] z4 ?_
 refine hrt [] [.bool (((S:Int)==S)&&(((E:Int)==E)&&true))] [] ?_
 intro wx hm
 exact⟨ret_bool (by simp),hm.kept⟩
def qr2_v1(S:Int)(E:Int):List Value:=((qr1_v1 S E).set 0 (i6 2))
def qr2_v2(S:Int):List Value:=((qr1_v2 S).set 0 (i6 2))
theorem r9right_2(S E:Int)(hS:0<=S∧S<=7)(hE:1<=E∧E<=16777215)(w:World) :
  Calls Tryz.prog 64 #[.agg #[i6 2,i6 S,i6 E,i6 0,i6 0,i6 0,i6 0,i6 0,sT ⟨#[]⟩]] w (RetK (.bool true) w):=by
 refine cH (S:=(fun _=>False)) (n:=205) Tryz.func64 (MemOk.none w _) ?_
 refine hgS 36 (dz 20 0x1020800900180001010800100080040010108000010108000) [1,2,3,20] (rE 4 (dF ((S:Int)<0))++[dF ((S:Int)>=8)]) [(w.heap.size,1,1),(w.heap.size,1,1),(w.heap.size,0,1),(w.heap.size,1,1),(w.heap.size+1,0,9),(w.heap.size,2,1)] [.ops [1,1,1,0] [2,3],.code [1,1,1,1]] [⟨w.heap.size,59,true,(qr2_v1 S E)⟩,⟨w.heap.size+1,59,true,(qr2_v2 S)⟩] [] (w.heap.size+2) ?_
 refine hcq (.bool true) 100 [i6 E] (some 21) [] tI rfl (fun wx hm=>r9num _ (by omega) wx) fun z2 hz2=>?_
 refine hgS 9 (dz 3 16975872) [1,2,3,4,23] [] [(w.heap.size,3,1)] [.ops [1,1,1,1,0] [2,3],.code [1,1,1,1,1]] [⟨w.heap.size,59,true,(qr2_v1 S E)⟩,⟨w.heap.size+1,59,true,(qr2_v2 S)⟩] [] z2 ?_
 refine hcq (.bool false) _ _ (some 24) [] tI rfl (fun wx hm=>r9num0 wx) fun z4 hz4=>?_
 refine hgS 44 (dz 21 0x350900090900190001021800102080110000001000800) [2] [fF,tT,tT,tT,tT,tT,vV,tT] [(w.heap.size,0,1),(w.heap.size,2,1),(w.heap.size+1,2,1),(w.heap.size+1,0,9),(w.heap.size,0,9)] [.code [1,1,1,1,1,0,1,0,1,0,1,1],.blk 0,.code [1,1,1,1,1,1]] [⟨w.heap.size,59,true,(qr2_v1 S E)⟩,⟨w.heap.size+1,59,true,(qr2_v1 S E)⟩] [] z4 ?_
 refine hrt [] [.bool (((S:Int)==S)&&(((E:Int)==E)&&true))] [] ?_
 intro wx hm
 exact⟨ret_bool (by simp),hm.kept⟩
def qr3_v1(S:Int)(E:Int):List Value:=((qr1_v1 S E).set 0 (i6 3))
def qr3_v2(S:Int):List Value:=((qr1_v2 S).set 0 (i6 3))
theorem r9right_3(S E:Int)(hS:0<=S∧S<=7)(hE:1<=E∧E<=16777215)(w:World) :
  Calls Tryz.prog 64 #[.agg #[i6 3,i6 S,i6 E,i6 0,i6 0,i6 0,i6 0,i6 0,sT ⟨#[]⟩]] w (RetK (.bool true) w):=by
 refine cH (S:=(fun _=>False)) (n:=205) Tryz.func64 (MemOk.none w _) ?_
 refine hgS 36 (dz 20 0x1020800900180001010800100080040010108000010108000) [1,2,3,20] (rE 4 (dF ((S:Int)<0))++[dF ((S:Int)>=8)]) [(w.heap.size,1,1),(w.heap.size,1,1),(w.heap.size,0,1),(w.heap.size,1,1),(w.heap.size+1,0,9),(w.heap.size,2,1)] [.ops [1,1,1,0] [2,3],.code [1,1,1,1]] [⟨w.heap.size,59,true,(qr3_v1 S E)⟩,⟨w.heap.size+1,59,true,(qr3_v2 S)⟩] [] (w.heap.size+2) ?_
 refine hcq (.bool true) 100 [i6 E] (some 21) [] tI rfl (fun wx hm=>r9num _ (by omega) wx) fun z2 hz2=>?_
 refine hgS 9 (dz 3 16975872) [1,2,3,4,23] [] [(w.heap.size,3,1)] [.ops [1,1,1,1,0] [2,3],.code [1,1,1,1,1]] [⟨w.heap.size,59,true,(qr3_v1 S E)⟩,⟨w.heap.size+1,59,true,(qr3_v2 S)⟩] [] z2 ?_
 refine hcq (.bool false) _ _ (some 24) [] tI rfl (fun wx hm=>r9num0 wx) fun z4 hz4=>?_
 refine hgS 50 (dz 24 0x350900090900190001021800102080110000000001000800) [2] [fF,fF,tT,tT,tT,tT,tT,vV,tT] [(w.heap.size,0,1),(w.heap.size,2,1),(w.heap.size+1,2,1),(w.heap.size+1,0,9),(w.heap.size,0,9)] [.code [1,1,1,1,1,0,1,0,1,0,1,1],.blk 0,.code [1,1,1,1,1,1]] [⟨w.heap.size,59,true,(qr3_v1 S E)⟩,⟨w.heap.size+1,59,true,(qr3_v1 S E)⟩] [] z4 ?_
 refine hrt [] [.bool (((S:Int)==S)&&(((E:Int)==E)&&true))] [] ?_
 intro wx hm
 exact⟨ret_bool (by simp),hm.kept⟩
def qr4_v1(S:Int)(E:Int)(Q:Int)(M:Int)(T:ByteArray):List Value:=[i6 4,i6 S,i6 E,i6 Q,i6 M,i6 0,i6 0,i6 0,sT T]
def qr4_v2(S:Int):List Value:=((qr1_v2 S).set 0 (i6 4))
theorem r9right_4(S E Q M:Int)(T:ByteArray)(hS:0<=S∧S<=7)(hE:1<=E∧E<=16777215)(hQ:1<=Q∧Q<=16777215)(hM:1<=M∧M<=63)(hT:T.size=16)(w:World) :
  Calls Tryz.prog 64 #[.agg #[i6 4,i6 S,i6 E,i6 Q,i6 M,i6 0,i6 0,i6 0,sT T]] w (RetK (.bool true) w):=by
 refine cH (S:=(fun _=>False)) (n:=205) Tryz.func64 (MemOk.none w _) ?_
 refine hgS 36 (dz 20 0x1020800900180001010800100080040010108000010108000) [1,2,3,20] (rE 4 (dF ((S:Int)<0))++[dF ((S:Int)>=8)]) [(w.heap.size,1,1),(w.heap.size,1,1),(w.heap.size,0,1),(w.heap.size,1,1),(w.heap.size+1,0,9),(w.heap.size,2,1)] [.ops [1,1,1,0] [2,3],.code [1,1,1,1]] [⟨w.heap.size,59,true,(qr4_v1 S E Q M T)⟩,⟨w.heap.size+1,59,true,(qr4_v2 S)⟩] [] (w.heap.size+2) ?_
 refine hcq (.bool true) 100 [i6 E] (some 21) [] tI rfl (fun wx hm=>r9num _ (by omega) wx) fun z2 hz2=>?_
 refine hgS 9 (dz 3 16975872) [1,2,3,4,23] [] [(w.heap.size,3,1)] [.ops [1,1,1,1,0] [2,3],.code [1,1,1,1,1]] [⟨w.heap.size,59,true,(qr4_v1 S E Q M T)⟩,⟨w.heap.size+1,59,true,(qr4_v2 S)⟩] [] z2 ?_
 refine hcq (.bool true) 100 [i6 Q] (some 24) [] tI rfl (fun wx hm=>r9num _ (by omega) wx) fun z4 hz4=>?_
 refine hgS 99 (dz 60 0x350900090900190311010809103101040910310104091031000108180010808001041800104080010318001030800102180010208010000000000000001000800) [2] ([fF,fF,fF,fF]++rE 7 tT++rE 4 (dT ((M:Int)>=1))++rE 5 (dT ((M:Int)<=63))++rE 3 (oE (((T.size:Int)==16)=true) (by rw[hT]; rfl))++[vV,oE (((T.size:Int)==16)=true) (by rw[hT]; rfl)]) [(w.heap.size,0,1),(w.heap.size,2,1),(w.heap.size+1,2,1),(w.heap.size,3,1),(w.heap.size+1,3,1),(w.heap.size,4,1),(w.heap.size+1,4,1),(w.heap.size,8,1),(w.heap.size+1,8,1),(w.heap.size,4,1),(w.heap.size,4,1),(w.heap.size,8,1),(w.heap.size+1,0,9),(w.heap.size,0,9)] [.code [1,1,1,1,1,0,1,0,1,1,1,0,1,1,1,1,1],.blk 0,.code [1,1,1,1,1,1]] [⟨w.heap.size,59,true,(qr4_v1 S E Q M T)⟩,⟨w.heap.size+1,59,true,(qr4_v1 S E Q M T)⟩] [] z4 ?_
 refine hrt [] [.bool (((S:Int)==S)&&(((E:Int)==E)&&(((Q:Int)==Q)&&(((M:Int)==M)&&(((T:ByteArray)==T)&&true)))))] [] ?_
 intro wx hm
 exact⟨ret_bool (by simp[bytes_beq]),hm.kept⟩
def qr5_v1(S:Int)(E:Int)(Q:Int):List Value:=(((qr1_v1 S E).set 0 (i6 5)).set 3 (i6 Q))
def qr5_v2(S:Int):List Value:=((qr1_v2 S).set 0 (i6 5))
theorem r9right_5(S E Q:Int)(hS:0<=S∧S<=7)(hE:1<=E∧E<=16777215)(hQ:1<=Q∧Q<=16777215)(w:World) :
  Calls Tryz.prog 64 #[.agg #[i6 5,i6 S,i6 E,i6 Q,i6 0,i6 0,i6 0,i6 0,sT ⟨#[]⟩]] w (RetK (.bool true) w):=by
 refine cH (S:=(fun _=>False)) (n:=205) Tryz.func64 (MemOk.none w _) ?_
 refine hgS 36 (dz 20 0x1020800900180001010800100080040010108000010108000) [1,2,3,20] (rE 4 (dF ((S:Int)<0))++[dF ((S:Int)>=8)]) [(w.heap.size,1,1),(w.heap.size,1,1),(w.heap.size,0,1),(w.heap.size,1,1),(w.heap.size+1,0,9),(w.heap.size,2,1)] [.ops [1,1,1,0] [2,3],.code [1,1,1,1]] [⟨w.heap.size,59,true,(qr5_v1 S E Q)⟩,⟨w.heap.size+1,59,true,(qr5_v2 S)⟩] [] (w.heap.size+2) ?_
 refine hcq (.bool true) 100 [i6 E] (some 21) [] tI rfl (fun wx hm=>r9num _ (by omega) wx) fun z2 hz2=>?_
 refine hgS 9 (dz 3 16975872) [1,2,3,4,23] [] [(w.heap.size,3,1)] [.ops [1,1,1,1,0] [2,3],.code [1,1,1,1,1]] [⟨w.heap.size,59,true,(qr5_v1 S E Q)⟩,⟨w.heap.size+1,59,true,(qr5_v2 S)⟩] [] z2 ?_
 refine hcq (.bool true) 100 [i6 Q] (some 24) [] tI rfl (fun wx hm=>r9num _ (by omega) wx) fun z4 hz4=>?_
 refine hgS 75 (dz 39 0x3509000909001903100010318001030800102180010208010000000000000000001000800) [2] [fF,fF,fF,fF,fF,tT,tT,tT,tT,tT,tT,vV,tT] [(w.heap.size,0,1),(w.heap.size,2,1),(w.heap.size+1,2,1),(w.heap.size,3,1),(w.heap.size+1,3,1),(w.heap.size+1,0,9),(w.heap.size,0,9)] [.code [1,1,1,1,1,0,1,0,1,1,1,1,1,0,1,1,1],.blk 0,.code [1,1,1,1,1,1]] [⟨w.heap.size,59,true,(qr5_v1 S E Q)⟩,⟨w.heap.size+1,59,true,(qr5_v1 S E Q)⟩] [] z4 ?_
 refine hrt [] [.bool (((S:Int)==S)&&(((E:Int)==E)&&(((Q:Int)==Q)&&true)))] [] ?_
 intro wx hm
 exact⟨ret_bool (by simp),hm.kept⟩
def qr8_v1(S:Int):List Value:=((qr1_v2 S).set 0 (i6 8))
@[simp] def qr8_b1(S:Int)(w:World):List Bk:=[⟨w.heap.size,59,true,(qr8_v1 S)⟩,⟨w.heap.size+1,59,true,(qr8_v1 S)⟩]
theorem r9right_8(S:Int)(hS:0<=S∧S<=7)(w:World) :
  Calls Tryz.prog 64 #[.agg #[i6 8,i6 S,i6 0,i6 0,i6 0,i6 0,i6 0,i6 0,sT ⟨#[]⟩]] w (RetK (.bool true) w):=by
 refine cH (S:=(fun _=>False)) (n:=205) Tryz.func64 (MemOk.none w _) ?_
 refine hgS 36 (dz 20 0x1020800900180001010800100080040010108000010108000) [1,2,3,20] (rE 4 (dF ((S:Int)<0))++[dF ((S:Int)>=8)]) [(w.heap.size,1,1),(w.heap.size,1,1),(w.heap.size,0,1),(w.heap.size,1,1),(w.heap.size+1,0,9),(w.heap.size,2,1)] [.ops [1,1,1,0] [2,3],.code [1,1,1,1]] (qr8_b1 S w) [] (w.heap.size+2) ?_
 refine hcq (.bool false) _ _ (some 21) [] tI rfl (fun wx hm=>r9num0 wx) fun z2 hz2=>?_
 refine hgS 9 (dz 3 16975872) [1,2,3,4,23] [] [(w.heap.size,3,1)] [.ops [1,1,1,1,0] [2,3],.code [1,1,1,1,1]] (qr8_b1 S w) [] z2 ?_
 refine hcq (.bool false) _ _ (some 24) [] tI rfl (fun wx hm=>r9num0 wx) fun z4 hz4=>?_
 refine hgS 73 (dz 34 0x209000809001810000000000000000000000000001000800) [2] (rE 8 fF++[tT,vV]) [(w.heap.size,0,1),(w.heap.size+1,0,9),(w.heap.size,0,9)] [.code [1,1,1,1,1,0,1,0,1,1,1,1,1,1,1,1,1,1,1,0,1],.blk 0,.code [1,1,1,1,1,1]] (qr8_b1 S w) [] z4 ?_
 refine hrt [] [.bool (((S:Int)==S)&&true)] [] ?_
 intro wx hm
 exact⟨ret_bool (by simp),hm.kept⟩
theorem r9before(a b c d:Int)(h:a<c)(w:World) :
  Calls Tryz.prog 66 #[.agg #[i6 a,i6 b],.agg #[i6 c,i6 d]] w (RetK (.bool true) w):=by
 refine cH (S:=(fun _=>False)) (n:=24) Tryz.func66 (MemOk.none w _) ?_
 refine hgS 32 (dz 23 0x31000001111110001001800100080000) [4] (rE 8 (dT ((a:Int)<c))) [(w.heap.size,0,1),(w.heap.size+1,0,1)] [.code [1,1]] [⟨w.heap.size,57,true,[i6 a,i6 b]⟩,⟨w.heap.size+1,57,true,[i6 c,i6 d]⟩] [] (w.heap.size+2) ?_
 refine hrt [] [.bool true] [] ?_
 intro wx hm
 exact⟨rfl,hm.kept⟩
def rdn_v1(M:Int)(F:Int)(a:Int)(b:Int)(ie:Int)(is:Int)(B:ByteArray)(T:ByteArray):List Value:=(rro_v1 M F a b ie is B T)
def rdn_v2(F:Int)(ie:Int)(is:Int)(T:ByteArray):List Value:=[.bool true,i6 F,i6 ie,i6 is,sT T,.bool false,i6 0,i6 0,i6 0,sT ⟨#[]⟩]
theorem r9done(F a b ie is M:Int)(B T:ByteArray)(w:World) :
  Calls Tryz.prog 68 #[.agg #[.bool true,i6 F,i6 a,i6 b,sT B,.bool true,i6 ie,i6 is,i6 M,sT T]] w (RetK (.agg #[.bool true,i6 F,i6 ie,i6 is,sT T,.bool false,i6 0,i6 0,i6 0,sT ⟨#[]⟩]) w):=by
 refine cH (S:=(fun _=>False)) (n:=10) Tryz.func68 (MemOk.none w _) ?_
 refine hgS 19 (dz 10 0xa0018001090800206080010108000) [2] [] [(w.heap.size,1,1),(w.heap.size,6,2),(w.heap.size,9,1),(w.heap.size+1,0,10)] [.code [1,1]] [⟨w.heap.size,61,true,(rdn_v1 M F a b ie is B T)⟩,⟨w.heap.size+1,61,true,(rdn_v2 F ie is T)⟩] [] (w.heap.size+2) ?_
 refine hrt [[⟨false,1,0,10⟩]] [.agg (List.toArray (rdn_v2 F ie is T))] [(w.heap.size+1,0,10)] ?_
 intro wx hm
 exact⟨rfl,hm.kept⟩
def rcl_v1(F:Int)(a:Int)(b:Int)(B:ByteArray):List Value:=(rrc_v1 F a b B)
theorem r9closed(F a b:Int)(B:ByteArray)(w:World) :
  Calls Tryz.prog 67 #[.agg #[.bool true,i6 F,i6 a,i6 b,sT B,.bool false,i6 0,i6 0,i6 0,sT ⟨#[]⟩]] w (RetK (.agg #[.bool true,i6 F,i6 a,i6 b,sT B,.bool false,i6 0,i6 0,i6 0,sT ⟨#[]⟩]) w):=by
 refine cH (S:=(fun _=>False)) (n:=10) Tryz.func67 (MemOk.none w _) ?_
 refine hgS 19 (dz 10 0xa0018001040800202080010108000) [2] [] [(w.heap.size,1,1),(w.heap.size,2,2),(w.heap.size,4,1),(w.heap.size+1,0,10)] [.code [1,1]] [⟨w.heap.size,61,true,(rcl_v1 F a b B)⟩,⟨w.heap.size+1,61,true,(rcl_v1 F a b B)⟩] [] (w.heap.size+2) ?_
 refine hrt [[⟨false,1,0,10⟩]] [.agg (List.toArray (rcl_v1 F a b B))] [(w.heap.size+1,0,10)] ?_
 intro wx hm
 exact⟨rfl,hm.kept⟩
section
variable (F a b:Int)(B:ByteArray)(w:World)(k:Int)
def rsyc_v1:List Value:=(rrc_v1 F a b B)
def rsyc_v2:List Value:=[i6 k,i6 F,i6 0,.bool false,i6 0,i6 0,i6 0,sT ⟨#[]⟩,.bool false,i6 0,i6 0,i6 0,sT ⟨#[]⟩]
def rsyc_v3:List Value:=[.bool false]++rp 3 (i6 0)++[sT ⟨#[]⟩,.bool false]++rp 3 (i6 0)++[sT ⟨#[]⟩]
def rsyc_v4:List Value:=rp 3 (i6 0)++[.bool false]++rp 3 (i6 0)++[sT ⟨#[]⟩,.bool false]++rp 3 (i6 0)++[sT ⟨#[]⟩]
@[simp] def rsyc_b1:List Bk:=[⟨w.heap.size,61,true,(rsyc_v1 F a b B)⟩,⟨w.heap.size+1,61,true,(rsyc_v3)⟩,⟨w.heap.size+2,63,true,(rsyc_v4)⟩]
@[simp] def rsyc_b2:List Bk:=[⟨w.heap.size,61,true,(rsyc_v1 F a b B)⟩,⟨w.heap.size+1,61,true,(rsyc_v1 F a b B)⟩,⟨w.heap.size+2,63,true,(rsyc_v4)⟩]
@[simp] def rsyc_b3:List Bk:=[⟨w.heap.size,61,true,(rsyc_v1 F a b B)⟩,⟨w.heap.size+1,61,true,(rsyc_v1 F a b B)⟩,⟨w.heap.size+2,63,true,(rsyc_v2 F k)⟩]
def rsyc_g2s:List (Nat×Value):=[(1,i6 k),(2,(pt w.heap.size 0)),(4,(pt (w.heap.size+1) 0)),(5,(pt (w.heap.size+2) 0))]
def rsyc_g2v:List (Option Value):=[some (.agg (List.toArray (rsyc_v1 F a b B))),some (i6 k),some ((pt w.heap.size 1)),some (i6 F),some (.agg (List.toArray (rsyc_v2 F k))),some (.tuple #[]),some (.tuple #[])]
def rsyc_g2m:List (List Bk):=[(rsyc_b1 F a b B w),(rsyc_b2 F a b B w),(rsyc_b3 F a b B w k)]
def rsyc_g2t:List (Option Nat):=[none,none,none,none,none,some 0,some 1]
theorem rsyc_g2_5:∀sz,opG Tryz.prog (opsOf (getCode (bodyOf Tryz.f65) [1,0])) ⟨slG (opsOf (getCode (bodyOf Tryz.f65) [1,0])) (rsyc_g2v F a b B w k) (slI (opsOf (getCode (bodyOf Tryz.f65) [1,0])) (rsyc_g2s w k) 5) (needsOf (opsOf (getCode (bodyOf Tryz.f65) [1,0])) 5),(rsyc_b1 F a b B w),[],sz⟩ 5 (oA 1 0 10)=some ([],dupR [(w.heap.size+1,0,10)],undef,(rsyc_b2 F a b B w),sz):=fun sz=>by kernel_rfl
theorem rsyc_g2_6:∀sz,opG Tryz.prog (opsOf (getCode (bodyOf Tryz.f65) [1,0])) ⟨slG (opsOf (getCode (bodyOf Tryz.f65) [1,0])) (rsyc_g2v F a b B w k) (slI (opsOf (getCode (bodyOf Tryz.f65) [1,0])) (rsyc_g2s w k) 6) (needsOf (opsOf (getCode (bodyOf Tryz.f65) [1,0])) 6),(rsyc_b2 F a b B w),[],sz⟩ 6 (oA 2 0 13)=some ([],dupR [(w.heap.size+2,0,13)],undef,(rsyc_b3 F a b B w k),sz):=fun sz=>by kernel_rfl
def rsyc_g2C(i_:Nat):Prop:=CertG (wpOp Tryz.prog (opsOf (getCode (bodyOf Tryz.f65) [1,0])) (sem Tryz.prog (bodyOf Tryz.f65) (bodyPost Tryz.prog Tryz.f65 (RetK (.tuple #[.agg (List.toArray (rsyc_v1 F a b B)),.agg (List.toArray (rsyc_v2 F k))]) w)) [.code [1,1]])) [] 11 (opsOf (getCode (bodyOf Tryz.f65) [1,0])) (slI (opsOf (getCode (bodyOf Tryz.f65) [1,0])) (rsyc_g2s w k) i_) (rsyc_g2t) 2 (MG w (fun _=>False) (rsyc_g2m F a b B w k) [] (w.heap.size+3)) (Turned (rsyc_b1 F a b B w)) (PvG (rsyc_g2v F a b B w k) (fun _ _ _=>False)) i_
end
theorem r9say_c(F a b k:Int)(B:ByteArray)(w:World) :
  Calls Tryz.prog 65 #[.agg #[.bool true,i6 F,i6 a,i6 b,sT B,.bool false,i6 0,i6 0,i6 0,sT ⟨#[]⟩],i6 k] w (RetK (.tuple #[.agg #[.bool true,i6 F,i6 a,i6 b,sT B,.bool false,i6 0,i6 0,i6 0,sT ⟨#[]⟩],.agg #[i6 k,i6 F,i6 0,.bool false,i6 0,i6 0,i6 0,sT ⟨#[]⟩,.bool false,i6 0,i6 0,i6 0,sT ⟨#[]⟩]]) w):=by
 refine cH (S:=(fun _=>False)) (n:=11) Tryz.func65 (MemOk.none w _) ?_
 refine hgE 10 (dz 3 0) [1,2,4,5] [] [] [.code [1,0],.code [1,1]] ⟨[(1,i6 k),(2,(pt w.heap.size 0)),(4,(pt (w.heap.size+1) 0)),(5,(pt (w.heap.size+2) 0))],(rsyc_b1 F a b B w),[],w.heap.size+3⟩ ?_
 have rsyc_g2_c5:rsyc_g2C F a b B w k 5:=cert_store (s:=0) (v:=undef) (by kernel_rfl) (by kernel_rfl) (by kernel_rfl) (by kernel_rfl) (by kernel_rfl) (rsyc_g2_5 F a b B w k) trivial
 have rsyc_g2_c6:rsyc_g2C F a b B w k 6:=cert_store (s:=1) (v:=undef) (by kernel_rfl) (by kernel_rfl) (by kernel_rfl) (by kernel_rfl) (by kernel_rfl) (rsyc_g2_6 F a b B w k) trivial
 have rsyc_g2_R:∀e_∈(rZs [1,2,4]++[rG 0 0 0 10 w.heap.size,rG 3 0 1 1 w.heap.size]:List RegE),rsyc_g2C F a b B w k e_.i:=certs_reg (by kernel_rfl) _ (fun sz=>by kernel_rfl)
 refine holds_mixG (vs:=(rsyc_g2v F a b B w k)) (ms:=(rsyc_g2m F a b B w k)) (stg:=(rsyc_g2t)) (J:=2) (sl':=[(4,(pt (w.heap.size+1) 0)),(5,(pt (w.heap.size+2) 0))]) (bk':=(rsyc_b3 F a b B w k)) (fun _ _ _=>False) [4,5] (by kernel_rfl) (by kernel_rfl) (by kernel_rfl) (fun _ _ _ _ h=>h.elim) (certs_mix rsyc_g2_R [5,6] ⟨rsyc_g2_c5,rsyc_g2_c6,tI⟩ (by kernel_rfl)) (by kernel_rfl) (by kernel_rfl) (by kernel_rfl) (fun z2 hz2=>?_)
 replace hz2:w.heap.size+3<=z2:=hz2
 refine hgS 3 [] [4,5] [] [] [.code [1,1]] (rsyc_b3 F a b B w k) [] z2 ?_
 refine hrt [[⟨false,1,0,10⟩],[⟨false,2,0,13⟩]] [.agg (List.toArray (rsyc_v1 F a b B)),.agg (List.toArray (rsyc_v2 F k))] [(w.heap.size+1,0,10),(w.heap.size+2,0,13)] ?_
 intro wx hm
 exact⟨rfl,hm.kept⟩
section
variable (M F a b ie is:Int)(B T:ByteArray)(w:World)(k:Int)
def rsyo_v1:List Value:=(rro_v1 M F a b ie is B T)
def rsyo_v2:List Value:=(rsyc_v2 F k)
def rsyo_v3:List Value:=rsyc_v3
def rsyo_v4:List Value:=rsyc_v4
@[simp] def rsyo_b1:List Bk:=[⟨w.heap.size,61,true,(rsyo_v1 M F a b ie is B T)⟩,⟨w.heap.size+1,61,true,(rsyo_v3)⟩,⟨w.heap.size+2,63,true,(rsyo_v4)⟩]
@[simp] def rsyo_b2:List Bk:=[⟨w.heap.size,61,true,(rsyo_v1 M F a b ie is B T)⟩,⟨w.heap.size+1,61,true,(rsyo_v1 M F a b ie is B T)⟩,⟨w.heap.size+2,63,true,(rsyo_v4)⟩]
@[simp] def rsyo_b3:List Bk:=[⟨w.heap.size,61,true,(rsyo_v1 M F a b ie is B T)⟩,⟨w.heap.size+1,61,true,(rsyo_v1 M F a b ie is B T)⟩,⟨w.heap.size+2,63,true,(rsyo_v2 F k)⟩]
def rsyo_g2s:List (Nat×Value):=[(1,i6 k),(2,(pt w.heap.size 0)),(4,(pt (w.heap.size+1) 0)),(5,(pt (w.heap.size+2) 0))]
def rsyo_g2v:List (Option Value):=[some (.agg (List.toArray (rsyo_v1 M F a b ie is B T))),some (i6 k),some ((pt w.heap.size 1)),some (i6 F),some (.agg (List.toArray (rsyo_v2 F k))),some (.tuple #[]),some (.tuple #[])]
def rsyo_g2m:List (List Bk):=[(rsyo_b1 M F a b ie is B T w),(rsyo_b2 M F a b ie is B T w),(rsyo_b3 M F a b ie is B T w k)]
def rsyo_g2t:List (Option Nat):=[none,none,none,none,none,some 0,some 1]
theorem rsyo_g2_5:∀sz,opG Tryz.prog (opsOf (getCode (bodyOf Tryz.f65) [1,0])) ⟨slG (opsOf (getCode (bodyOf Tryz.f65) [1,0])) (rsyo_g2v M F a b ie is B T w k) (slI (opsOf (getCode (bodyOf Tryz.f65) [1,0])) (rsyo_g2s w k) 5) (needsOf (opsOf (getCode (bodyOf Tryz.f65) [1,0])) 5),(rsyo_b1 M F a b ie is B T w),[],sz⟩ 5 (oA 1 0 10)=some ([],dupR [(w.heap.size+1,0,10)],undef,(rsyo_b2 M F a b ie is B T w),sz):=fun sz=>by kernel_rfl
theorem rsyo_g2_6:∀sz,opG Tryz.prog (opsOf (getCode (bodyOf Tryz.f65) [1,0])) ⟨slG (opsOf (getCode (bodyOf Tryz.f65) [1,0])) (rsyo_g2v M F a b ie is B T w k) (slI (opsOf (getCode (bodyOf Tryz.f65) [1,0])) (rsyo_g2s w k) 6) (needsOf (opsOf (getCode (bodyOf Tryz.f65) [1,0])) 6),(rsyo_b2 M F a b ie is B T w),[],sz⟩ 6 (oA 2 0 13)=some ([],dupR [(w.heap.size+2,0,13)],undef,(rsyo_b3 M F a b ie is B T w k),sz):=fun sz=>by kernel_rfl
def rsyo_g2C(i_:Nat):Prop:=CertG (wpOp Tryz.prog (opsOf (getCode (bodyOf Tryz.f65) [1,0])) (sem Tryz.prog (bodyOf Tryz.f65) (bodyPost Tryz.prog Tryz.f65 (RetK (.tuple #[.agg (List.toArray (rsyo_v1 M F a b ie is B T)),.agg (List.toArray (rsyo_v2 F k))]) w)) [.code [1,1]])) [] 11 (opsOf (getCode (bodyOf Tryz.f65) [1,0])) (slI (opsOf (getCode (bodyOf Tryz.f65) [1,0])) (rsyo_g2s w k) i_) (rsyo_g2t) 2 (MG w (fun _=>False) (rsyo_g2m M F a b ie is B T w k) [] (w.heap.size+3)) (Turned (rsyo_b1 M F a b ie is B T w)) (PvG (rsyo_g2v M F a b ie is B T w k) (fun _ _ _=>False)) i_
end
theorem r9say_o(F a b ie is M k:Int)(B T:ByteArray)(w:World) :
  Calls Tryz.prog 65 #[.agg #[.bool true,i6 F,i6 a,i6 b,sT B,.bool true,i6 ie,i6 is,i6 M,sT T],i6 k] w (RetK (.tuple #[.agg #[.bool true,i6 F,i6 a,i6 b,sT B,.bool true,i6 ie,i6 is,i6 M,sT T],.agg #[i6 k,i6 F,i6 0,.bool false,i6 0,i6 0,i6 0,sT ⟨#[]⟩,.bool false,i6 0,i6 0,i6 0,sT ⟨#[]⟩]]) w):=by
 refine cH (S:=(fun _=>False)) (n:=11) Tryz.func65 (MemOk.none w _) ?_
 refine hgE 10 (dz 3 0) [1,2,4,5] [] [] [.code [1,0],.code [1,1]] ⟨[(1,i6 k),(2,(pt w.heap.size 0)),(4,(pt (w.heap.size+1) 0)),(5,(pt (w.heap.size+2) 0))],(rsyo_b1 M F a b ie is B T w),[],w.heap.size+3⟩ ?_
 have rsyo_g2_c5:rsyo_g2C M F a b ie is B T w k 5:=cert_store (s:=0) (v:=undef) (by kernel_rfl) (by kernel_rfl) (by kernel_rfl) (by kernel_rfl) (by kernel_rfl) (rsyo_g2_5 M F a b ie is B T w k) trivial
 have rsyo_g2_c6:rsyo_g2C M F a b ie is B T w k 6:=cert_store (s:=1) (v:=undef) (by kernel_rfl) (by kernel_rfl) (by kernel_rfl) (by kernel_rfl) (by kernel_rfl) (rsyo_g2_6 M F a b ie is B T w k) trivial
 have rsyo_g2_R:∀e_∈(rZs [1,2,4]++[rG 0 0 0 10 w.heap.size,rG 3 0 1 1 w.heap.size]:List RegE),rsyo_g2C M F a b ie is B T w k e_.i:=certs_reg (by kernel_rfl) _ (fun sz=>by kernel_rfl)
 refine holds_mixG (vs:=(rsyo_g2v M F a b ie is B T w k)) (ms:=(rsyo_g2m M F a b ie is B T w k)) (stg:=(rsyo_g2t)) (J:=2) (sl':=[(4,(pt (w.heap.size+1) 0)),(5,(pt (w.heap.size+2) 0))]) (bk':=(rsyo_b3 M F a b ie is B T w k)) (fun _ _ _=>False) [4,5] (by kernel_rfl) (by kernel_rfl) (by kernel_rfl) (fun _ _ _ _ h=>h.elim) (certs_mix rsyo_g2_R [5,6] ⟨rsyo_g2_c5,rsyo_g2_c6,tI⟩ (by kernel_rfl)) (by kernel_rfl) (by kernel_rfl) (by kernel_rfl) (fun z2 hz2=>?_)
 replace hz2:w.heap.size+3<=z2:=hz2
 refine hgS 3 [] [4,5] [] [] [.code [1,1]] (rsyo_b3 M F a b ie is B T w k) [] z2 ?_
 refine hrt [[⟨false,1,0,10⟩],[⟨false,2,0,13⟩]] [.agg (List.toArray (rsyo_v1 M F a b ie is B T)),.agg (List.toArray (rsyo_v2 F k))] [(w.heap.size+1,0,10),(w.heap.size+2,0,13)] ?_
 intro wx hm
 exact⟨rfl,hm.kept⟩
section
variable (S E F a b:Int)(B:ByteArray)(w:World)(z4:Nat)
def rp1_v1:List Value:=[.bool true,i6 E,i6 a,i6 b,sT B,.bool false,i6 0,i6 0,i6 0,sT ⟨#[]⟩]
def rp1_v2:List Value:=[i6 1,i6 E,i6 0,.bool true,i6 E,i6 a,i6 b,sT B,.bool false,i6 0,i6 0,i6 0,sT ⟨#[]⟩]
def rp1_v3:List Value:=(qr1_v1 S E)
def rp1_v4:List Value:=rsyc_v3
def rp1_v5:List Value:=rsyc_v4
def rp1_v6:List Value:=(rrc_v1 F a b B)
def rp1_n1:List Nat:=[1,1,1,1,1,0,1,0,1,1,0]
def rp1_n2:List Nat:=[1,1,1,1,1,0,1,0,1,1,1]
@[simp] def rp1_b1:List Bk:=[⟨w.heap.size,61,true,(rp1_v1 E a b B)⟩,⟨w.heap.size+1,59,true,(rp1_v3 S E)⟩,⟨w.heap.size+2,61,true,(rp1_v4)⟩,⟨w.heap.size+3,63,true,(rp1_v5)⟩,⟨z4,57,true,[i6 E,i6 0]⟩]
@[simp] def rp1_b2:List Bk:=[⟨w.heap.size,61,true,(rp1_v1 E a b B)⟩,⟨w.heap.size+1,59,true,(rp1_v3 S E)⟩,⟨w.heap.size+2,61,true,(rp1_v1 E a b B)⟩,⟨w.heap.size+3,63,true,(rp1_v5)⟩,⟨z4,57,true,[i6 E,i6 0]⟩]
@[simp] def rp1_b3:List Bk:=[⟨w.heap.size,61,true,(rp1_v1 E a b B)⟩,⟨w.heap.size+1,59,true,(rp1_v3 S E)⟩,⟨w.heap.size+2,61,true,(rp1_v1 E a b B)⟩,⟨w.heap.size+3,63,true,(rp1_v2 E a b B)⟩,⟨z4,57,true,[i6 E,i6 0]⟩]
@[simp] def rp1_b4:List Bk:=[⟨w.heap.size,61,true,(rp1_v6 F a b B)⟩,⟨w.heap.size+1,59,true,(rp1_v3 S E)⟩,⟨w.heap.size+2,61,true,(rp1_v4)⟩,⟨w.heap.size+3,63,true,(rp1_v5)⟩]
def rp1_g6s:List (Nat×Value):=[(2,(pt w.heap.size 0)),(3,(pt (w.heap.size+1) 0)),(4,(pt (w.heap.size+2) 0)),(5,(pt (w.heap.size+3) 0)),(8,(pt z4 0))]
def rp1_g6v:List (Option Value):=[some (.agg (List.toArray (rp1_v1 E a b B))),some ((pt w.heap.size 1)),some (i6 E),some (.agg (List.toArray (rp1_v1 E a b B))),some (.agg (List.toArray (rp1_v2 E a b B))),some (.tuple #[]),some (.tuple #[])]
def rp1_g6m:List (List Bk):=[(rp1_b1 S E a b B w z4),(rp1_b2 S E a b B w z4),(rp1_b3 S E a b B w z4)]
def rp1_g6t:List (Option Nat):=[none,none,none,none,none,some 0,some 1]
theorem rp1_g6_5:∀sz,opG Tryz.prog (opsOf (getCode (bodyOf Tryz.f40) rp1_n1)) ⟨slG (opsOf (getCode (bodyOf Tryz.f40) rp1_n1)) (rp1_g6v E a b B w) (slI (opsOf (getCode (bodyOf Tryz.f40) rp1_n1)) (rp1_g6s w z4) 5) (needsOf (opsOf (getCode (bodyOf Tryz.f40) rp1_n1)) 5),(rp1_b1 S E a b B w z4),[],sz⟩ 5 (oA 2 0 10)=some ([],dupR [(w.heap.size+2,0,10)],undef,(rp1_b2 S E a b B w z4),sz):=fun sz=>by kernel_rfl
theorem rp1_g6_6:∀sz,opG Tryz.prog (opsOf (getCode (bodyOf Tryz.f40) rp1_n1)) ⟨slG (opsOf (getCode (bodyOf Tryz.f40) rp1_n1)) (rp1_g6v E a b B w) (slI (opsOf (getCode (bodyOf Tryz.f40) rp1_n1)) (rp1_g6s w z4) 6) (needsOf (opsOf (getCode (bodyOf Tryz.f40) rp1_n1)) 6),(rp1_b2 S E a b B w z4),[],sz⟩ 6 (oA 3 0 13)=some ([],dupR [(w.heap.size+3,0,13)],undef,(rp1_b3 S E a b B w z4),sz):=fun sz=>by kernel_rfl
def rp1_g6C(i_:Nat):Prop:=CertG (wpOp Tryz.prog (opsOf (getCode (bodyOf Tryz.f40) rp1_n1)) (sem Tryz.prog (bodyOf Tryz.f40) (bodyPost Tryz.prog Tryz.f40 (RetK (.tuple #[.agg (List.toArray (rp1_v1 E a b B)),.agg (List.toArray (rp1_v2 E a b B))]) w)) [.code rp1_n2,.code [1,1,1,1,1,1]])) [] 235 (opsOf (getCode (bodyOf Tryz.f40) rp1_n1)) (slI (opsOf (getCode (bodyOf Tryz.f40) rp1_n1)) (rp1_g6s w z4) i_) (rp1_g6t) 2 (MG w (fun _=>False) (rp1_g6m S E a b B w z4) [] (z4+1)) (Turned (rp1_b1 S E a b B w z4)) (PvG (rp1_g6v E a b B w) (fun _ _ _=>False)) i_
end
theorem apply_fence(F a b S E:Int)(B:ByteArray)(hF:0<=F∧F<=16777215)(ha:0<=a∧a<=16777215)(hb:0<=b∧b<=16777215)(hB:B.size=16)(hS:0<=S∧S<=7)(hE:1<=E∧E<=16777215)(hFE:F<=E)(w:World) :
  Calls Tryz.prog 40 #[.agg #[.bool true,i6 F,i6 a,i6 b,sT B,.bool false,i6 0,i6 0,i6 0,sT ⟨#[]⟩],.agg #[i6 1,i6 S,i6 E,i6 0,i6 0,i6 0,i6 0,i6 0,sT ⟨#[]⟩]] w (RetK (.tuple #[.agg #[.bool true,i6 E,i6 a,i6 b,sT B,.bool false,i6 0,i6 0,i6 0,sT ⟨#[]⟩],.agg #[i6 1,i6 E,i6 0,.bool true,i6 E,i6 a,i6 b,sT B,.bool false,i6 0,i6 0,i6 0,sT ⟨#[]⟩]]) w):=by
 refine cH (S:=(fun _=>False)) (n:=235) Tryz.func40 (MemOk.none w _) ?_
 refine hgS 13 (dz 5 42950197248) [2,3,4,5,10] [] [(w.heap.size,0,10)] [.ops [1,0] [1,2],.code [1,1]] (rp1_b4 S E F a b B w) [] (w.heap.size+4) ?_
 refine hcq (.bool true) _ _ (some 11) [] tI rfl (fun wx hm=>r8right_c F a b B hF ha hb hB wx) fun z2 hz2=>?_
 refine hgS 8 (dz 2 9437568) [2,3,4,5,6,12] [] [(w.heap.size+1,0,9)] [.ops [1,1,0] [1,2],.code [1,1,1]] (rp1_b4 S E F a b B w) [] z2 ?_
 refine hcq (.bool true) _ _ (some 13) [] tI rfl (fun wx hm=>r9right_1 S E hS hE wx) fun z4 hz4=>?_
 refine hgE 64 (dz 39 0x1010800102180000101080010218010010018002004800010318001021800400100180040010018004000000) [2,3,4,5,8] (rE 12 fF++[tT,dF ((E:Int)<F)]) [(w.heap.size+1,0,1),(w.heap.size+1,0,1),(w.heap.size+1,2,1),(w.heap.size+1,3,1),(z4,0,2),(w.heap.size+1,0,1),(w.heap.size+1,2,1),(w.heap.size,1,1),(w.heap.size+1,2,1),(w.heap.size,1,1)] [.code rp1_n1,.code rp1_n2,.code [1,1,1,1,1,1]] ⟨[(2,(pt w.heap.size 0)),(3,(pt (w.heap.size+1) 0)),(4,(pt (w.heap.size+2) 0)),(5,(pt (w.heap.size+3) 0)),(8,(pt z4 0))],(rp1_b1 S E a b B w z4),[],z4+1⟩ ?_
 have rp1_g6_c5:rp1_g6C S E a b B w z4 5:=cert_store (s:=0) (v:=undef) (by kernel_rfl) (by kernel_rfl) (by kernel_rfl) (by kernel_rfl) (by kernel_rfl) (rp1_g6_5 S E a b B w z4) trivial
 have rp1_g6_c6:rp1_g6C S E a b B w z4 6:=cert_store (s:=1) (v:=undef) (by kernel_rfl) (by kernel_rfl) (by kernel_rfl) (by kernel_rfl) (by kernel_rfl) (rp1_g6_6 S E a b B w z4) trivial
 have rp1_g6_R:∀e_∈(rZs [1,4]++[rG 0 0 0 10 w.heap.size,rG 2 0 1 1 w.heap.size,rG 3 0 0 10 w.heap.size]:List RegE),rp1_g6C S E a b B w z4 e_.i:=certs_reg (by kernel_rfl) _ (fun sz=>by kernel_rfl)
 refine holds_mixG (vs:=(rp1_g6v E a b B w)) (ms:=(rp1_g6m S E a b B w z4)) (stg:=(rp1_g6t)) (J:=2) (sl':=[(2,(pt w.heap.size 0)),(3,(pt (w.heap.size+1) 0)),(4,(pt (w.heap.size+2) 0)),(5,(pt (w.heap.size+3) 0)),(8,(pt z4 0))]) (bk':=(rp1_b3 S E a b B w z4)) (fun _ _ _=>False) [2,3,4,5,8] (by kernel_rfl) (by kernel_rfl) (by kernel_rfl) (fun _ _ _ _ h=>h.elim) (certs_mix rp1_g6_R [5,6] ⟨rp1_g6_c5,rp1_g6_c6,tI⟩ (by kernel_rfl)) (by kernel_rfl) (by kernel_rfl) (by kernel_rfl) (fun z6 hz6=>?_)
 replace hz6:z4+1<=z6:=hz6
 refine hgS 3 [] [2,3,4,5,8] [] [] [.code rp1_n2,.code [1,1,1,1,1,1]] (rp1_b3 S E a b B w z4) [] z6 ?_
 refine hrt [[⟨false,2,0,10⟩],[⟨false,3,0,13⟩]] [.agg (List.toArray (rp1_v1 E a b B)),.agg (List.toArray (rp1_v2 E a b B))] [(w.heap.size+2,0,10),(w.heap.size+3,0,13)] ?_
 intro wx hm
 exact⟨rfl,hm.kept⟩
section
variable (S E F a b:Int)(B:ByteArray)(w:World)(z4:Nat)
def rp2_v1:List Value:=(rrc_v1 F a b B)
def rp2_v2:List Value:=[i6 1,i6 F,i6 0,.bool true,i6 F,i6 a,i6 b,sT B,.bool false,i6 0,i6 0,i6 0,sT ⟨#[]⟩]
def rp2_v3:List Value:=(qr2_v1 S E)
def rp2_v4:List Value:=rp1_v4
def rp2_v5:List Value:=rp1_v5
def rp2_n1:List Nat:=[1,1,1,1,1,1,1,1,1,1,0,1,0,1,0,0]
def rp2_n2:List Nat:=[1,1,1,1,1,1,1,1,1,1,0,1,0,1,0,1]
def rp2_n3:List Nat:=[1,1,1,1,1,1,1,1,1,1,1]
@[simp] def rp2_b1:List Bk:=[⟨w.heap.size,61,true,(rp2_v1 F a b B)⟩,⟨w.heap.size+1,59,true,(rp2_v3 S E)⟩,⟨w.heap.size+2,61,true,(rp2_v4)⟩,⟨w.heap.size+3,63,true,(rp2_v5)⟩,⟨z4,57,true,[i6 E,i6 0]⟩]
@[simp] def rp2_b2:List Bk:=[⟨w.heap.size,61,true,(rp2_v1 F a b B)⟩,⟨w.heap.size+1,59,true,(rp2_v3 S E)⟩,⟨w.heap.size+2,61,true,(rp2_v1 F a b B)⟩,⟨w.heap.size+3,63,true,(rp2_v5)⟩,⟨z4,57,true,[i6 E,i6 0]⟩]
@[simp] def rp2_b3:List Bk:=[⟨w.heap.size,61,true,(rp2_v1 F a b B)⟩,⟨w.heap.size+1,59,true,(rp2_v3 S E)⟩,⟨w.heap.size+2,61,true,(rp2_v1 F a b B)⟩,⟨w.heap.size+3,63,true,(rp2_v2 F a b B)⟩,⟨z4,57,true,[i6 E,i6 0]⟩]
@[simp] def rp2_b4:List Bk:=[⟨w.heap.size,61,true,(rp2_v1 F a b B)⟩,⟨w.heap.size+1,59,true,(rp2_v3 S E)⟩,⟨w.heap.size+2,61,true,(rp2_v4)⟩,⟨w.heap.size+3,63,true,(rp2_v5)⟩]
def rp2_g8s:List (Nat×Value):=[(2,(pt w.heap.size 0)),(4,(pt (w.heap.size+2) 0)),(5,(pt (w.heap.size+3) 0))]
def rp2_g8v:List (Option Value):=[some (.agg (List.toArray (rp2_v1 F a b B))),some ((pt w.heap.size 1)),some (i6 F),some (.agg (List.toArray (rp2_v1 F a b B))),some (.agg (List.toArray (rp2_v1 F a b B))),some (.agg (List.toArray (rp2_v2 F a b B))),some (.tuple #[]),some (.tuple #[])]
def rp2_g8m:List (List Bk):=[(rp2_b1 S E F a b B w z4),(rp2_b2 S E F a b B w z4),(rp2_b3 S E F a b B w z4)]
def rp2_g8t:List (Option Nat):=[none,none,none,none,none,none,some 0,some 1]
theorem rp2_g8_4:callAt Tryz.prog (opsOf (getCode (bodyOf Tryz.f40) rp2_n1)) (slG (opsOf (getCode (bodyOf Tryz.f40) rp2_n1)) (rp2_g8v F a b B w) (slI (opsOf (getCode (bodyOf Tryz.f40) rp2_n1)) (rp2_g8s w) 4) (needsOf (opsOf (getCode (bodyOf Tryz.f40) rp2_n1)) 4)) 4=some (67,[.agg (List.toArray (rp2_v1 F a b B))],dstOf (opsOf (getCode (bodyOf Tryz.f40) rp2_n1)) 4,[]):=by kernel_rfl
theorem rp2_g8_6:∀sz,opG Tryz.prog (opsOf (getCode (bodyOf Tryz.f40) rp2_n1)) ⟨slG (opsOf (getCode (bodyOf Tryz.f40) rp2_n1)) (rp2_g8v F a b B w) (slI (opsOf (getCode (bodyOf Tryz.f40) rp2_n1)) (rp2_g8s w) 6) (needsOf (opsOf (getCode (bodyOf Tryz.f40) rp2_n1)) 6),(rp2_b1 S E F a b B w z4),[],sz⟩ 6 (oA 2 0 10)=some ([],dupR [(w.heap.size+2,0,10)],undef,(rp2_b2 S E F a b B w z4),sz):=fun sz=>by kernel_rfl
theorem rp2_g8_7:∀sz,opG Tryz.prog (opsOf (getCode (bodyOf Tryz.f40) rp2_n1)) ⟨slG (opsOf (getCode (bodyOf Tryz.f40) rp2_n1)) (rp2_g8v F a b B w) (slI (opsOf (getCode (bodyOf Tryz.f40) rp2_n1)) (rp2_g8s w) 7) (needsOf (opsOf (getCode (bodyOf Tryz.f40) rp2_n1)) 7),(rp2_b2 S E F a b B w z4),[],sz⟩ 7 (oA 3 0 13)=some ([],dupR [(w.heap.size+3,0,13)],undef,(rp2_b3 S E F a b B w z4),sz):=fun sz=>by kernel_rfl
def rp2_g8C(z6:Nat)(i_:Nat):Prop:=CertG (wpOp Tryz.prog (opsOf (getCode (bodyOf Tryz.f40) rp2_n1)) (sem Tryz.prog (bodyOf Tryz.f40) (bodyPost Tryz.prog Tryz.f40 (RetK (.tuple #[.agg (List.toArray (rp2_v1 F a b B)),.agg (List.toArray (rp2_v2 F a b B))]) w)) [.code rp2_n2,.blk 0,.code rp2_n3])) [] 235 (opsOf (getCode (bodyOf Tryz.f40) rp2_n1)) (slI (opsOf (getCode (bodyOf Tryz.f40) rp2_n1)) (rp2_g8s w) i_) (rp2_g8t) 2 (MG w (fun _=>False) (rp2_g8m S E F a b B w z4) [] z6) (Turned (rp2_b1 S E F a b B w z4)) (PvG (rp2_g8v F a b B w) (fun _ _ _=>False)) i_
end
theorem apply_read(F a b S E:Int)(B:ByteArray)(hF:0<=F∧F<=16777215)(ha:0<=a∧a<=16777215)(hb:0<=b∧b<=16777215)(hB:B.size=16)(hS:0<=S∧S<=7)(hE:1<=E∧E<=16777215)(hFE:F=E)(hbe:a<E)(w:World) :
  Calls Tryz.prog 40 #[.agg #[.bool true,i6 F,i6 a,i6 b,sT B,.bool false,i6 0,i6 0,i6 0,sT ⟨#[]⟩],.agg #[i6 2,i6 S,i6 E,i6 0,i6 0,i6 0,i6 0,i6 0,sT ⟨#[]⟩]] w (RetK (.tuple #[.agg #[.bool true,i6 F,i6 a,i6 b,sT B,.bool false,i6 0,i6 0,i6 0,sT ⟨#[]⟩],.agg #[i6 1,i6 F,i6 0,.bool true,i6 F,i6 a,i6 b,sT B,.bool false,i6 0,i6 0,i6 0,sT ⟨#[]⟩]]) w):=by
 refine cH (S:=(fun _=>False)) (n:=235) Tryz.func40 (MemOk.none w _) ?_
 refine hgS 13 (dz 5 42950197248) [2,3,4,5,10] [] [(w.heap.size,0,10)] [.ops [1,0] [1,2],.code [1,1]] (rp2_b4 S E F a b B w) [] (w.heap.size+4) ?_
 refine hcq (.bool true) _ _ (some 11) [] tI rfl (fun wx hm=>r8right_c F a b B hF ha hb hB wx) fun z2 hz2=>?_
 refine hgS 8 (dz 2 9437568) [2,3,4,5,6,12] [] [(w.heap.size+1,0,9)] [.ops [1,1,0] [1,2],.code [1,1,1]] (rp2_b4 S E F a b B w) [] z2 ?_
 refine hcq (.bool true) _ _ (some 13) [] tI rfl (fun wx hm=>r9right_2 S E hS hE wx) fun z4 hz4=>?_
 refine hgS 62 (dz 38 0x200480202080000101080010218000010018002004800010318001021800400100180040010018004000000) [2,3,4,5,8,67,68] (rE 13 fF++[oE ((E != F)=false) (bne_eq_false_iff_eq.2 (by omega))]) [(w.heap.size+1,0,1),(w.heap.size+1,0,1),(w.heap.size+1,2,1),(w.heap.size+1,3,1),(z4,0,2),(w.heap.size+1,0,1),(w.heap.size+1,2,1),(w.heap.size,1,1),(w.heap.size,2,2),(z4,0,2)] [.ops [1,1,1,1,1,1,1,0] [3,4,5],.code [1,1,1,1,1,1,1,1]] (rp2_b1 S E F a b B w z4) [] (z4+1) ?_
 refine hcq (.bool true) _ _ (some 69) [] tI rfl (fun wx hm=>r9before a b E 0 (by omega) wx) fun z6 hz6=>?_
 refine hgE 38 (dz 15 0x100010018000010008000010018000) [2,4,5] [fF,fF,tT] [(w.heap.size+1,0,1),(w.heap.size,0,1),(w.heap.size+1,0,1)] [.code rp2_n1,.code rp2_n2,.blk 0,.code rp2_n3] ⟨[(2,(pt w.heap.size 0)),(4,(pt (w.heap.size+2) 0)),(5,(pt (w.heap.size+3) 0))],(rp2_b1 S E F a b B w z4),[],z6⟩ ?_
 have rp2_g8_c4:rp2_g8C S E F a b B w z4 z6 4:=cert_call (v:=.agg (List.toArray (rp2_v1 F a b B))) (by kernel_rfl) (by kernel_rfl) (rp2_g8_4 F a b B w) trivial (fun j wx _ hm=>r9closed F a b B wx)
 have rp2_g8_c6:rp2_g8C S E F a b B w z4 z6 6:=cert_store (s:=0) (v:=undef) (by kernel_rfl) (by kernel_rfl) (by kernel_rfl) (by kernel_rfl) (by kernel_rfl) (rp2_g8_6 S E F a b B w z4) trivial
 have rp2_g8_c7:rp2_g8C S E F a b B w z4 z6 7:=cert_store (s:=1) (v:=undef) (by kernel_rfl) (by kernel_rfl) (by kernel_rfl) (by kernel_rfl) (by kernel_rfl) (rp2_g8_7 S E F a b B w z4) trivial
 have rp2_g8_R:∀e_∈(rZs [1,5]++[rG 0 0 0 10 w.heap.size,rG 2 0 1 1 w.heap.size,rG 3 0 0 10 w.heap.size]:List RegE),rp2_g8C S E F a b B w z4 z6 e_.i:=certs_reg (by kernel_rfl) _ (fun sz=>by kernel_rfl)
 refine holds_mixG (vs:=(rp2_g8v F a b B w)) (ms:=(rp2_g8m S E F a b B w z4)) (stg:=(rp2_g8t)) (J:=2) (sl':=[(2,(pt w.heap.size 0)),(4,(pt (w.heap.size+2) 0)),(5,(pt (w.heap.size+3) 0))]) (bk':=(rp2_b3 S E F a b B w z4)) (fun _ _ _=>False) [2,4,5] (by kernel_rfl) (by kernel_rfl) (by kernel_rfl) (fun _ _ _ _ h=>h.elim) (certs_mix rp2_g8_R [4,6,7] ⟨rp2_g8_c4,rp2_g8_c6,rp2_g8_c7,tI⟩ (by kernel_rfl)) (by kernel_rfl) (by kernel_rfl) (by kernel_rfl) (fun z8 hz8=>?_)
 replace hz8:z6<=z8:=hz8
 refine hgS 3 [] [2,4,5] [] [] [.code rp2_n2,.blk 0,.code rp2_n3] (rp2_b3 S E F a b B w z4) [] z8 ?_
 refine hrt [[⟨false,2,0,10⟩],[⟨false,3,0,13⟩]] [.agg (List.toArray (rp2_v1 F a b B)),.agg (List.toArray (rp2_v2 F a b B))] [(w.heap.size+2,0,10),(w.heap.size+3,0,13)] ?_
 intro wx hm
 exact⟨rfl,hm.kept⟩
section
variable (S E F a b:Int)(B:ByteArray)(w:World)
def rp3_v1:List Value:=(rrc_v1 F a b B)
def rp3_v2:List Value:=(qr3_v1 S E)
def rp3_v3:List Value:=rp1_v4
def rp3_v4:List Value:=rp1_v5
def rp3_v5:List Value:=[i6 1,i6 F,i6 0,.bool false,i6 0,i6 0,i6 0,sT ⟨#[]⟩,.bool false,i6 0,i6 0,i6 0,sT ⟨#[]⟩]
@[simp] def rp3_b1:List Bk:=[⟨w.heap.size,61,true,(rp3_v1 F a b B)⟩,⟨w.heap.size+1,59,true,(rp3_v2 S E)⟩,⟨w.heap.size+2,61,true,(rp3_v3)⟩,⟨w.heap.size+3,63,true,(rp3_v4)⟩]
@[simp] def rp3_b2(z4:Nat):List Bk:=[⟨w.heap.size,61,true,(rp3_v1 F a b B)⟩,⟨w.heap.size+1,59,true,(rp3_v2 S E)⟩,⟨w.heap.size+2,61,true,(rp3_v3)⟩,⟨w.heap.size+3,63,true,(rp3_v4)⟩,⟨z4,57,true,[i6 E,i6 0]⟩]
end
theorem apply_check(F a b S E:Int)(B:ByteArray)(hF:0<=F∧F<=16777215)(ha:0<=a∧a<=16777215)(hb:0<=b∧b<=16777215)(hB:B.size=16)(hS:0<=S∧S<=7)(hE:1<=E∧E<=16777215)(hFE:F=E)(hbe:a<E)(w:World) :
  Calls Tryz.prog 40 #[.agg #[.bool true,i6 F,i6 a,i6 b,sT B,.bool false,i6 0,i6 0,i6 0,sT ⟨#[]⟩],.agg #[i6 3,i6 S,i6 E,i6 0,i6 0,i6 0,i6 0,i6 0,sT ⟨#[]⟩]] w (RetK (.tuple #[.agg #[.bool true,i6 F,i6 a,i6 b,sT B,.bool false,i6 0,i6 0,i6 0,sT ⟨#[]⟩],.agg #[i6 1,i6 F,i6 0,.bool false,i6 0,i6 0,i6 0,sT ⟨#[]⟩,.bool false,i6 0,i6 0,i6 0,sT ⟨#[]⟩]]) w):=by
 refine cH (S:=(fun _=>False)) (n:=235) Tryz.func40 (MemOk.none w _) ?_
 refine hgS 13 (dz 5 42950197248) [2,3,4,5,10] [] [(w.heap.size,0,10)] [.ops [1,0] [1,2],.code [1,1]] (rp3_b1 S E F a b B w) [] (w.heap.size+4) ?_
 refine hcq (.bool true) _ _ (some 11) [] tI rfl (fun wx hm=>r8right_c F a b B hF ha hb hB wx) fun z2 hz2=>?_
 refine hgS 8 (dz 2 9437568) [2,3,4,5,6,12] [] [(w.heap.size+1,0,9)] [.ops [1,1,0] [1,2],.code [1,1,1]] (rp3_b1 S E F a b B w) [] z2 ?_
 refine hcq (.bool true) _ _ (some 13) [] tI rfl (fun wx hm=>r9right_3 S E hS hE wx) fun z4 hz4=>?_
 refine hgS 62 (dz 38 0x200480202080000101080010218000010018002004800010318001021800400100180040010018004000000) [2,3,4,5,8,67,68] (rE 13 fF++[oE ((E != F)=false) (bne_eq_false_iff_eq.2 (by omega))]) [(w.heap.size+1,0,1),(w.heap.size+1,0,1),(w.heap.size+1,2,1),(w.heap.size+1,3,1),(z4,0,2),(w.heap.size+1,0,1),(w.heap.size+1,2,1),(w.heap.size,1,1),(w.heap.size,2,2),(z4,0,2)] [.ops [1,1,1,1,1,1,1,0] [3,4,5],.code [1,1,1,1,1,1,1,1]] (rp3_b2 S E F a b B w z4) [] (z4+1) ?_
 refine hcq (.bool true) _ _ (some 69) [] tI rfl (fun wx hm=>r9before a b E 0 (by omega) wx) fun z6 hz6=>?_
 refine hgS 60 (dz 25 0xa0008000000000000010018000010008000010018000) [4,5,231] [fF,fF,fF,fF,fF,fF] [(w.heap.size+1,0,1),(w.heap.size,0,1),(w.heap.size+1,0,1),(w.heap.size,0,10)] [.ops [1,1,1,1,1,1,1,1,1,1,1,0] [1,2,3,4,5],.code [1,1,1,1,1,1,1,1,1,1,1,1]] (rp3_b2 S E F a b B w z4) [] z6 ?_
 refine hcq (.tuple #[.agg (List.toArray (rp3_v1 F a b B)),.agg (List.toArray (rp3_v5 F))]) _ _ (some 232) [] tI rfl (fun wx hm=>r9say_c F a b 1 B wx) fun z8 hz8=>?_
 refine hgS 8 (dz 4 0xd00380a002800) [4,5] [] [(w.heap.size+2,0,10),(w.heap.size+3,0,13)] [.code [1,1,1,1,1,1,1,1,1,1,1,1]] [⟨w.heap.size,61,true,(rp3_v1 F a b B)⟩,⟨w.heap.size+1,59,true,(rp3_v2 S E)⟩,⟨w.heap.size+2,61,true,(rp3_v1 F a b B)⟩,⟨w.heap.size+3,63,true,(rp3_v5 F)⟩,⟨z4,57,true,[i6 E,i6 0]⟩] [] z8 ?_
 refine hrt [[⟨false,2,0,10⟩],[⟨false,3,0,13⟩]] [.agg (List.toArray (rp3_v1 F a b B)),.agg (List.toArray (rp3_v5 F))] [(w.heap.size+2,0,10),(w.heap.size+3,0,13)] ?_
 intro wx hm
 exact⟨rfl,hm.kept⟩
section
variable (S E Q M F a b:Int)(B T:ByteArray)
def rp4_v1:List Value:=(rrc_v1 F a b B)
def rp4_v2:List Value:=(qr4_v1 S E Q M T)
def rp4_v3:List Value:=rp1_v4
def rp4_v4:List Value:=rp1_v5
def rp4_v5:List Value:=[.bool true,i6 F,i6 a,i6 b,sT B,.bool true,i6 E,i6 Q,i6 M,sT T]
def rp4_v6:List Value:=(rp3_v5 F)
def rp4_n1:List Nat:=[1,1,1,1,1,1,1,1,1,1,0,1,0,1,1,1,0,1,1,1,1,1,1,1,1]
@[simp] def rp4_b1(w:World):List Bk:=[⟨w.heap.size,61,true,(rp4_v1 F a b B)⟩,⟨w.heap.size+1,59,true,(rp4_v2 S E Q M T)⟩,⟨w.heap.size+2,61,true,(rp4_v3)⟩,⟨w.heap.size+3,63,true,(rp4_v4)⟩]
end
theorem apply_prepare(F a b S E Q M:Int)(B T:ByteArray)(hF:0<=F∧F<=16777215)(ha:0<=a∧a<=16777215)(hb:0<=b∧b<=16777215)(hB:B.size=16)(hS:0<=S∧S<=7)(hE:1<=E∧E<=16777215)(hQ:1<=Q∧Q<=16777215)(hM:1<=M∧M<=63)(hT:T.size=16)(hFE:F=E)(hbe:a<E)(w:World) :
  Calls Tryz.prog 40 #[.agg #[.bool true,i6 F,i6 a,i6 b,sT B,.bool false,i6 0,i6 0,i6 0,sT ⟨#[]⟩],.agg #[i6 4,i6 S,i6 E,i6 Q,i6 M,i6 0,i6 0,i6 0,sT T]] w (RetK (.tuple #[.agg #[.bool true,i6 F,i6 a,i6 b,sT B,.bool true,i6 E,i6 Q,i6 M,sT T],.agg #[i6 1,i6 F,i6 0,.bool false,i6 0,i6 0,i6 0,sT ⟨#[]⟩,.bool false,i6 0,i6 0,i6 0,sT ⟨#[]⟩]]) w):=by
 refine cH (S:=(fun _=>False)) (n:=235) Tryz.func40 (MemOk.none w _) ?_
 refine hgS 13 (dz 5 42950197248) [2,3,4,5,10] [] [(w.heap.size,0,10)] [.ops [1,0] [1,2],.code [1,1]] (rp4_b1 S E Q M F a b B T w) [] (w.heap.size+4) ?_
 refine hcq (.bool true) _ _ (some 11) [] tI rfl (fun wx hm=>r8right_c F a b B hF ha hb hB wx) fun z2 hz2=>?_
 refine hgS 8 (dz 2 9437568) [2,3,4,5,6,12] [] [(w.heap.size+1,0,9)] [.ops [1,1,0] [1,2],.code [1,1,1]] (rp4_b1 S E Q M F a b B T w) [] z2 ?_
 refine hcq (.bool true) _ _ (some 13) [] tI rfl (fun wx hm=>r9right_4 S E Q M T hS hE hQ hM hT wx) fun z4 hz4=>?_
 refine hgS 62 (dz 38 0x200480202080000101080010218000010018002004800010318001021800400100180040010018004000000) [2,3,4,5,8,67,68] (rE 13 fF++[oE ((E != F)=false) (bne_eq_false_iff_eq.2 (by omega))]) [(w.heap.size+1,0,1),(w.heap.size+1,0,1),(w.heap.size+1,2,1),(w.heap.size+1,3,1),(z4,0,2),(w.heap.size+1,0,1),(w.heap.size+1,2,1),(w.heap.size,1,1),(w.heap.size,2,2),(z4,0,2)] [.ops [1,1,1,1,1,1,1,0] [3,4,5],.code [1,1,1,1,1,1,1,1]] [⟨w.heap.size,61,true,(rp4_v1 F a b B)⟩,⟨w.heap.size+1,59,true,(rp4_v2 S E Q M T)⟩,⟨w.heap.size+2,61,true,(rp4_v3)⟩,⟨w.heap.size+3,63,true,(rp4_v4)⟩,⟨z4,57,true,[i6 E,i6 Q]⟩] [] (z4+1) ?_
 refine hcq (.bool true) _ _ (some 69) [] tI rfl (fun wx hm=>r9before a b E Q (by omega) wx) fun z6 hz6=>?_
 refine hgS 110 (dz 56 0xa000801090800108180010808001041800206080020048010508000105080000440004000000105080020200480202080100000010018000010008000010018000) [2,4,5,165] ([fF,fF,fF,tT,vV]++rE 3 (oE ((((a:Int)==E)&&(((b:Int)==Q)&&true))=false) (by simp; omega))++[fF,fF,fF,fF,oE ((((a:Int)==E)&&(((b:Int)==Q)&&true))=false) (by simp; omega),fF,oE ((((a:Int)==E)&&(((b:Int)==Q)&&true))=false) (by simp; omega),fF,fF,oE ((((a:Int)==E)&&(((b:Int)==Q)&&true))=false) (by simp; omega),fF,oE ((((a:Int)==E)&&(((b:Int)==Q)&&true))=false) (by simp; omega),fF,fF,fF]) [(w.heap.size+1,0,1),(w.heap.size,0,1),(w.heap.size+1,0,1),(w.heap.size,2,2),(z4,0,2),(w.heap.size,5,1),(w.heap.size,5,1),(w.heap.size,5,1),(z4,0,2),(w.heap.size,6,2),(w.heap.size+1,4,1),(w.heap.size,8,1),(w.heap.size+1,8,1),(w.heap.size,9,1),(w.heap.size,0,10)] [.ops [1,1,1,1,1,1,1,1,1,1,0,1,0,1,1,1,0,1,1,1,1,1,1,1,0] [1,2,3,4,5],.code rp4_n1,.blk 0,.code [1,1,1,1,1,1,1,1,1,1,1]] [⟨w.heap.size,61,true,(rp4_v5 E Q M F a b B T)⟩,⟨w.heap.size+1,59,true,(rp4_v2 S E Q M T)⟩,⟨w.heap.size+2,61,true,(rp4_v3)⟩,⟨w.heap.size+3,63,true,(rp4_v4)⟩,⟨z4,57,true,[i6 E,i6 Q]⟩] [] z6 ?_
 refine hcq (.tuple #[.agg (List.toArray (rp4_v5 E Q M F a b B T)),.agg (List.toArray (rp4_v6 F))]) _ _ (some 166) [] tI rfl (fun wx hm=>r9say_o F a b E Q M 1 B T wx) fun z8 hz8=>?_
 refine hgS 8 (dz 4 0xd00380a002800) [2,4,5] [] [(w.heap.size+2,0,10),(w.heap.size+3,0,13)] [.code rp4_n1,.blk 0,.code [1,1,1,1,1,1,1,1,1,1,1]] [⟨w.heap.size,61,true,(rp4_v5 E Q M F a b B T)⟩,⟨w.heap.size+1,59,true,(rp4_v2 S E Q M T)⟩,⟨w.heap.size+2,61,true,(rp4_v5 E Q M F a b B T)⟩,⟨w.heap.size+3,63,true,(rp4_v6 F)⟩,⟨z4,57,true,[i6 E,i6 Q]⟩] [] z8 ?_
 refine hrt [[⟨false,2,0,10⟩],[⟨false,3,0,13⟩]] [.agg (List.toArray (rp4_v5 E Q M F a b B T)),.agg (List.toArray (rp4_v6 F))] [(w.heap.size+2,0,10),(w.heap.size+3,0,13)] ?_
 intro wx hm
 exact⟨rfl,hm.kept⟩
section
variable (S E Q M F a b ie is:Int)(B T:ByteArray)(w:World)
def rp5_v1:List Value:=(rro_v1 M F a b ie is B T)
def rp5_v2:List Value:=(qr5_v1 S E Q)
def rp5_v3:List Value:=rp1_v4
def rp5_v4:List Value:=rp1_v5
def rp5_v5:List Value:=(rdn_v2 F ie is T)
def rp5_v6:List Value:=(rp3_v5 F)
def rp5_n1:List Nat:=[1,1,1,1,1,1,1,1,1,1,0,1,0,1,1,1,1,1,0,0,1,0,0]
def rp5_n2:List Nat:=[1,1,1,1,1,1,1,1,1,1,0,1,0,1,1,1,1,1,0,0,1,0,1]
def rp5_n3:List Nat:=[1,1,1,1,1,1,1,1,1,1,0,1,0,1,1,1,1,1,0,1]
def rp5_n4:List Nat:=[1,1,1,1,1,1,1,1,1,1,1]
@[simp] def rp5_b1:List Bk:=[⟨w.heap.size,61,true,(rp5_v1 M F a b ie is B T)⟩,⟨w.heap.size+1,59,true,(rp5_v2 S E Q)⟩,⟨w.heap.size+2,61,true,(rp5_v3)⟩,⟨w.heap.size+3,63,true,(rp5_v4)⟩]
@[simp] def rp5_b2(z4:Nat):List Bk:=[⟨w.heap.size,61,true,(rp5_v1 M F a b ie is B T)⟩,⟨w.heap.size+1,59,true,(rp5_v2 S E Q)⟩,⟨w.heap.size+2,61,true,(rp5_v3)⟩,⟨w.heap.size+3,63,true,(rp5_v4)⟩,⟨z4,57,true,[i6 E,i6 Q]⟩]
end
theorem apply_commit(F a b ie is M S E Q:Int)(B T:ByteArray)(hF:0<=F∧F<=16777215)(ha:0<=a∧a<=16777215)(hb:0<=b∧b<=16777215)(hB:B.size=16)(hie:0<=ie∧ie<=16777215)(his:0<=is∧is<=16777215)(hM:1<=M∧M<=63)(hT:T.size=16)(hS:0<=S∧S<=7)(hE:1<=E∧E<=16777215)(hQ:1<=Q∧Q<=16777215)(hFE:F=E)(hie2:ie=E)(his2:is=Q)(hbe:a<E)(w:World) :
  Calls Tryz.prog 40 #[.agg #[.bool true,i6 F,i6 a,i6 b,sT B,.bool true,i6 ie,i6 is,i6 M,sT T],.agg #[i6 5,i6 S,i6 E,i6 Q,i6 0,i6 0,i6 0,i6 0,sT ⟨#[]⟩]] w (RetK (.tuple #[.agg #[.bool true,i6 F,i6 ie,i6 is,sT T,.bool false,i6 0,i6 0,i6 0,sT ⟨#[]⟩],.agg #[i6 1,i6 F,i6 0,.bool false,i6 0,i6 0,i6 0,sT ⟨#[]⟩,.bool false,i6 0,i6 0,i6 0,sT ⟨#[]⟩]]) w):=by
 refine cH (S:=(fun _=>False)) (n:=235) Tryz.func40 (MemOk.none w _) ?_
 refine hgS 13 (dz 5 42950197248) [2,3,4,5,10] [] [(w.heap.size,0,10)] [.ops [1,0] [1,2],.code [1,1]] (rp5_b1 S E Q M F a b ie is B T w) [] (w.heap.size+4) ?_
 refine hcq (.bool true) _ _ (some 11) [] tI rfl (fun wx hm=>r8right_o F a b ie is M B T hF ha hb hB hie his hM hT wx) fun z2 hz2=>?_
 refine hgS 8 (dz 2 9437568) [2,3,4,5,6,12] [] [(w.heap.size+1,0,9)] [.ops [1,1,0] [1,2],.code [1,1,1]] (rp5_b1 S E Q M F a b ie is B T w) [] z2 ?_
 refine hcq (.bool true) _ _ (some 13) [] tI rfl (fun wx hm=>r9right_5 S E Q hS hE hQ wx) fun z4 hz4=>?_
 refine hgS 62 (dz 38 0x200480202080000101080010218000010018002004800010318001021800400100180040010018004000000) [2,3,4,5,8,67,68] (rE 13 fF++[oE ((E != F)=false) (bne_eq_false_iff_eq.2 (by omega))]) [(w.heap.size+1,0,1),(w.heap.size+1,0,1),(w.heap.size+1,2,1),(w.heap.size+1,3,1),(z4,0,2),(w.heap.size+1,0,1),(w.heap.size+1,2,1),(w.heap.size,1,1),(w.heap.size,2,2),(z4,0,2)] [.ops [1,1,1,1,1,1,1,0] [3,4,5],.code [1,1,1,1,1,1,1,1]] (rp5_b2 S E Q M F a b ie is B T w z4) [] (z4+1) ?_
 refine hcq (.bool true) _ _ (some 69) [] tI rfl (fun wx hm=>r9before a b E Q (by omega) wx) fun z6 hz6=>?_
 refine hgS 65 (dz 31 0xa0008135020049020609100105080100000000010018000010008000010018000) [2,4,5,8,179] [fF,fF,fF,fF,tT,tT,tT,tT,tT,vV,tT,oE ((((ie:Int)==E)&&(((is:Int)==Q)&&true))=true) (by simp[hie2,his2])] [(w.heap.size+1,0,1),(w.heap.size,0,1),(w.heap.size+1,0,1),(w.heap.size,5,1),(w.heap.size,6,2),(z4,0,2),(w.heap.size,0,10)] [.ops rp5_n1 [1,2,3,4,5,6],.code rp5_n2,.code rp5_n3,.blk 0,.code rp5_n4] (rp5_b2 S E Q M F a b ie is B T w z4) [] z6 ?_
 refine hcq (.agg (List.toArray (rp5_v5 F ie is T))) _ _ (some 180) [] tI rfl (fun wx hm=>r9done F a b ie is M B T wx) fun z8 hz8=>?_
 refine hgS 3 [] [2,4,5,8,180] [] [] [.ops rp5_n1 [2,3,4,5,6],.code rp5_n2,.code rp5_n3,.blk 0,.code rp5_n4] (rp5_b2 S E Q M F a b ie is B T w z4) [] z8 ?_
 refine hcq (.tuple #[.agg (List.toArray (rp5_v5 F ie is T)),.agg (List.toArray (rp5_v6 F))]) _ _ (some 181) [] tI rfl (fun wx hm=>r9say_c F ie is 1 T wx) fun z10 hz10=>?_
 refine hgS 8 (dz 4 0xd00380a002800) [2,4,5,8] [] [(w.heap.size+2,0,10),(w.heap.size+3,0,13)] [.code rp5_n2,.code rp5_n3,.blk 0,.code rp5_n4] [⟨w.heap.size,61,true,(rp5_v1 M F a b ie is B T)⟩,⟨w.heap.size+1,59,true,(rp5_v2 S E Q)⟩,⟨w.heap.size+2,61,true,(rp5_v5 F ie is T)⟩,⟨w.heap.size+3,63,true,(rp5_v6 F)⟩,⟨z4,57,true,[i6 E,i6 Q]⟩] [] z10 ?_
 refine hrt [[⟨false,2,0,10⟩],[⟨false,3,0,13⟩]] [.agg (List.toArray (rp5_v5 F ie is T)),.agg (List.toArray (rp5_v6 F))] [(w.heap.size+2,0,10),(w.heap.size+3,0,13)] ?_
 intro wx hm
 exact⟨rfl,hm.kept⟩
end Go.Proofs.YtcmpkkapkdlfhaaGreat
