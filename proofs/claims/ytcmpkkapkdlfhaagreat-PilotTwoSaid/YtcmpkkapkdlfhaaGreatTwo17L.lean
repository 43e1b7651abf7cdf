import Derived.Test.YtcmpkkapkdlfhaaGreatAwake17
namespace Go.Proofs.YtcmpkkapkdlfhaaGreat
open Go.RowKit
set_option maxHeartbeats 4000000
set_option maxRecDepth 100000
theorem awake_law{lo:Nat}(w:World):Calls Tryz.prog 6 #[] w (fun e w'=>e=.returned (.bool true)∧Kept (LawL lo w) w w'):=(awake_any w).mono fun _ _ ⟨h1,h2⟩=>⟨h1,h2.mono fun _ _ h=>h.elim⟩
section
variable (a b:Int)(A:Option Addr)(n cp pa pb sb N S MN i b1 o1:Nat)(x:Act17)(kd:Int)(q:Nat)(da:ByteArray)(w:World)(z4 g_m:Nat)
def ptw_v1:List Value:=[i6 (x.v 0),i6 (x.v 1),i6 (x.v 2),i6 (x.v 3),i6 (x.v 4),sT (x.t 0),i6 (x.v 5),i6 (x.v 6),i6 (x.v 7),i6 (x.v 8),i6 (x.v 9),i6 (x.v 10),.bool x.b,i6 (x.v 11),i6 (x.v 12),i6 (x.v 13),i6 (x.v 14),i6 (x.v 15),i6 (x.v 16),i6 (x.v 17),i6 (x.v 18),sT (x.t 1),i6 (x.v 19),i6 (x.v 20),i6 (x.v 21),i6 (x.v 22),i6 (x.v 23),i6 (x.v 24),i6 (x.v 25),sT (x.t 2),sT (x.t 3)]
def ptw_v2:List Value:=rp 16 (.int .u8 0)
def ptw_n1:List Nat:=[0,1,2,3,4,5,6,7,8,9,10,11,12]
def ptw_n2:List Nat:=[1,1,1,1,1,1,1,1,1,0,1,0,0,1,0,0,1,1,0,0]
def ptw_n3:List Nat:=[1,1,1,1,1,1,1,1,1,0,1,0,0,1,0,0,1,1,0,1]
def ptw_n4:List Nat:=[1,1,1,1,1,1,1,1,1,0,1,0,0,1,0,0,1,1,1,0]
def ptw_n5:List Nat:=[1,1,1,1,1,1,1,1,1,0,1,0,0,1,0,0,1,1,1,1]
def ptw_n6:List Nat:=[1,1,1,1,1,1,1,1,1,0,1,0,0,1,0,0,1,1,1]
def ptw_n7:List Nat:=[1,1,1,1,1,1,1,1,1,0,1,0,0,1,0,0,1]
def ptw_n8:List Nat:=[1,1,1,1,1,1,1,1,1,0,1,0,0,1,1]
def ptw_n9:List Nat:=[1,1,1,1,1,1,1,1,1,1,0,1,0]
def ptw_n10:List Nat:=[1,1,1,1,1,1,1,1,1,1,1]
def ptw_n11:List Nat:=[1,1,1,1,1,1,1,1,1,1]
def ptw_n12:List Nat:=[1,1,1,1,1,1,1,1,1]
def ptw_n13:List Nat:=[1,4,6,7,8,9,10,12]
@[simp] def ptw_b1:List Bk:=[⟨w.heap.size,23,true,[i6 a,i6 b]⟩,⟨z4,23,true,[i6 (N:Int),i6 (S:Int)]⟩]
@[simp] def ptw_b2(d:Option Nat):List Bk:=[⟨w.heap.size,23,true,[i6 a,i6 b]⟩,⟨z4,23,true,[i6 (N:Int),i6 (S:Int)]⟩,⟨(d.getD 0),38,true,[i6 kd,i6 (q:Int),sT da]⟩]
@[simp] def ptw_b3(W6:World)(z4:Nat):List Bk:=[⟨w.heap.size,23,true,[i6 a,i6 b]⟩,⟨z4,23,true,[i6 (N:Int),i6 (S:Int)]⟩,⟨W6.heap.size,5,true,(ptw_v2)⟩]
@[simp] def ptw_b4(g10:Nat):List Bk:=[⟨w.heap.size,23,true,[i6 a,i6 b]⟩,⟨z4,23,true,[i6 (N:Int),i6 (S:Int)]⟩,⟨g10,38,true,[i6 kd,i6 (q:Int),sT da]⟩]
def ptw_Q:Exit->Act->World->Prop:=bodyPost Tryz.prog Tryz.f4 (fun e w'=>e=.returned (.bool true)∧Kept (fun _=>False) w w')
def ptw_I(m:Nat)(st:St)(W0:World):Prop:=
 ∃(i:Nat)(L:List ByteArray)(z:Nat),(m+i=MN∧L.length=MN∧∀j,j<i->L[j]?=some zer16)∧TwoE w.heap.size N S sb pa pb 0 (-30) (fun _ _=>zer16) W0∧OwnR W0 w.heap.size 9 1 (some ⟨g_m,0,none⟩) MN MN (strsV L)∧st=⟨[(1,.slice A n cp),(4,.bool false),(6,(pt z4 0)),(7,(pt pa 0)),(8,(pt pb 0)),(9,(pt sb 0)),(10,.slice (some ⟨g_m,0,none⟩) MN MN),(11,i6 (i:Int))],(ptw_b1 a b N S w z4),[],z⟩
def ptw_M(m:Nat)(st:St)(W0:World):Prop:=
 ∃(i:Nat)(T:Int)(L:List ByteArray)(z:Nat),(m+i=8∧-100<=T∧T+30<=200*(i:Int))∧TwoL w.heap.size N S sb pa pb i T L W0∧OwnR W0 w.heap.size 9 1 (some ⟨g_m,0,none⟩) MN MN (strsV L)∧st=⟨[(1,.slice A n cp),(4,.bool false),(6,(pt z4 0)),(7,(pt pa 0)),(8,(pt pb 0)),(9,(pt sb 0)),(10,.slice (some ⟨g_m,0,none⟩) MN MN),(12,i6 (i:Int))],(ptw_b1 a b N S w z4),[],z⟩
def ptw_y24s:List (Nat×Value):=[(1,.slice (some ⟨b1,o1,none⟩) n cp),(4,.bool false),(6,(pt z4 0)),(7,(pt pa 0)),(8,(pt pb 0)),(9,(pt sb 0)),(10,.slice (some ⟨g_m,0,none⟩) MN MN),(12,i6 (i:Int))]
def ptw_y24v(d:Option Nat):List (Option Value):=[some (.agg #[i6 (N:Int),i6 (S:Int)]),some (.slice (some ⟨b1,o1,none⟩) n cp),some (i6 (i:Int)),some (.pointer (some ⟨b1,o1+i*31,none⟩)),some (.agg (List.toArray (ptw_v1 x))),some (.agg #[i6 kd,i6 (q:Int),sT da]),some (.pointer (some ⟨(d.getD 0),0,none⟩)),some (.tuple #[])]
def ptw_y24F(d:Option Nat)(k:Nat):Bool:=([true,true,true,true,true,true,d.isSome,true]:List Bool)[k]?.getD true
def ptw_y24m(d:Option Nat):List (List Bk):=[(ptw_b1 a b N S w z4),(ptw_b2 a b N S kd q da w z4 d)]
abbrev ptw_y24X(W9:World)(c_:Nat)(d:Option Nat)(W_:World):Prop:=match c_ with|0=>(True)∧(∀g_,d=some g_->W9.heap.size<=g_∧Blk W_ g_ 38 [i6 0,i6 0,sT ⟨#[]⟩])|1=>(W9.heap.size<=d.getD 0)∧True|_=>True
def ptw_y24C(W9:World)(z4:Nat)(g_m:Nat)(J9:Act->World->Prop)(i_:Nat):Prop:=cY Tryz.prog Tryz.f4 [1,1,1,1,1,1,1,1,1,0,1,0,0,1,0,0,0] 126 [] (ptw_Q w) [.code ptw_n7,.blk 3,.code ptw_n8,.inv J9,.blk 2,.code ptw_n11] (ptw_y24s n cp pa pb sb MN i b1 o1 z4 g_m) [none,none,none,none,none,none,none,some 0] 1 (ptw_y24v n cp N S i b1 o1 x kd q da) ptw_y24F W9 (Turned (ptw_b1 a b N S w z4)) (ptw_y24m a b N S kd q da w z4) W9.heap.size (ptw_y24X W9) i_
def ptw_Z(m:Nat)(st:St)(W0:World):Prop:=
 ∃(i:Nat)(z:Nat),(m+i=S)∧TwoA w.heap.size N S sb pa pb W0∧st=⟨[(4,.bool false),(6,(pt z4 0)),(9,(pt sb 0)),(18,i6 (i:Int))],(ptw_b1 a b N S w z4),[],z⟩
end
theorem two_any(a b:Int)(A:Option Addr)(n cp:Nat)(acts:Nat->Act17)(ha:-9223372036854775808<=a∧a<=9223372036854775807)(hb:-9223372036854775808<=b∧b<=9223372036854775807)(w:World)(HA:Acts17At w A n acts) :
  Calls Tryz.prog 4 #[.agg #[i6 a,i6 b],.slice A n cp] w (fun e w'=>e=.returned (.bool true)∧Kept (fun _=>False) w w'):=by
 refine cH (S:=(fun _=>False)) (n:=126) Tryz.func4 (MemOk.none w _) ?_
 have hpa:=pickZ_bd a 4 (by omega)
 have hpb:=pickZ_bd b 8 (by omega)
 obtain⟨N,hNe⟩:∃N:Nat,3+pickZ a 4=(N:Int):=⟨(3+pickZ a 4).toNat,by omega⟩
 obtain⟨S,hSe⟩:∃S:Nat,1+pickZ b 8=(S:Int):=⟨(1+pickZ b 8).toNat,by omega⟩
 have hN:3<=N∧N<=6:=by omega
 have hS:1<=S∧S<=8:=by omega
 have hg:3<=(N:Int)∧(N:Int)<=6∧1<=(S:Int)∧(S:Int)<=8:=by omega
 obtain⟨MN,hMe⟩:∃MN,S*(N-1)=MN:=⟨_,rfl⟩
 have hMz:(S:Int)*((N:Int)-1)=(MN:Int):=by rw[<-hMe,Int.natCast_mul,Int.natCast_sub (by omega)]; rfl
 have hM1:1*2<=MN:=hMe▸Nat.mul_le_mul hS.1 (by omega)
 have hM2:MN<=8*5:=hMe▸Nat.mul_le_mul hS.2 (by omega)
 refine hgS 10 (dz 2 0) [1,2,4] [] [] [.ops [1,0] [0,1],.code [1,1]] [⟨w.heap.size,23,true,[i6 a,i6 b]⟩] [] (w.heap.size+1) ?_
 refine hcV (w:=w) (S':=(LawL (w.heap.size) w)) (Y:=Unit) (fun _=>.bool true) (fun _=>[⟨w.heap.size,23,true,[i6 a,i6 b]⟩]) (fun _ W_=>True) (show _=some (6,[],some 19,[])by kernel_rfl) trivial (fun wx hm=>?_) (fun y_ W1 hX1 hm1=>?_)
 ·have hm0_:=(hm.wide (S':=LawL (w.heap.size) w) (fun _ h=>h.elim))
  refine(awake_law (lo:=w.heap.size) wx).mono fun e w' hq_=>?_
  obtain⟨he_,h3_⟩:=hq_
  exact⟨(),he_,trivial,hm0_.offA (fun _ h=>h) h3_ (lawL_up hm0_.kept) (off_tys hm (es:=TL17) (fun _ h=>h.1) rfl)⟩
 refine hgS 8 (dz 2 2097280) [1,4,5,20] [] [(w.heap.size,0,2)] [.ops [1,1,0] [1,2,3],.code [1,1,1]] [⟨w.heap.size,23,true,[i6 a,i6 b]⟩] [] W1.heap.size ?_
 refine hcp (.agg #[i6 (N:Int),i6 (S:Int)]) 7 [.agg #[i6 a,i6 b]] (some 21) [] trivial rfl (fun wx hm=>by
  have h:=fit5 a b ha hb wx
  rw[hNe,hSe]at h
  exact h) fun z4 hz4=>?_
 replace hz4:W1.heap.size<=z4:=hz4
 refine hgS 9 (dz 3 0x200180200180) [1,4,5,6,22] [] [(z4,0,2),(z4,0,2)] [.ops [1,1,1,0] [1,2],.code [1,1,1,1]] (ptw_b1 a b N S w z4) [] (z4+1) ?_
 refine hcV (w:=w) (S':=(LawL (w.heap.size) w)) (Y:=Nat) (fun pa=>(pt pa 0)) (fun pa=>(ptw_b1 a b N S w z4)) (fun pa W_=>NewA w.heap.size N S pa W_) (show _=some (8,[.agg #[i6 (N:Int),i6 (S:Int)],i6 0,i6 1],some 23,[])by kernel_rfl) trivial (fun wx hm=>?_) (fun pa W2 hX2 hm2=>?_)
 ·have hm0_:=(MemOk.bck hm1 hm)
  refine(new_a hN hS wx hm0_.kept.size).mono fun e w' hq_=>?_
  obtain⟨pa,he_,nf_q,h3_⟩:=hq_
  exact⟨pa,he_,nf_q,hm0_.offA (fun _ h=>h) h3_ (lawL_up hm0_.kept) (off_tys hm (es:=TL17) (fun _ h=>h.1) rfl)⟩
 have f2_q:=hX2
 refine hgS 8 (dz 2 2097536) [1,4,5,6,7,24] [] [(z4,0,2)] [.ops [1,1,1,1,0] [1,2],.code [1,1,1,1,1]] (ptw_b1 a b N S w z4) [] W2.heap.size ?_
 refine hcV (w:=w) (S':=(LawL (w.heap.size) w)) (Y:=Nat) (fun pb=>(pt pb 0)) (fun pb=>(ptw_b1 a b N S w z4)) (fun pb W_=>NewB w.heap.size N S pa pb W_) (show _=some (8,[.agg #[i6 (N:Int),i6 (S:Int)],i6 1,i6 1],some 25,[])by kernel_rfl) trivial (fun wx hm=>?_) (fun pb W3 hX3 hm3=>?_)
 ·have hm0_:=(MemOk.bck hm2 hm)
  have f_q:=(NewA.stb _ _ _ _ f2_q hm.kept (turned_tys hm2) rfl)
  refine(new_b hN hS wx f_q).mono fun e w' hq_=>?_
  obtain⟨pb,he_,nf_q,h3_⟩:=hq_
  exact⟨pb,he_,nf_q,hm0_.offA (fun _ h=>h) h3_ (lawL_up hm0_.kept) (off_tys hm (es:=TL17) (fun _ h=>h.1) rfl)⟩
 have f3_q:=hX3
 refine hgS 24 (dz 13 0x20018040004000000) [1,4,6,7,8,36] (rE 7 fF) [(z4,0,2)] [.ops [1,1,1,1,1,1,0] [1,2],.code [1,1,1,1,1,1,1]] (ptw_b1 a b N S w z4) [] W3.heap.size ?_
 refine hcV (w:=w) (S':=(LawL (w.heap.size) w)) (Y:=Nat) (fun sb=>(pt sb 0)) (fun sb=>(ptw_b1 a b N S w z4)) (fun sb W_=>TwoE w.heap.size N S sb pa pb 0 (-30) (fun _ _=>zer16) W_) (show _=some (9,[.agg #[i6 (N:Int),i6 (S:Int)]],some 37,[])by kernel_rfl) trivial (fun wx hm=>?_) (fun sb W4 hX4 hm4=>?_)
 ·have hm0_:=(MemOk.bck hm3 hm)
  have f_q:=(NewB.stb _ _ _ _ f3_q hm.kept (turned_tys hm3) rfl)
  refine(new_s hN hS wx f_q).mono fun e w' hq_=>?_
  obtain⟨sb,he_,nf_q,h3_⟩:=hq_
  exact⟨sb,he_,nf_q,hm0_.offA (fun _ h=>h) h3_ (lawL_up hm0_.kept) (off_tys hm (es:=TL17) (fun _ h=>h.1) rfl)⟩
 have f4_q:=hX4
 refine hgS 8 (dz 2 2097536) [1,4,6,7,8,9,38] [] [(z4,0,2)] [.ops [1,1,1,1,1,1,1,0] [1,2,3],.code [1,1,1,1,1,1,1,1]] (ptw_b1 a b N S w z4) [] W4.heap.size ?_
 refine hcp (i6 (MN:Int)) 10 [.agg #[i6 (N:Int),i6 (S:Int)]] (some 39) [] trivial rfl (fun wx hm=>by
  have h:=ref5Blocks (N:Int) (S:Int) hg wx
  rw[hMz]at h
  exact h) fun z12 hz12=>?_
 replace hz12:W4.heap.size<=z12:=hz12
 refine hgE 3 [] [1,4,6,7,8,9,39] [] [] [.ops [1,1,1,1,1,1,1,0] [2,3],.code [1,1,1,1,1,1,1,1]] ⟨[(1,.slice A n cp),(4,.bool false),(6,(pt z4 0)),(7,(pt pa 0)),(8,(pt pb 0)),(9,(pt sb 0)),(39,i6 (MN:Int))],(ptw_b1 a b N S w z4),[],z12⟩ ?_
 refine holds_opV (w:=w) (S':=LawL (w.heap.size) w) (Y:=Nat) (dst:=(some 40)) (x:=Instr.makeSlice 32 (i6 (MN:Int)) (i6 (MN:Int))) (fun g_m=>.slice (some ⟨g_m,0,none⟩) MN MN) (ptw_b1 a b N S w z4) (fun g_m W_=>TwoE w.heap.size N S sb pa pb 0 (-30) (fun _ _=>zer16) W_∧OwnR W_ w.heap.size 9 1 (some ⟨g_m,0,none⟩) MN MN (strsV (List.replicate MN ⟨#[]⟩))) (fun g_m=>[(40,.slice (some ⟨g_m,0,none⟩) MN MN),(1,.slice A n cp),(4,.bool false),(6,(pt z4 0)),(7,(pt pa 0)),(8,(pt pb 0)),(9,(pt sb 0)),(39,i6 (MN:Int))]) (by kernel_rfl) (by kernel_rfl) (fun _=>rfl) (fun wx hm=>?_) (fun g_m W5 hX5 hm5=>?_)
 ·have hm0_:=(MemOk.bck hm4 hm)
  have f_q:=(TwoE.stb _ _ _ _ f4_q hm.kept (turned_tys hm4) rfl)
  obtain⟨w',h1,h2,h3⟩:=run_newOwn (P:=Tryz.prog) wx 32 9 (sT ⟨#[]⟩) 1 MN 16 _ (by kernel_rfl) (by kernel_rfl) (made_strs MN) (by simp[strsV]) (by decide) (by omega)
  exact⟨_,w',h1,⟨(TwoE.stb _ _ _ [] f_q h3 (fun _ h=>h.elim) rfl),(h2.below hm0_.kept.size)⟩,hm0_.offA (fun _ h=>h) h3 (fun _ h=>h.elim) (fun _ _ h=>h)⟩
 obtain⟨f5_q,o5_m⟩:=hX5
 refine hgE 11 (dz 2 0) [1,4,6,7,8,9,10,11] [] [] [.code [1,1,1,1,1,1,1,1,0,1,0],.blk 0,.code ptw_n12] ⟨[(1,.slice A n cp),(4,.bool false),(6,(pt z4 0)),(7,(pt pa 0)),(8,(pt pb 0)),(9,(pt sb 0)),(10,.slice (some ⟨g_m,0,none⟩) MN MN),(11,i6 0)],(ptw_b1 a b N S w z4),[],W5.heap.size⟩ ?_
 refine holds_loopW (w:=w) (S':=LawL (w.heap.size) w) (ptw_I a b A n cp pa pb sb N S MN w z4 g_m) MN (by kernel_rfl) (fun W0 hm=>⟨⟨0,List.replicate MN ⟨#[]⟩,_,⟨rfl,List.length_replicate,fun j hj=>absurd hj (Nat.not_lt_zero _)⟩,(TwoE.stb _ _ _ _ f5_q hm.kept (turned_tys hm5) rfl),(o5_m.keptT hm.kept (turned_tys hm5) rfl),rfl⟩,(MemOk.bck hm5 hm)⟩) ?_
 rintro m _ W6 ⟨i,L,z,hh6,f6_q,o6_m,rfl⟩ hm6 J6 hJ6
 obtain⟨hmi,hLl,hLz⟩:=hh6
 by_cases h1:i<MN
 ·skip
  refine hgE 19 (dz 8 65536) [1,4,6,7,8,9,10,11,47,48,49] [dT (((i:Int):Int)<(MN:Int))] [] [.ops [1,1,1,1,1,1,1,1,0,1,0,0,1,0,0] [3,4,5],.blk 1,.code [1,1,1,1,1,1,1,1,0,1,0,0,1,1],.inv J6,.blk 0,.code ptw_n12] ⟨[(1,.slice A n cp),(4,.bool false),(6,(pt z4 0)),(7,(pt pa 0)),(8,(pt pb 0)),(9,(pt sb 0)),(10,.slice (some ⟨g_m,0,none⟩) MN MN),(11,i6 (i:Int)),(47,.slice (some ⟨g_m,0,none⟩) MN MN),(48,i6 (i:Int)),(49,.slice (some ⟨W6.heap.size,0,none⟩) 16 16)],(ptw_b3 a b N S w W6 z4),[],W6.heap.size+1⟩ ?_
  refine holds_opR (dst:=(some 50)) (x:=convert 34 9 (.slice (some ⟨W6.heap.size,0,none⟩) 16 16)) (sT zer16) (by kernel_rfl) (by kernel_rfl) rfl (fun wx hm=>?_) ?_
  ·exact run_bytesAt (P:=Tryz.prog) wx 34 9 5 _ _ _ _ _ (List.replicate 16 0) [] [] (by kernel_rfl) (by kernel_rfl) (by kernel_rfl) (hm.at_ 2 rfl) rfl rfl byts16z
  refine hgE 4 [oh2] [1,4,6,7,8,9,10,11,50,51] [oE ((0:Int)<=(i:Int)∧(i:Int)<((MN:Nat):Int))] [] [.ops [1,1,1,1,1,1,1,1,0,1,0,0,1,0,0] [5],.blk 1,.code [1,1,1,1,1,1,1,1,0,1,0,0,1,1],.inv J6,.blk 0,.code ptw_n12] ⟨[(1,.slice A n cp),(4,.bool false),(6,(pt z4 0)),(7,(pt pa 0)),(8,(pt pb 0)),(9,(pt sb 0)),(10,.slice (some ⟨g_m,0,none⟩) MN MN),(11,i6 (i:Int)),(50,sT zer16),(51,.pointer (some ⟨g_m,0+i*1,none⟩))],(ptw_b3 a b N S w W6 z4),[],W6.heap.size+1⟩ ?_
  refine holds_opSU (w:=w) (S':=(LawL (w.heap.size) w)) (x:=Instr.storeAt 9 (.pointer (some ⟨g_m,0+i*1,none⟩)) (sT zer16)) (fun W_=>TwoE w.heap.size N S sb pa pb 0 (-30) (fun _ _=>zer16) W_∧OwnR W_ w.heap.size 9 1 (some ⟨g_m,0,none⟩) MN MN (strsV (L.set i zer16))) (by kernel_rfl) (by kernel_rfl) (fun wx hm=>?_) (fun W7 hX7 hm7=>?_)
  ·have hm0_:=(MemOk.bck hm6 hm)
   have f_q:=(TwoE.stb _ _ _ _ f6_q hm.kept (turned_tys hm6) rfl)
   have o_m:=(o6_m.keptT hm.kept (turned_tys hm6) rfl)
   obtain⟨w',h1,h2,h3⟩:=own_store (t:=9) (v:=sT zer16) o_m (i) h1 (by kernel_rfl) rfl rfl
   rw[show(strsV L).set i (sT zer16)=strsV (L.set i zer16)by simp[strsV]]at h2
   exact⟨w',h1,⟨(TwoE.stb _ _ _ _ f_q h3 (own_tys o_m) rfl),h2⟩,hm0_.offA (fun _ h=>h) h3 (fun y hy=>.inr (o_m.own y hy).1) (off_tys hm (own_tys o_m) rfl)⟩
  obtain⟨f7_q,o7_m⟩:=hX7
  refine holds_go (f:=10) (hs:=[oh0,oh2,oh0]) [1,4,6,7,8,9,10,11] [true,true,false] (show _=some (Res.mk [inR .i64 (((i:Int)+1))] (dupR []) [.inv J6,.blk 0,.code ptw_n12] ⟨[(1,.slice A n cp),(4,.bool false),(6,(pt z4 0)),(7,(pt pa 0)),(8,(pt pb 0)),(9,(pt sb 0)),(10,.slice (some ⟨g_m,0,none⟩) MN MN),(11,i6 ((i:Int)+1))],(ptw_b1 a b N S w z4),[],W7.heap.size⟩)by kernel_rfl) ⟨in64 (by omega),trivial⟩ ?_
  rw[<-cast_succ i]
  intro a_ w9 hf hm
  exact hJ6 (m-1) _ a_ w9 (by omega) ⟨i+1,L.set i zer16,_,⟨by omega,by rw[List.length_set]; exact hLl,fun j hj=>by
    by_cases e:j=i
    ·subst e; exact List.getElem?_set_self (by omega)
    ·rw[List.getElem?_set_ne (Ne.symm e)]; exact hLz j (by omega)⟩,(TwoE.stb _ _ _ _ f7_q hm.kept (turned_tys hm7) rfl),(o7_m.keptT hm.kept (turned_tys hm7) rfl),rfl⟩ hf (MemOk.bck hm7 hm)
 refine hgE 19 (dz 6 0) ptw_n13 [dF (((i:Int):Int)<(MN:Int))] [] [.code [1,1,1,1,1,1,1,1,1,0,1,0],.blk 2,.code ptw_n11] ⟨[(1,.slice A n cp),(4,.bool false),(6,(pt z4 0)),(7,(pt pa 0)),(8,(pt pb 0)),(9,(pt sb 0)),(10,.slice (some ⟨g_m,0,none⟩) MN MN),(12,i6 0)],(ptw_b1 a b N S w z4),[],W6.heap.size⟩ ?_
 have hLr:L=List.replicate MN zer16:=by
  apply List.ext_getElem?
  intro j
  by_cases hj:j<MN
  ·rw[hLz j (by omega),List.getElem?_replicate,if_pos hj]
  ·rw[List.getElem?_eq_none (by omega),List.getElem?_eq_none (by rw[List.length_replicate]; omega)]
 have f8_q:TwoL w.heap.size N S sb pa pb 0 (-30) L W6:=⟨_,by rw[hLr,<-hMe]; exact mdl_new hN,f6_q⟩
 clear hLr hLz hmi
 refine holds_loopW (w:=w) (S':=LawL (w.heap.size) w) (ptw_M a b A n cp pa pb sb N S MN w z4 g_m) 8 (by kernel_rfl) (fun W0 hm=>⟨⟨0,(-30),L,_,⟨rfl,by omega,by omega⟩,(TwoL.stb _ _ _ _ f8_q hm.kept (turned_tys hm6) rfl),(o6_m.keptT hm.kept (turned_tys hm6) rfl),rfl⟩,(MemOk.bck hm6 hm)⟩) ?_
 rintro m _ W9 ⟨i,T,L,z,hh9,f9_q,o9_m,rfl⟩ hm9 J9 hJ9
 obtain⟨hmi,hT1,hT2⟩:=hh9
 have hLl:=TwoL.len f9_q
 rw[hMe]at hLl
 by_cases h1:i<n∧i<8
 ·skip
  obtain⟨h1a,h1b⟩:=h1
  obtain⟨hok,b1,o1,hA1_,hb1lt,hb1c⟩:=HA i h1a
  subst hA1_
  obtain⟨x,hx⟩:∃x,acts i=x:=⟨_,rfl⟩
  rw[hx]at hok hb1c
  obtain⟨kd,hkd⟩:∃kd,opK x=kd:=⟨_,rfl⟩
  obtain⟨da,hda⟩:∃da,opD x=da:=⟨_,rfl⟩
  obtain⟨q,hqe⟩:∃q:Nat,opA (S:Int) (N:Int) x=(q:Int):=by
   have p1:=pickZ_bd (x.v 2) (S:Int) (by omega)
   have p2:=pickZ_bd (x.v 2) ((S:Int)*((N:Int)-1)) (by omega)
   refine⟨(opA (S:Int) (N:Int) x).toNat,?_⟩
   unfold opA
   split<;>omega
  refine hgE 20 (dz 9 5118099456) ptw_n13 (rE 3 (dT (((i:Int):Int)<(n:Int)))++[dT (((i:Int):Int)<8)]) [] [.code [1,1,1,1,1,1,1,1,1,0,1,0,0,1,0,0,0],.code ptw_n7,.blk 3,.code ptw_n8,.inv J9,.blk 2,.code ptw_n11] ⟨[(1,.slice (some ⟨b1,o1,none⟩) n cp),(4,.bool false),(6,(pt z4 0)),(7,(pt pa 0)),(8,(pt pb 0)),(9,(pt sb 0)),(10,.slice (some ⟨g_m,0,none⟩) MN MN),(12,i6 (i:Int))],(ptw_b1 a b N S w z4),[],W9.heap.size⟩ ?_
  have hlt10_0:w.heap.size<W9.heap.size:=(hm9.at_ 0 rfl).lt
  have hlt10_1:z4<W9.heap.size:=(hm9.at_ 1 rfl).lt
  have ptw_y24_X:StayY W9 (Turned (ptw_b1 a b N S w z4)) (ptw_y24m a b N S kd q da w z4) (ptw_y24X W9):=by
   intro c_ d wx w' bk hb hm hx hk
   match c_,hb,hx with
   |0,hb,hx=>
    obtain rfl:=Option.some.inj hb
    refine⟨trivial,fun g_ hg_=>⟨(hx.2 g_ hg_).1,(hx.2 g_ hg_).2.kept hk (fun⟨b,hb,hr,he⟩=>?_)⟩⟩
    have h9:=(hx.2 g_ hg_).1
    simp at hb
    rcases hb with rfl|rfl<;>simp at hr he<;>omega
   |1,hb,hx=>
    obtain rfl:=Option.some.inj hb
    exact hx
   |c_+2,hb,hx=>exact trivial
  have ptw_y24_c4:ptw_y24C a b n cp pa pb sb N S MN i b1 o1 x kd q da w W9 z4 g_m J9 4:=certY_opR (B:=0) (x:=fun d=>Instr.loadAt 47 (.pointer (some ⟨b1,o1+i*31,none⟩))) (fun d=>.agg (List.toArray (ptw_v1 x))) (by kernel_rfl) (.inr ⟨7,by kernel_rfl,List.mem_of_getElem? (i:=7) (by kernel_rfl)⟩) (fun d=>by kernel_rfl) (fun d=>by kernel_rfl) (fun d=>by kernel_rfl) (fun d=>by kernel_rfl) (fun c_ d wx bk hc hb hm hx=>by
    obtain rfl:c_=0:=by omega
    exact run_loadSC (vs:=Act17.cells x) (by kernel_rfl) (by kernel_rfl) (fun j v hj=>act_cellL (MemOk.bck hm9 hm).kept (fun _ h=>h.2) hb1lt hb1c hj))
  have ptw_y24_c5:ptw_y24C a b n cp pa pb sb N S MN i b1 o1 x kd q da w W9 z4 g_m J9 5:=certY_call (B:=1) (f:=13) (args:=fun d=>[.agg #[i6 (N:Int),i6 (S:Int)],.agg (List.toArray (ptw_v1 x))]) (ob:=fun d=>[]) (fun d=>.agg #[i6 kd,i6 (q:Int),sT da]) (by kernel_rfl) (.inl rfl) (fun d=>by kernel_rfl) (fun d=>by kernel_rfl) (fun d=>by kernel_rfl) (fun d=>trivial) (fun c_ d wx bk hc hb hm hx=>(by
    have h_:=op_any (N:Int) (S:Int) x hg hok wx
    rw[hkd,hqe,hda]at h_
    exact h_)) ptw_y24_X
  have ptw_y24_c6:ptw_y24C a b n cp pa pb sb N S MN i b1 o1 x kd q da w W9 z4 g_m J9 6:=cyN 0 38 [i6 0,i6 0,sT ⟨#[]⟩] (fun _ g=>some g) (fun g=>(pt g 0)) (fun c_ d wx w' bk hcB hb hm hx hk hz hBl=>by
   have hs:=ptw_y24_X c_ d wx w' bk hb hm hx hk
   match c_,hb,hx,hs,hcB with
   |0,hb,hx,hs,hcB=>exact⟨hs.1,(fun g_ hg_=>by obtain rfl:=Option.some.inj hg_; exact⟨hz,hBl⟩)⟩
   |c_+1,hb,hx,hs,hcB=>exact absurd hcB (by omega))
  have ptw_y24_c7:ptw_y24C a b n cp pa pb sb N S MN i b1 o1 x kd q da w W9 z4 g_m J9 7:=cyS (s:=0) (x:=fun d=>Instr.storeAt 38 (.pointer (some ⟨(d.getD 0),0,none⟩)) (.agg #[i6 kd,i6 (q:Int),sT da])) (fun(d:Option Nat)(_:Unit)=>d) (fun d wx bk hb hm hx hcame=>by
   obtain rfl:=Option.some.inj hb
   obtain⟨g_,rfl⟩:∃g_,d=some g_:=Option.isSome_iff_exists.1 (hcame 6 (List.mem_of_getElem? (i:=0) (by kernel_rfl)) (dst_ne (k:=13) (by kernel_rfl)))
   obtain⟨hzg,hBg⟩:=hx.2 g_ rfl
   obtain⟨w',h1,hB1,hk1,hz1⟩:=store_to (P:=Tryz.prog) (t:=38) (v:=.agg #[i6 kd,i6 (q:Int),sT da]) (by kernel_rfl) hBg rfl (by show 0+3<=3; omega) (ones_all rfl) rfl
   exact⟨(),w',h1,rfl,⟨hzg,trivial⟩,hm.adopt (g:=g_) hk1 hB1 (by omega) (fun b hb e=>by simp at hb; rcases hb with rfl|rfl<;>dsimp only at e<;>omega),Nat.le_of_eq hz1.symm⟩)
  have ptw_y24_R:∀e_∈(rZsY 1 [1,2]++[rY 0 1 1 0 2 z4,⟨3,1,oh2,fun _=>[oE ((0:Int)<=(i:Int)∧(i:Int)<((n:Nat):Int))],fun _=>[]⟩]:List (RegY (Option Nat))),ptw_y24C a b n cp pa pb sb N S MN i b1 o1 x kd q da w W9 z4 g_m J9 e_.i:=certsY_reg _ ptw_y24_X (fun d=>by kernel_rfl) (by kernel_rfl) (fun d sz=>by kernel_rfl)
  have ptw_y24_A:∀i_,i_<8->ptw_y24C a b n cp pa pb sb N S MN i b1 o1 x kd q da w W9 z4 g_m J9 i_:=allY (l:=[4,5,6,7]) (by kernel_rfl) ptw_y24_R ⟨ptw_y24_c4,ptw_y24_c5,ptw_y24_c6,ptw_y24_c7,trivial⟩
  refine holds_mixY (Δ:=Option Nat) (Turned (ptw_b1 a b N S w z4)) (ptw_y24v n cp N S i b1 o1 x kd q da) ptw_y24F (ptw_y24m a b N S kd q da w z4) (ptw_y24X W9) [1,4,6,7,8,9,10,12,13] (fun d=>[(1,.slice (some ⟨b1,o1,none⟩) n cp),(4,.bool false),(6,(pt z4 0)),(7,(pt pa 0)),(8,(pt pb 0)),(9,(pt sb 0)),(10,.slice (some ⟨g_m,0,none⟩) MN MN),(12,i6 (i:Int)),(13,.pointer (some ⟨(d.getD 0),0,none⟩))]) (fun d=>(ptw_b2 a b N S kd q da w z4 d)) none (fun _ h=>h) (by kernel_rfl) (by kernel_rfl) (by kernel_rfl) (fun wx hm=>⟨trivial,fun _ h=>by cases h⟩) (by kernel_rfl) ptw_y24_A (fun d=>by kernel_rfl) (fun d=>by kernel_rfl) (fun d W10 hfin hX10 hz10 hm10=>?_)
  obtain⟨g10,rfl⟩:∃g,d=some g:=Option.isSome_iff_exists.1 (hfin 6 (Nat.le_of_ble_eq_true (by kernel_rfl)) (dst_ne (k:=13) (by kernel_rfl)))
  replace hX10:W9.heap.size<=g10:=hX10.1
  replace hm10:MemOk W9 ((Turned (ptw_b1 a b N S w z4))) (ptw_b4 a b N S kd q da w z4 g10) [] W10.heap.size W10:=hm10
  change Holds _ _ _ _ W10 (Turned (ptw_b4 a b N S kd q da w z4 g10)) _ [.code ptw_n7,.blk 3,.code ptw_n8,.inv J9,.blk 2,.code ptw_n11] ⟨[(1,.slice (some ⟨b1,o1,none⟩) n cp),(4,.bool false),(6,(pt z4 0)),(7,(pt pa 0)),(8,(pt pb 0)),(9,(pt sb 0)),(10,.slice (some ⟨g_m,0,none⟩) MN MN),(12,i6 (i:Int)),(13,(pt g10 0))],(ptw_b4 a b N S kd q da w z4 g10),[],W10.heap.size⟩
  have f10_q:TwoL w.heap.size N S sb pa pb i T L W10:=TwoL.stb _ _ _ _ f9_q hm10.kept (turned_tys hm9) rfl
  have o10_m:OwnR W10 w.heap.size 9 1 (some ⟨g_m,0,none⟩) MN MN (strsV L):=o9_m.keptT hm10.kept (turned_tys hm9) rfl
  replace hm10:=MemOk.bck hm9 hm10
  refine hgS 15 (dz 6 131072) [1,4,6,7,8,9,10,12,13,14,72] [oE ((0:Int)<=(i:Int)∧(i:Int)<((n:Nat):Int))] [] [.ops ptw_n2 [4,5,6],.code ptw_n3,.code ptw_n6,.blk 3,.code ptw_n8,.inv J9,.blk 2,.code ptw_n11] (ptw_b4 a b N S kd q da w z4 g10) [] W10.heap.size ?_
  have hx3:=hok.v 3
  refine holds_wins [⟨b1,o1+i*31,x.cells⟩] (fun _ y hy=>?_) ?_
  ·simp only[List.mem_cons,List.not_mem_nil,or_false]at hy
   subst hy
   exact⟨fun h=>absurd (turned_lo hm10 h) (Nat.not_le.2 hb1lt),Nat.lt_of_lt_of_le hb1lt hm10.kept.size,fun j v hj=>act_cellL (hm10).kept (fun _ h=>h.2) hb1lt hb1c hj⟩
  refine hgS 4 [⟨false,0,[⟨true,0,3,1⟩]⟩] [1,4,6,7,8,9,10,12,13,14,73] [] [(b1,o1+i*31+3,1)] [.ops ptw_n2 [5,6],.code ptw_n3,.code ptw_n6,.blk 3,.code ptw_n8,.inv J9,.blk 2,.code ptw_n11] (ptw_b4 a b N S kd q da w z4 g10) [⟨b1,o1+i*31,(ptw_v1 x)⟩] W10.heap.size ?_
  refine hcq (i6 (pickZ (x.v 3) 2)) 11 [i6 (x.v 3),i6 2] (some 74) [] trivial rfl (fun wx hm=>pick17 (x.v 3) 2 _ rfl wx (by omega) (by omega) (by omega)) fun z27 hz27=>?_
  refine hgE 5 [oh0] [1,4,6,7,8,9,10,12,13,14,75] [] [] [.code ptw_n3,.code ptw_n6,.blk 3,.code ptw_n8,.inv J9,.blk 2,.code ptw_n11] ⟨[(1,.slice (some ⟨b1,o1,none⟩) n cp),(4,.bool false),(6,(pt z4 0)),(7,(pt pa 0)),(8,(pt pb 0)),(9,(pt sb 0)),(10,.slice (some ⟨g_m,0,none⟩) MN MN),(12,i6 (i:Int)),(13,(pt g10 0)),(14,(pt pa 0)),(75,.bool ((pickZ (x.v 3) 2)==1))],(ptw_b4 a b N S kd q da w z4 g10),[⟨b1,o1+i*31,(ptw_v1 x)⟩],z27⟩ ?_
  refine holds_wins [] (fun _ _ h=>by cases h) ?_
  have HX:∀pp:Nat,(pp=pa∨pp=pb)->Holds [] Tryz.prog (bodyOf Tryz.f4) 126 W10 (Turned (ptw_b4 a b N S kd q da w z4 g10)) (ptw_Q w) [.ops ptw_n4 ptw_n1,.code ptw_n5,.blk 3,.code ptw_n8,.inv J9,.blk 2,.code ptw_n11] ⟨[(1,.slice (some ⟨b1,o1,none⟩) n cp),(4,.bool false),(6,(pt z4 0)),(7,(pt pa 0)),(8,(pt pb 0)),(9,(pt sb 0)),(10,.slice (some ⟨g_m,0,none⟩) MN MN),(12,i6 (i:Int)),(13,(pt g10 0)),(14,(pt pp 0))],(ptw_b4 a b N S kd q da w z4 g10),[],z27⟩:=by
   intro pp hpp
   refine hgE 8 (dz 5 12887531520) [1,4,6,7,8,9,10,12,13,78,79,81,82] [n64 ((200*(i:Int)))] [(g10,0,3)] [.ops ptw_n4 [5,6,7,8,9,10,11,12],.code ptw_n5,.blk 3,.code ptw_n8,.inv J9,.blk 2,.code ptw_n11] ⟨[(1,.slice (some ⟨b1,o1,none⟩) n cp),(4,.bool false),(6,(pt z4 0)),(7,(pt pa 0)),(8,(pt pb 0)),(9,(pt sb 0)),(10,.slice (some ⟨g_m,0,none⟩) MN MN),(12,i6 (i:Int)),(13,(pt g10 0)),(78,(pt sb 0)),(79,(pt pp 0)),(81,i6 (200*(i:Int))),(82,.agg #[i6 kd,i6 (q:Int),sT da])],(ptw_b4 a b N S kd q da w z4 g10),[],z27⟩ ?_
   refine holds_callV (w:=w) (S':=(LawL (w.heap.size) w)) (Y:=ByteArray) (fun v=>.tuple #[i6 0,sT v,.bool true]) (fun v=>(ptw_b4 a b N S kd q da w z4 g10)) (fun v W_=>TwoL w.heap.size N S sb pa pb ((i:Int)+1) (200*(i:Int)) (if kd=2 then L.set q da else L) W_∧((kd=1∨kd=2∨kd=3)∧(kd≠3->q<L.length)∧(kd=1->L[q]?=some v))∧OwnR W_ w.heap.size 9 1 (some ⟨g_m,0,none⟩) MN MN (strsV L)) (fun v=>[(83,.tuple #[i6 0,sT v,.bool true]),(1,.slice (some ⟨b1,o1,none⟩) n cp),(4,.bool false),(6,(pt z4 0)),(7,(pt pa 0)),(8,(pt pb 0)),(9,(pt sb 0)),(10,.slice (some ⟨g_m,0,none⟩) MN MN),(12,i6 (i:Int)),(13,(pt g10 0)),(78,(pt sb 0)),(79,(pt pp 0)),(81,i6 (200*(i:Int))),(82,.agg #[i6 kd,i6 (q:Int),sT da])]) (show _=some (23,[(pt sb 0),(pt pp 0),i6 (200*(i:Int)),.agg #[i6 kd,i6 (q:Int),sT da]],some 83,[])by kernel_rfl) trivial (fun _=>rfl) (fun wx hm=>?_) (fun v W11 hX11 hm11=>?_)
   ·have hm0_:=(MemOk.bck hm10 hm)
    have f_q:=(TwoL.stb _ _ _ _ f10_q hm.kept (turned_tys hm10) rfl)
    have o_m:=(o10_m.keptT hm.kept (turned_tys hm10) rfl)
    refine(op_two hpp hkd hqe hda hN hS (by omega) (by omega) wx f_q).mono fun e w' hq_=>?_
    obtain⟨v,he_,nf_q,nf_v,h3_⟩:=hq_
    exact⟨v,he_,⟨nf_q,nf_v,(o_m.keptT h3_ (fun _ h=>h.1) rfl)⟩,hm0_.offA (fun _ h=>h) h3_ (lawL_up hm0_.kept) (off_tys hm (es:=TL17) (fun _ h=>h.1) rfl)⟩
   obtain⟨f11_q,f11_v,o11_m⟩:=hX11
   obtain⟨hkb,hql,hqv⟩:=f11_v
   rcases hkb with h3|h3|h3
   ·skip
    have hq1:=hql (by omega)
    have f12_q:TwoL w.heap.size N S sb pa pb ((i+1:Nat):Int) (200*(i:Int)) L W11:=by
      have h_:=f11_q
      rw[if_neg (by omega)]at h_
      rw[Int.natCast_add]
      exact h_
    refine holds_wins [⟨g_m,0+q*1,[sT v]⟩] (fun _ y hy=>?_) ?_
    ·obtain rfl:=List.mem_singleton.1 hy
     refine⟨fun h=>tysIn_not rfl (o11_m.ty g_m ⟨_,rfl,rfl⟩) (turned_tys hm11 _ h),(o11_m.own g_m ⟨_,rfl,rfl⟩).2,fun j u hj=>?_⟩
     match j,hj with
     |0,hj=>cases hj; exact(by have h_:=own_cell o11_m (j:=q) (v:=sT v) (by simp[strsV,hqv h3]); simpa using h_)
    refine holds_go (f:=51) (hs:=[oh0,oh0,oh0,oh0,oh0,oh0,oh0,oh0,oh0,oh0,oh0,oh0,⟨false,3,[]⟩,oh0,oh0,(oA 2 0 1),oh0,oh0,oh1,oh1,oh1,⟨true,0,[⟨false,2,1,1⟩]⟩,⟨true,1,[]⟩,⟨true,0,[⟨true,0,0,1⟩]⟩,oh1,oh3,⟨false,3,[]⟩,oh0,oh0,(oA 2 0 1),oh0,oh0,oh0,oh2,oh0]) ptw_n13 [true,true,false] (show _=some (Res.mk [false=false,false=false,false=false,false=false,false=false,false=false,false=false,(kd==1)=true,(kd==1)=true,(kd==1)=true,(kd==1)=true,(kd==1)=true,(0:Int)<=(q:Int)∧(q:Int)<((MN:Nat):Int),(kd==1)=true,(kd==1)=true,false=false,(kd==1)=true,false=false,(!(ByteArray.toList v==ByteArray.toList v))=false,(kd==2)=false,inR .i64 (((i:Int)+1))] (dupR [(g10,0,1),(g10,1,1),(g_m,0+q*1,1),(g10,0,1)]) [.inv J9,.blk 2,.code ptw_n11] ⟨[(1,.slice (some ⟨b1,o1,none⟩) n cp),(4,.bool false),(6,(pt z4 0)),(7,(pt pa 0)),(8,(pt pb 0)),(9,(pt sb 0)),(10,.slice (some ⟨g_m,0,none⟩) MN MN),(12,i6 ((i:Int)+1))],(ptw_b1 a b N S w z4),[⟨g_m,0+q*1,[sT v]⟩],W11.heap.size⟩)by kernel_rfl) ⟨rfl,rfl,rfl,rfl,rfl,rfl,rfl,beq_iff_eq.2 h3,beq_iff_eq.2 h3,beq_iff_eq.2 h3,beq_iff_eq.2 h3,beq_iff_eq.2 h3,⟨by omega,by omega⟩,beq_iff_eq.2 h3,beq_iff_eq.2 h3,rfl,beq_iff_eq.2 h3,rfl,(by rw[beq_self_eq_true _]; rfl),beq_eq_false_iff_ne.2 (by omega),in64 (by omega),trivial⟩ ?_
    rw[<-cast_succ i]
    intro a_ w9 hf hm
    exact hJ9 (m-1) _ a_ w9 (by omega) ⟨i+1,200*(i:Int),L,_,⟨by omega,by omega,by omega⟩,(TwoL.stb _ _ _ _ f12_q hm.kept (turned_tys hm11) rfl),(o11_m.keptT hm.kept (turned_tys hm11) rfl),rfl⟩ hf (MemOk.bck hm11 hm)
   ·skip
    have hq1:=hql (by omega)
    have f13_q:TwoL w.heap.size N S sb pa pb ((i+1:Nat):Int) (200*(i:Int)) (L.set q da) W11:=by
      have h_:=f11_q
      rw[if_pos (by omega)]at h_
      rw[Int.natCast_add]
      exact h_
    refine hgE 51 (dz 38 0x2010228001012800100100280044000000000010028004000000000000) [1,4,6,7,8,9,10,12,114,115] (rE 7 fF++rE 7 (oE ((kd==1)=false) (beq_eq_false_iff_ne.2 (by omega)))++[fF,oE ((kd==1)=false) (beq_eq_false_iff_ne.2 (by omega)),fF,fF,oE ((kd==2)=true) (beq_iff_eq.2 h3),oE ((0:Int)<=(q:Int)∧(q:Int)<((MN:Nat):Int))]) [(g10,0,1),(g10,0,1),(g10,1,1),(g10,2,1)] [.ops [1,1,1,1,1,1,1,1,1,0,1,0,0,1,0,0,1,1,1,1,1,1,0] [6],.blk 3,.code ptw_n8,.inv J9,.blk 2,.code ptw_n11] ⟨[(1,.slice (some ⟨b1,o1,none⟩) n cp),(4,.bool false),(6,(pt z4 0)),(7,(pt pa 0)),(8,(pt pb 0)),(9,(pt sb 0)),(10,.slice (some ⟨g_m,0,none⟩) MN MN),(12,i6 (i:Int)),(114,sT da),(115,.pointer (some ⟨g_m,0+q*1,none⟩))],(ptw_b4 a b N S kd q da w z4 g10),[],W11.heap.size⟩ ?_
    refine holds_opSU (w:=w) (S':=(LawL (w.heap.size) w)) (x:=Instr.storeAt 9 (.pointer (some ⟨g_m,0+q*1,none⟩)) (sT da)) (fun W_=>TwoL w.heap.size N S sb pa pb ((i+1:Nat):Int) (200*(i:Int)) (L.set q da) W_∧OwnR W_ w.heap.size 9 1 (some ⟨g_m,0,none⟩) MN MN (strsV (L.set q da))) (by kernel_rfl) (by kernel_rfl) (fun wx hm=>?_) (fun W14 hX14 hm14=>?_)
    ·have hm0_:=(MemOk.bck hm11 hm)
     have f_q:=(TwoL.stb _ _ _ _ f13_q hm.kept (turned_tys hm11) rfl)
     have o_m:=(o11_m.keptT hm.kept (turned_tys hm11) rfl)
     obtain⟨w',h1,h2,h3⟩:=own_store (t:=9) (v:=sT da) o_m (q) (by omega) (by kernel_rfl) rfl rfl
     rw[show(strsV L).set q (sT da)=strsV (L.set q da)by simp[strsV]]at h2
     exact⟨w',h1,⟨(TwoL.stb _ _ _ _ f_q h3 (own_tys o_m) rfl),h2⟩,hm0_.offA (fun _ h=>h) h3 (fun y hy=>.inr (o_m.own y hy).1) (off_tys hm (own_tys o_m) rfl)⟩
    obtain⟨f14_q,o14_m⟩:=hX14
    refine holds_go (f:=10) (hs:=[oh0,oh2,oh0]) ptw_n13 [true,true,false] (show _=some (Res.mk [inR .i64 (((i:Int)+1))] (dupR []) [.inv J9,.blk 2,.code ptw_n11] ⟨[(1,.slice (some ⟨b1,o1,none⟩) n cp),(4,.bool false),(6,(pt z4 0)),(7,(pt pa 0)),(8,(pt pb 0)),(9,(pt sb 0)),(10,.slice (some ⟨g_m,0,none⟩) MN MN),(12,i6 ((i:Int)+1))],(ptw_b1 a b N S w z4),[],W14.heap.size⟩)by kernel_rfl) ⟨in64 (by omega),trivial⟩ ?_
    rw[<-cast_succ i]
    intro a_ w9 hf hm
    exact hJ9 (m-1) _ a_ w9 (by omega) ⟨i+1,200*(i:Int),L.set q da,_,⟨by omega,by omega,by omega⟩,(TwoL.stb _ _ _ _ f14_q hm.kept (turned_tys hm14) rfl),(o14_m.keptT hm.kept (turned_tys hm14) rfl),rfl⟩ hf (MemOk.bck hm14 hm)
   ·skip
    have f15_q:TwoL w.heap.size N S sb pa pb ((i+1:Nat):Int) (200*(i:Int)) L W11:=by
      have h_:=f11_q
      rw[if_neg (by omega)]at h_
      rw[Int.natCast_add]
      exact h_
    refine holds_go (f:=51) (hs:=[oh0,oh0,oh0,oh0,oh0,oh0,oh0,oh0,oh0,oh0,oh0,oh0,⟨false,3,[]⟩,oh0,oh0,(oA 2 0 1),oh0,oh0,oh0,oh0,oh0,oh0,oh0,oh0,oh0,⟨false,3,[]⟩,⟨false,3,[]⟩,oh0,oh0,(oA 2 0 1),oh0,oh0,oh0,oh2,oh0]) ptw_n13 [true,true,false] (show _=some (Res.mk [false=false,false=false,false=false,false=false,false=false,false=false,false=false,(kd==1)=false,(kd==1)=false,(kd==1)=false,(kd==1)=false,(kd==1)=false,(kd==1)=false,(kd==1)=false,false=false,(kd==1)=false,false=false,false=false,(kd==2)=false,inR .i64 (((i:Int)+1))] (dupR [(g10,0,1),(g10,0,1)]) [.inv J9,.blk 2,.code ptw_n11] ⟨[(1,.slice (some ⟨b1,o1,none⟩) n cp),(4,.bool false),(6,(pt z4 0)),(7,(pt pa 0)),(8,(pt pb 0)),(9,(pt sb 0)),(10,.slice (some ⟨g_m,0,none⟩) MN MN),(12,i6 ((i:Int)+1))],(ptw_b1 a b N S w z4),[],W11.heap.size⟩)by kernel_rfl) ⟨rfl,rfl,rfl,rfl,rfl,rfl,rfl,beq_eq_false_iff_ne.2 (by omega),beq_eq_false_iff_ne.2 (by omega),beq_eq_false_iff_ne.2 (by omega),beq_eq_false_iff_ne.2 (by omega),beq_eq_false_iff_ne.2 (by omega),beq_eq_false_iff_ne.2 (by omega),beq_eq_false_iff_ne.2 (by omega),rfl,beq_eq_false_iff_ne.2 (by omega),rfl,rfl,beq_eq_false_iff_ne.2 (by omega),in64 (by omega),trivial⟩ ?_
    rw[<-cast_succ i]
    intro a_ w9 hf hm
    exact hJ9 (m-1) _ a_ w9 (by omega) ⟨i+1,200*(i:Int),L,_,⟨by omega,by omega,by omega⟩,(TwoL.stb _ _ _ _ f15_q hm.kept (turned_tys hm11) rfl),(o11_m.keptT hm.kept (turned_tys hm11) rfl),rfl⟩ hf (MemOk.bck hm11 hm)
  rcases Bool.eq_false_or_eq_true ((pickZ (x.v 3) 2)==1)with h9|h9
  ·skip
   refine hgE 10 (dz 3 1) [1,4,6,7,8,9,10,12,13,14] [oE (((pickZ (x.v 3) 2)==1)=true) h9] [] [.ops ptw_n4 ptw_n1,.code ptw_n5,.blk 3,.code ptw_n8,.inv J9,.blk 2,.code ptw_n11] ⟨[(1,.slice (some ⟨b1,o1,none⟩) n cp),(4,.bool false),(6,(pt z4 0)),(7,(pt pa 0)),(8,(pt pb 0)),(9,(pt sb 0)),(10,.slice (some ⟨g_m,0,none⟩) MN MN),(12,i6 (i:Int)),(13,(pt g10 0)),(14,(pt pb 0))],(ptw_b4 a b N S kd q da w z4 g10),[],z27⟩ ?_
   exact HX pb (.inr rfl)
  ·skip
   refine hgE 7 [oh0] [1,4,6,7,8,9,10,12,13,14] [oE (((pickZ (x.v 3) 2)==1)=false) h9] [] [.ops ptw_n4 ptw_n1,.code ptw_n5,.blk 3,.code ptw_n8,.inv J9,.blk 2,.code ptw_n11] ⟨[(1,.slice (some ⟨b1,o1,none⟩) n cp),(4,.bool false),(6,(pt z4 0)),(7,(pt pa 0)),(8,(pt pb 0)),(9,(pt sb 0)),(10,.slice (some ⟨g_m,0,none⟩) MN MN),(12,i6 (i:Int)),(13,(pt g10 0)),(14,(pt pa 0))],(ptw_b4 a b N S kd q da w z4 g10),[],z27⟩ ?_
   exact HX pa (.inl rfl)
 have f16_q:TwoA w.heap.size N S sb pa pb W9:=⟨_,_,_,f9_q⟩
 clear hmi hT1 hT2 hLl
 skip
 suffices HX:Holds [] Tryz.prog (bodyOf Tryz.f4) 126 W9 (Turned (ptw_b1 a b N S w z4)) (ptw_Q w) [.code ptw_n9,.blk 4,.code ptw_n10] ⟨[(4,.bool false),(6,(pt z4 0)),(9,(pt sb 0)),(18,i6 0)],(ptw_b1 a b N S w z4),[],W9.heap.size⟩by
  by_cases h2:i<n
  ·skip
   refine hgE 23 (dz 10 823132160) [4,6,9,18] (rE 3 (dT (((i:Int):Int)<(n:Int)))++[dF (((i:Int):Int)<8)]) [] [.code ptw_n9,.blk 4,.code ptw_n10] ⟨[(4,.bool false),(6,(pt z4 0)),(9,(pt sb 0)),(18,i6 0)],(ptw_b1 a b N S w z4),[],W9.heap.size⟩ ?_
   exact HX
  ·skip
   refine hgE 23 (dz 10 1073741824) [4,6,9,18] (rE 3 (dF (((i:Int):Int)<(n:Int)))++[fF]) [] [.code ptw_n9,.blk 4,.code ptw_n10] ⟨[(4,.bool false),(6,(pt z4 0)),(9,(pt sb 0)),(18,i6 0)],(ptw_b1 a b N S w z4),[],W9.heap.size⟩ ?_
   exact HX
 refine holds_loopW (w:=w) (S':=LawL (w.heap.size) w) (ptw_Z a b pa pb sb N S w z4) S (by kernel_rfl) (fun W0 hm=>⟨⟨0,_,rfl,(TwoA.stb _ _ _ _ f16_q hm.kept (turned_tys hm9) rfl),rfl⟩,(MemOk.bck hm9 hm)⟩) ?_
 rintro m _ W17 ⟨i,z,hh17,f17_q,rfl⟩ hm17 J17 hJ17
 by_cases h1:i<S
 ·skip
  refine hgE 19 (dz 7 0x1001011800) [4,6,9,18,122,123] [dT (((i:Int):Int)<(S:Int))] [(z4,1,1)] [.ops [1,1,1,1,1,1,1,1,1,1,0,1,0,0,1,0,0,0] [2,3],.code [1,1,1,1,1,1,1,1,1,1,0,1,0,0,1,0,0,1],.blk 5,.code [1,1,1,1,1,1,1,1,1,1,0,1,0,0,1,1],.inv J17,.blk 4,.code ptw_n10] ⟨[(4,.bool false),(6,(pt z4 0)),(9,(pt sb 0)),(18,i6 (i:Int)),(122,(pt sb 0)),(123,i6 (i:Int))],(ptw_b1 a b N S w z4),[],W17.heap.size⟩ ?_
  refine hcp (.bool true) 22 [(pt sb 0),i6 (i:Int)] (some 124) [] trivial rfl (fun wx hm=>by
   have f_q:=(TwoA.stb _ _ _ _ f17_q hm.kept (turned_tys hm17) rfl)
   exact nought_a hN h1 wx f_q) fun z42 hz42=>?_
  replace hz42:W17.heap.size<=z42:=hz42
  refine holds_go (f:=13) (hs:=[oh0,oh0,oh0,oh2,oh0]) [4,6,9,18] [true,true] (show _=some (Res.mk [false=false,inR .i64 (((i:Int)+1))] (dupR []) [.inv J17,.blk 4,.code ptw_n10] ⟨[(4,.bool false),(6,(pt z4 0)),(9,(pt sb 0)),(18,i6 ((i:Int)+1))],(ptw_b1 a b N S w z4),[],z42⟩)by kernel_rfl) ⟨rfl,in64 (by omega),trivial⟩ ?_
  rw[<-cast_succ i]
  intro a_ w9 hf hm
  exact hJ17 (m-1) _ a_ w9 (by omega) ⟨i+1,_,by omega,(TwoA.stb _ _ _ _ f17_q hm.kept (turned_tys hm17) rfl),rfl⟩ hf (MemOk.bck hm17 hm)
 refine hgS 17 (dz 6 16848896) [4] [dF (((i:Int):Int)<(S:Int))] [(z4,1,1)] [.code [1,1,1,1,1,1,1,1,1,1,1,1]] (ptw_b1 a b N S w z4) [] W17.heap.size ?_
 refine hrt [] [.bool true] [] ?_
 intro wx hm
 exact⟨rfl,lawL_none (MemOk.bck hm17 hm).kept⟩
end Go.Proofs.YtcmpkkapkdlfhaaGreat
