import Derived.Test.YtpilmccjjbgmiaaLawM
import Derived.Test.YtpilmccjjbgmiaaRaw8
import Derived.Test.YtpilmccjjbgmiaaEngY
import Derived.Test.YtpilmccjjbgmiaaTextsX
namespace Go.Proofs.Ytpilmccjjbgmiaa
open Go.RowKit
def fitr0_v1 (x:Raw8):List Value:=[i6 x.flags,i6 x.fence,i6 x.epoch,i6 x.seq,i6 x.ie,i6 x.is,i6 x.mask,sT x.block,sT x.staged]
def fitr0_v2:List Value:=[.bool false] ++ rp 3 (.int .i64 0) ++ [.string ⟨#[]⟩,.bool false] ++ rp 3 (.int .i64 0) ++ [.string ⟨#[]⟩]
def fitr0_v3 (F:Int) (FE:Int):List Value:=[.bool (decide ((F:Int) > 0)),i6 FE,i6 0,i6 0,sT ⟨#[]⟩,.bool (decide ((F:Int) > 3)),i6 0,i6 0,i6 0,sT ⟨#[]⟩]
set_option maxRecDepth 100000 in
set_option maxHeartbeats 4000000 in
theorem fitr_0 (x:Raw8) (F FE:Int) (hx:Raw8Ok x) (hK:pickZ x.flags 8 = F) (hF:0 ≤ F ∧ F ≤ 0) (hFE:pickZ x.fence 16777216 = FE) (w:World) :
  Calls Try.prog 18 #[.agg #[.int .i64 x.flags,.int .i64 x.fence,.int .i64 x.epoch,.int .i64 x.seq,.int .i64 x.ie,.int .i64 x.is,.int .i64 x.mask,.string x.block,.string x.staged]] w (RetK (.agg #[.bool false,.int .i64 FE,.int .i64 0,.int .i64 0,.string ⟨#[]⟩,.bool false,.int .i64 0,.int .i64 0,.int .i64 0,.string ⟨#[]⟩]) w):=by
 have bFE:=pickZ_bd x.fence 16777216 (by omega)
 rw [hFE] at bFE
 refine calls_of_holds (S:=(fun _=>False)) (l:=[.agg (List.toArray (fitr0_v1 x))]) (n:=55) Try.func18 (body_of (by kernel_rfl)) rfl (by simp) (MemOk.none w _) ?_
 refine hgE 12 [oh0,oh0,oh0,(oA 0 0 1)] [1,2,6] [] [(w.heap.size,0,1)] [.ops [1,0] [2,3],.code [1,1]] ⟨[(1,(pt w.heap.size 0)),(2,(pt (w.heap.size + 1) 0)),(6,i6 x.flags)],[⟨w.heap.size,35,true,(fitr0_v1 x)⟩,⟨w.heap.size + 1,25,true,(fitr0_v2)⟩],[],w.heap.size + 2⟩ ?_
 refine hcp (i6 F) 19 [i6 x.flags,i6 8] (some 7) [] tI rfl (fun wx hm=>pick8 _ _ _ hK wx (by omega) (by omega) hx.flags) fun z2 hz2=>?_
 replace hz2:w.heap.size + 2 ≤ z2:=hz2
 refine hgE 13 [oh0,oh0,oh0,oh0,oh0,oh0,(oA 0 1 1)] [1,2,9,11,13] [] [(w.heap.size,1,1)] [.ops [1,1,0] [6,7,8,9],.code [1,1,1]] ⟨[(1,(pt w.heap.size 0)),(2,(pt (w.heap.size + 1) 0)),(9,.bool (decide ((F:Int) > 0))),(11,.bool (decide ((F:Int) > 3))),(13,i6 x.fence)],[⟨w.heap.size,35,true,(fitr0_v1 x)⟩,⟨w.heap.size + 1,25,true,(fitr0_v2)⟩],[],z2⟩ ?_
 refine hcp (i6 FE) 19 [i6 x.fence,i6 16777216] (some 14) [] tI rfl (fun wx hm=>pick8 _ _ _ hFE wx (by omega) (by omega) hx.fence) fun z4 hz4=>?_
 replace hz4:z2 ≤ z4:=hz4
 refine hgE 28 [oh0,oh0,(oA 2 0 10),oh0,(oA 2 0 1),oh0,oh0,(oA 2 5 1),oh0,(oA 2 0 10),(oA 1 0 10)] [2] [dF ((F:Int) > 0),dF ((F:Int) > 3)] [(z4,0,10),(z4,0,1),(z4,5,1),(z4,0,10),(w.heap.size + 1,0,10)] [.code [1,1,1,1,1,1]] ⟨[(2,(pt (w.heap.size + 1) 0))],[⟨w.heap.size,35,true,(fitr0_v1 x)⟩,⟨w.heap.size + 1,25,true,(fitr0_v3 F FE)⟩,⟨z4,25,true,(fitr0_v3 F FE)⟩],[],z4 + 1⟩ ?_
 refine hrt [[⟨false,1,0,10⟩]] [.agg (List.toArray (fitr0_v3 F FE))] [(w.heap.size + 1,0,10)] ?_
 intro wx hm
 have e:∀ u v:Bool,u = false → v = false → Ending.returned (.agg #[.bool u,.int .i64 FE,.int .i64 0,.int .i64 0,.string ⟨#[]⟩,.bool v,.int .i64 0,.int .i64 0,.int .i64 0,.string ⟨#[]⟩]) = Ending.returned (.agg #[.bool false,.int .i64 FE,.int .i64 0,.int .i64 0,.string ⟨#[]⟩,.bool false,.int .i64 0,.int .i64 0,.int .i64 0,.string ⟨#[]⟩]):=by
  intro u v h1 h2
  subst h1 h2
  rfl
 exact ⟨e (decide ((F:Int) > 0)) (decide ((F:Int) > 3)) (decide_eq_false (by omega)) (decide_eq_false (by omega)),hm.kept⟩
def fitr1_v1 (x:Raw8):List Value:=(fitr0_v1 x)
def fitr1_v2:List Value:=fitr0_v2
def fitr1_v3 (F:Int) (FE:Int):List Value:=(fitr0_v3 F FE)
def fitr1_v4 (F:Int) (FE:Int) (DE:Int) (DS:Int):List Value:=(((fitr0_v3 F FE).set 2 (i6 DE)).set 3 (i6 DS))
def fitr1_v5 (x:Raw8) (FE:Int) (DE:Int) (DS:Int):List Value:=[.bool true,i6 FE,i6 DE,i6 DS,sT (strL 16 x.block),.bool false,i6 0,i6 0,i6 0,sT ⟨#[]⟩]
def fitr1_v6 (x:Raw8) (F:Int) (FE:Int) (DE:Int) (DS:Int):List Value:=((fitr1_v4 F FE DE DS).set 4 (sT (strL 16 x.block)))
@[simp] def fitr1_b1 (x:Raw8) (w:World) (F:Int) (FE:Int) (z4:Nat):List Bk:=[⟨w.heap.size,35,true,(fitr1_v1 x)⟩,⟨w.heap.size + 1,25,true,(fitr1_v2)⟩,⟨z4,25,true,(fitr1_v3 F FE)⟩]
@[simp] def fitr1_b2 (x:Raw8) (w:World) (F:Int) (FE:Int) (DE:Int) (DS:Int) (z4:Nat):List Bk:=[⟨w.heap.size,35,true,(fitr1_v1 x)⟩,⟨w.heap.size + 1,25,true,(fitr1_v2)⟩,⟨z4,25,true,(fitr1_v4 F FE DE DS)⟩]
def fitr1_g6s (w:World) (z4:Nat):List (Nat × Value):=[(1,(pt w.heap.size 0)),(2,(pt (w.heap.size + 1) 0)),(4,(pt z4 0))]
def fitr1_g6v (x:Raw8) (w:World) (DE:Int) (DS:Int) (z4:Nat):List (Option Value):=[some ((pt w.heap.size 2)),some (i6 x.epoch),some (i6 DE),some ((pt w.heap.size 3)),some (i6 x.seq),some (i6 DS),some (.agg #[i6 DE,i6 DS]),some ((pt z4 2)),some (.tuple #[])]
def fitr1_g6m (x:Raw8) (w:World) (F:Int) (FE:Int) (DE:Int) (DS:Int) (z4:Nat):List (List Bk):=[(fitr1_b1 x w F FE z4),(fitr1_b2 x w F FE DE DS z4)]
def fitr1_g6t:List (Option Nat):=[none,none,none,none,none,none,none,none,some 0]
theorem fitr1_g6_2 (x:Raw8) (w:World) (DE:Int) (DS:Int) (z4:Nat):callAt Try.prog (opsOf (getCode (bodyOf Try.f18) [1,1,1,0,1,0,0])) (slG (opsOf (getCode (bodyOf Try.f18) [1,1,1,0,1,0,0])) (fitr1_g6v x w DE DS z4) (slI (opsOf (getCode (bodyOf Try.f18) [1,1,1,0,1,0,0])) (fitr1_g6s w z4) 2) (needsOf (opsOf (getCode (bodyOf Try.f18) [1,1,1,0,1,0,0])) 2)) 2 = some (19,[i6 x.epoch,i6 16777216],dstOf (opsOf (getCode (bodyOf Try.f18) [1,1,1,0,1,0,0])) 2,[]):=by kernel_rfl
theorem fitr1_g6_5 (x:Raw8) (w:World) (DE:Int) (DS:Int) (z4:Nat):callAt Try.prog (opsOf (getCode (bodyOf Try.f18) [1,1,1,0,1,0,0])) (slG (opsOf (getCode (bodyOf Try.f18) [1,1,1,0,1,0,0])) (fitr1_g6v x w DE DS z4) (slI (opsOf (getCode (bodyOf Try.f18) [1,1,1,0,1,0,0])) (fitr1_g6s w z4) 5) (needsOf (opsOf (getCode (bodyOf Try.f18) [1,1,1,0,1,0,0])) 5)) 5 = some (19,[i6 x.seq,i6 16777216],dstOf (opsOf (getCode (bodyOf Try.f18) [1,1,1,0,1,0,0])) 5,[]):=by kernel_rfl
theorem fitr1_g6_8 (x:Raw8) (w:World) (F:Int) (FE:Int) (DE:Int) (DS:Int) (z4:Nat):∀ sz,opG Try.prog (opsOf (getCode (bodyOf Try.f18) [1,1,1,0,1,0,0])) ⟨slG (opsOf (getCode (bodyOf Try.f18) [1,1,1,0,1,0,0])) (fitr1_g6v x w DE DS z4) (slI (opsOf (getCode (bodyOf Try.f18) [1,1,1,0,1,0,0])) (fitr1_g6s w z4) 8) (needsOf (opsOf (getCode (bodyOf Try.f18) [1,1,1,0,1,0,0])) 8),(fitr1_b1 x w F FE z4),[],sz⟩ 8 (oA 2 2 2) = some ([],dupR [(z4,2,2)],undef,(fitr1_b2 x w F FE DE DS z4),sz):=fun sz=>by kernel_rfl
def fitr1_g6C (x:Raw8) (w:World) (F:Int) (FE:Int) (DE:Int) (DS:Int) (z4:Nat) (i_:Nat):Prop:=CertG (wpOp Try.prog (opsOf (getCode (bodyOf Try.f18) [1,1,1,0,1,0,0])) (sem Try.prog (bodyOf Try.f18) (bodyPost Try.prog Try.f18 (RetK (.agg (List.toArray (fitr1_v5 x FE DE DS))) w)) [.code [1,1,1,0,1,0,1],.code [1,1,1,1]])) [] 55 (opsOf (getCode (bodyOf Try.f18) [1,1,1,0,1,0,0])) (slI (opsOf (getCode (bodyOf Try.f18) [1,1,1,0,1,0,0])) (fitr1_g6s w z4) i_) (fitr1_g6t) 1 (MG w (fun _=>False) (fitr1_g6m x w F FE DE DS z4) [] (z4 + 1)) (Turned (fitr1_b1 x w F FE z4)) (PvG (fitr1_g6v x w DE DS z4) (fun _ _ _=>False)) i_
set_option maxRecDepth 100000 in
set_option maxHeartbeats 4000000 in
theorem fitr_1 (x:Raw8) (F FE DE DS:Int) (hx:Raw8Ok x) (hK:pickZ x.flags 8 = F) (hF:1 ≤ F ∧ F ≤ 3) (hFE:pickZ x.fence 16777216 = FE) (hDE:pickZ x.epoch 16777216 = DE) (hDS:pickZ x.seq 16777216 = DS) (w:World) :
  Calls Try.prog 18 #[.agg #[.int .i64 x.flags,.int .i64 x.fence,.int .i64 x.epoch,.int .i64 x.seq,.int .i64 x.ie,.int .i64 x.is,.int .i64 x.mask,.string x.block,.string x.staged]] w (RetK (.agg #[.bool true,.int .i64 FE,.int .i64 DE,.int .i64 DS,.string (strL 16 x.block),.bool false,.int .i64 0,.int .i64 0,.int .i64 0,.string ⟨#[]⟩]) w):=by
 have bFE:=pickZ_bd x.fence 16777216 (by omega)
 rw [hFE] at bFE
 have bDE:=pickZ_bd x.epoch 16777216 (by omega)
 rw [hDE] at bDE
 have bDS:=pickZ_bd x.seq 16777216 (by omega)
 rw [hDS] at bDS
 refine calls_of_holds (S:=(fun _=>False)) (l:=[.agg (List.toArray (fitr1_v1 x))]) (n:=55) Try.func18 (body_of (by kernel_rfl)) rfl (by simp) (MemOk.none w _) ?_
 refine hgE 12 [oh0,oh0,oh0,(oA 0 0 1)] [1,2,6] [] [(w.heap.size,0,1)] [.ops [1,0] [2,3],.code [1,1]] ⟨[(1,(pt w.heap.size 0)),(2,(pt (w.heap.size + 1) 0)),(6,i6 x.flags)],[⟨w.heap.size,35,true,(fitr1_v1 x)⟩,⟨w.heap.size + 1,25,true,(fitr1_v2)⟩],[],w.heap.size + 2⟩ ?_
 refine hcp (i6 F) 19 [i6 x.flags,i6 8] (some 7) [] tI rfl (fun wx hm=>pick8 _ _ _ hK wx (by omega) (by omega) hx.flags) fun z2 hz2=>?_
 replace hz2:w.heap.size + 2 ≤ z2:=hz2
 refine hgE 13 [oh0,oh0,oh0,oh0,oh0,oh0,(oA 0 1 1)] [1,2,9,11,13] [] [(w.heap.size,1,1)] [.ops [1,1,0] [6,7,8,9],.code [1,1,1]] ⟨[(1,(pt w.heap.size 0)),(2,(pt (w.heap.size + 1) 0)),(9,.bool (decide ((F:Int) > 0))),(11,.bool (decide ((F:Int) > 3))),(13,i6 x.fence)],[⟨w.heap.size,35,true,(fitr1_v1 x)⟩,⟨w.heap.size + 1,25,true,(fitr1_v2)⟩],[],z2⟩ ?_
 refine hcp (i6 FE) 19 [i6 x.fence,i6 16777216] (some 14) [] tI rfl (fun wx hm=>pick8 _ _ _ hFE wx (by omega) (by omega) hx.fence) fun z4 hz4=>?_
 replace hz4:z2 ≤ z4:=hz4
 refine hgE 15 [oh0,oh0,(oA 2 0 10),oh0,(oA 2 0 1),oh1] [1,2,4] [dT ((F:Int) > 0)] [(z4,0,10),(z4,0,1)] [.code [1,1,1,0,1,0,0],.code [1,1,1,0,1,0,1],.code [1,1,1,1]] ⟨[(1,(pt w.heap.size 0)),(2,(pt (w.heap.size + 1) 0)),(4,(pt z4 0))],(fitr1_b1 x w F FE z4),[],z4 + 1⟩ ?_
 have fitr1_g6_c2:fitr1_g6C x w F FE DE DS z4 2:=cert_call (v:=.int .i64 DE) (by kernel_rfl) (by kernel_rfl) (fitr1_g6_2 x w DE DS z4) trivial (fun j wx _ hm=>pick8 _ _ _ hDE wx (by omega) (by omega) hx.epoch)
 have fitr1_g6_c5:fitr1_g6C x w F FE DE DS z4 5:=cert_call (v:=.int .i64 DS) (by kernel_rfl) (by kernel_rfl) (fitr1_g6_5 x w DE DS z4) trivial (fun j wx _ hm=>pick8 _ _ _ hDS wx (by omega) (by omega) hx.seq)
 have fitr1_g6_c8:fitr1_g6C x w F FE DE DS z4 8:=cert_store (s:=0) (v:=undef) (by kernel_rfl) (by kernel_rfl) (by kernel_rfl) (by kernel_rfl) (by kernel_rfl) (fitr1_g6_8 x w F FE DE DS z4) trivial
 have fitr1_g6_R:∀ e_ ∈ (rZs [0,3,6,7] ++ [⟨1,⟨false,0,[⟨false,0,2,1⟩]⟩,[],[(w.heap.size,2,1)]⟩,⟨4,⟨false,0,[⟨false,0,3,1⟩]⟩,[],[(w.heap.size,3,1)]⟩]:List RegE),fitr1_g6C x w F FE DE DS z4 e_.i:=certs_reg (by kernel_rfl) _ (fun sz=>by kernel_rfl)
 refine holds_mixG (vs:=(fitr1_g6v x w DE DS z4)) (ms:=(fitr1_g6m x w F FE DE DS z4)) (stg:=(fitr1_g6t)) (J:=1) (sl':=[(1,(pt w.heap.size 0)),(2,(pt (w.heap.size + 1) 0)),(4,(pt z4 0))]) (bk':=(fitr1_b2 x w F FE DE DS z4)) (fun _ _ _=>False) [1,2,4] (by kernel_rfl) (by kernel_rfl) (by kernel_rfl) (fun _ _ _ _ h=>h.elim) (certs_mix fitr1_g6_R [2,5,8] ⟨fitr1_g6_c2,fitr1_g6_c5,fitr1_g6_c8,tI⟩ (by kernel_rfl)) (by kernel_rfl) (by kernel_rfl) (by kernel_rfl) (fun z6 hz6=>?_)
 replace hz6:z4 + 1 ≤ z6:=hz6
 refine hgE 7 [oh0,(oA 0 7 1),oh0] [1,2,4,28] [] [(w.heap.size,7,1)] [.ops [1,1,1,0,1,0,1] [3,4,5,6,7],.code [1,1,1,1]] ⟨[(1,(pt w.heap.size 0)),(2,(pt (w.heap.size + 1) 0)),(4,(pt z4 0)),(28,.slice (some ⟨z6,0,none⟩) 1 1)],[⟨w.heap.size,35,true,(fitr1_v1 x)⟩,⟨w.heap.size + 1,25,true,(fitr1_v2)⟩,⟨z4,25,true,(fitr1_v4 F FE DE DS)⟩,⟨z6,9,true,[sT x.block]⟩],[],z6 + 1⟩ ?_
 refine holds_callX (X:=Nat × Nat × List Value) (fun y=>z6 + 1 ≤ y.1) (fun y=>.slice (some ⟨y.1,0,none⟩) 1 y.2.1) (fun y=>[⟨w.heap.size,35,true,(fitr1_v1 x)⟩,⟨w.heap.size + 1,25,true,(fitr1_v2)⟩,⟨z4,25,true,(fitr1_v4 F FE DE DS)⟩,⟨z6,9,true,[sT x.block]⟩,⟨y.1,9,true,(sT (strL 16 x.block) :: y.2.2)⟩]) (fun y=>[(29,.slice (some ⟨y.1,0,none⟩) 1 y.2.1),(1,(pt w.heap.size 0)),(2,(pt (w.heap.size + 1) 0)),(4,(pt z4 0)),(28,.slice (some ⟨z6,0,none⟩) 1 1)]) (show _ = some (37,[.slice (some ⟨z6,0,none⟩) 1 1,i6 1,i6 16],some 29,[]) by kernel_rfl) tI (fun _=>rfl) (fun wx hm=>?_) ?_
 ·refine (texts_any _ _ wx (hm.at_ 3 rfl)).mono fun e w' he=>?_
  obtain ⟨y,h1,h2,h3,h4⟩:=he
  rw [hm.size] at h1
  have h5:=hm.add h4 [⟨y.1,9,true,.string (strL 16 x.block) :: y.2.2⟩] ⟨h3,trivial⟩ (by simpa using h1) (by simp)
  exact ⟨y,h1,h2,h5⟩
 intro y hy z8 hz8
 replace hz8:z6 + 1 ≤ z8:=hz8
 refine hgE 21 [oh2,(oA 4 0 1),oh0,(oA 2 4 1),oh0,(oA 2 5 1),oh0,(oA 2 0 10),(oA 1 0 10)] [2] [oE ((0:Int) ≤ 0 ∧ 0 < ((1:Nat):Int)),dF ((F:Int) > 3)] [(y.1,0,1),(z4,4,1),(z4,5,1),(z4,0,10),(w.heap.size + 1,0,10)] [.code [1,1,1,1,1,1]] ⟨[(2,(pt (w.heap.size + 1) 0))],[⟨w.heap.size,35,true,(fitr1_v1 x)⟩,⟨w.heap.size + 1,25,true,(fitr1_v6 x F FE DE DS)⟩,⟨z4,25,true,(fitr1_v6 x F FE DE DS)⟩,⟨z6,9,true,[sT x.block]⟩,⟨y.1,9,true,(sT (strL 16 x.block) :: y.2.2)⟩],[],z8⟩ ?_
 refine hrt [[⟨false,1,0,10⟩]] [.agg (List.toArray (fitr1_v6 x F FE DE DS))] [(w.heap.size + 1,0,10)] ?_
 intro wx hm
 have e:∀ u v:Bool,u = true → v = false → Ending.returned (.agg #[.bool u,.int .i64 FE,.int .i64 DE,.int .i64 DS,.string (strL 16 x.block),.bool v,.int .i64 0,.int .i64 0,.int .i64 0,.string ⟨#[]⟩]) = Ending.returned (.agg (List.toArray (fitr1_v5 x FE DE DS))):=by
  intro u v h1 h2
  subst h1 h2
  rfl
 exact ⟨e (decide ((F:Int) > 0)) (decide ((F:Int) > 3)) (decide_eq_true (by omega)) (decide_eq_false (by omega)),hm.kept⟩
def fitr4_v1 (x:Raw8):List Value:=(fitr0_v1 x)
def fitr4_v2:List Value:=fitr0_v2
def fitr4_v3 (F:Int) (FE:Int):List Value:=(fitr0_v3 F FE)
def fitr4_v4 (F:Int) (FE:Int) (DE:Int) (DS:Int):List Value:=(fitr1_v4 F FE DE DS)
def fitr4_v5 (x:Raw8) (FE:Int) (DE:Int) (DS:Int) (IE:Int) (IS:Int) (MK:Int):List Value:=[.bool true,i6 FE,i6 DE,i6 DS,sT (strL 16 x.block),.bool true,i6 IE,i6 IS,i6 MK,sT (strL 16 x.staged)]
def fitr4_v6 (x:Raw8) (F:Int) (FE:Int) (DE:Int) (DS:Int):List Value:=(fitr1_v6 x F FE DE DS)
def fitr4_v7 (x:Raw8) (F:Int) (FE:Int) (DE:Int) (DS:Int) (IE:Int) (IS:Int):List Value:=(((fitr1_v6 x F FE DE DS).set 6 (i6 IE)).set 7 (i6 IS))
def fitr4_v8 (x:Raw8) (F:Int) (FE:Int) (DE:Int) (DS:Int) (IE:Int) (IS:Int) (MK:Int):List Value:=((fitr4_v7 x F FE DE DS IE IS).set 8 (i6 MK))
def fitr4_v9 (x:Raw8) (F:Int) (FE:Int) (DE:Int) (DS:Int) (IE:Int) (IS:Int) (MK:Int):List Value:=((fitr4_v8 x F FE DE DS IE IS MK).set 9 (sT (strL 16 x.staged)))
def fitr4_n1:List Nat:=[1,1,1,1,0,1,0,0]
def fitr4_n2:List (Option Nat):=[none,none,none,none,none,none,none,none,some 0]
@[simp] def fitr4_b1 (x:Raw8) (w:World) (F:Int) (FE:Int) (z4:Nat):List Bk:=[⟨w.heap.size,35,true,(fitr4_v1 x)⟩,⟨w.heap.size + 1,25,true,(fitr4_v2)⟩,⟨z4,25,true,(fitr4_v3 F FE)⟩]
@[simp] def fitr4_b2 (x:Raw8) (w:World) (F:Int) (FE:Int) (DE:Int) (DS:Int) (z4:Nat):List Bk:=[⟨w.heap.size,35,true,(fitr4_v1 x)⟩,⟨w.heap.size + 1,25,true,(fitr4_v2)⟩,⟨z4,25,true,(fitr4_v4 F FE DE DS)⟩]
@[simp] def fitr4_b3 (x:Raw8) (w:World) (F:Int) (FE:Int) (DE:Int) (DS:Int) (y:Nat × Nat × List Value) (z4:Nat) (z6:Nat):List Bk:=[⟨w.heap.size,35,true,(fitr4_v1 x)⟩,⟨w.heap.size + 1,25,true,(fitr4_v2)⟩,⟨z4,25,true,(fitr4_v6 x F FE DE DS)⟩,⟨z6,9,true,[sT x.block]⟩,⟨y.1,9,true,(sT (strL 16 x.block) :: y.2.2)⟩]
@[simp] def fitr4_b4 (x:Raw8) (w:World) (F:Int) (FE:Int) (DE:Int) (DS:Int) (IE:Int) (IS:Int) (y:Nat × Nat × List Value) (z4:Nat) (z6:Nat):List Bk:=[⟨w.heap.size,35,true,(fitr4_v1 x)⟩,⟨w.heap.size + 1,25,true,(fitr4_v2)⟩,⟨z4,25,true,(fitr4_v7 x F FE DE DS IE IS)⟩,⟨z6,9,true,[sT x.block]⟩,⟨y.1,9,true,(sT (strL 16 x.block) :: y.2.2)⟩]
def fitr4_g6s (w:World) (z4:Nat):List (Nat × Value):=[(1,(pt w.heap.size 0)),(2,(pt (w.heap.size + 1) 0)),(4,(pt z4 0))]
def fitr4_g6v (x:Raw8) (w:World) (DE:Int) (DS:Int) (z4:Nat):List (Option Value):=[some ((pt w.heap.size 2)),some (i6 x.epoch),some (i6 DE),some ((pt w.heap.size 3)),some (i6 x.seq),some (i6 DS),some (.agg #[i6 DE,i6 DS]),some ((pt z4 2)),some (.tuple #[])]
def fitr4_g6m (x:Raw8) (w:World) (F:Int) (FE:Int) (DE:Int) (DS:Int) (z4:Nat):List (List Bk):=[(fitr4_b1 x w F FE z4),(fitr4_b2 x w F FE DE DS z4)]
def fitr4_g6t:List (Option Nat):=fitr4_n2
theorem fitr4_g6_2 (x:Raw8) (w:World) (DE:Int) (DS:Int) (z4:Nat):callAt Try.prog (opsOf (getCode (bodyOf Try.f18) [1,1,1,0,1,0,0])) (slG (opsOf (getCode (bodyOf Try.f18) [1,1,1,0,1,0,0])) (fitr4_g6v x w DE DS z4) (slI (opsOf (getCode (bodyOf Try.f18) [1,1,1,0,1,0,0])) (fitr4_g6s w z4) 2) (needsOf (opsOf (getCode (bodyOf Try.f18) [1,1,1,0,1,0,0])) 2)) 2 = some (19,[i6 x.epoch,i6 16777216],dstOf (opsOf (getCode (bodyOf Try.f18) [1,1,1,0,1,0,0])) 2,[]):=by kernel_rfl
theorem fitr4_g6_5 (x:Raw8) (w:World) (DE:Int) (DS:Int) (z4:Nat):callAt Try.prog (opsOf (getCode (bodyOf Try.f18) [1,1,1,0,1,0,0])) (slG (opsOf (getCode (bodyOf Try.f18) [1,1,1,0,1,0,0])) (fitr4_g6v x w DE DS z4) (slI (opsOf (getCode (bodyOf Try.f18) [1,1,1,0,1,0,0])) (fitr4_g6s w z4) 5) (needsOf (opsOf (getCode (bodyOf Try.f18) [1,1,1,0,1,0,0])) 5)) 5 = some (19,[i6 x.seq,i6 16777216],dstOf (opsOf (getCode (bodyOf Try.f18) [1,1,1,0,1,0,0])) 5,[]):=by kernel_rfl
theorem fitr4_g6_8 (x:Raw8) (w:World) (F:Int) (FE:Int) (DE:Int) (DS:Int) (z4:Nat):∀ sz,opG Try.prog (opsOf (getCode (bodyOf Try.f18) [1,1,1,0,1,0,0])) ⟨slG (opsOf (getCode (bodyOf Try.f18) [1,1,1,0,1,0,0])) (fitr4_g6v x w DE DS z4) (slI (opsOf (getCode (bodyOf Try.f18) [1,1,1,0,1,0,0])) (fitr4_g6s w z4) 8) (needsOf (opsOf (getCode (bodyOf Try.f18) [1,1,1,0,1,0,0])) 8),(fitr4_b1 x w F FE z4),[],sz⟩ 8 (oA 2 2 2) = some ([],dupR [(z4,2,2)],undef,(fitr4_b2 x w F FE DE DS z4),sz):=fun sz=>by kernel_rfl
def fitr4_g6C (x:Raw8) (w:World) (F:Int) (FE:Int) (DE:Int) (DS:Int) (IE:Int) (IS:Int) (MK:Int) (z4:Nat) (i_:Nat):Prop:=CertG (wpOp Try.prog (opsOf (getCode (bodyOf Try.f18) [1,1,1,0,1,0,0])) (sem Try.prog (bodyOf Try.f18) (bodyPost Try.prog Try.f18 (RetK (.agg (List.toArray (fitr4_v5 x FE DE DS IE IS MK))) w)) [.code [1,1,1,0,1,0,1],.code [1,1,1,1]])) [] 55 (opsOf (getCode (bodyOf Try.f18) [1,1,1,0,1,0,0])) (slI (opsOf (getCode (bodyOf Try.f18) [1,1,1,0,1,0,0])) (fitr4_g6s w z4) i_) (fitr4_g6t) 1 (MG w (fun _=>False) (fitr4_g6m x w F FE DE DS z4) [] (z4 + 1)) (Turned (fitr4_b1 x w F FE z4)) (PvG (fitr4_g6v x w DE DS z4) (fun _ _ _=>False)) i_
def fitr4_g10s (w:World) (z4:Nat):List (Nat × Value):=[(1,(pt w.heap.size 0)),(2,(pt (w.heap.size + 1) 0)),(4,(pt z4 0))]
def fitr4_g10v (x:Raw8) (w:World) (IE:Int) (IS:Int) (z4:Nat):List (Option Value):=[some ((pt w.heap.size 4)),some (i6 x.ie),some (i6 IE),some ((pt w.heap.size 5)),some (i6 x.is),some (i6 IS),some (.agg #[i6 IE,i6 IS]),some ((pt z4 6)),some (.tuple #[])]
def fitr4_g10m (x:Raw8) (w:World) (F:Int) (FE:Int) (DE:Int) (DS:Int) (IE:Int) (IS:Int) (y:Nat × Nat × List Value) (z4:Nat) (z6:Nat):List (List Bk):=[(fitr4_b3 x w F FE DE DS y z4 z6),(fitr4_b4 x w F FE DE DS IE IS y z4 z6)]
def fitr4_g10t:List (Option Nat):=fitr4_n2
theorem fitr4_g10_2 (x:Raw8) (w:World) (IE:Int) (IS:Int) (z4:Nat):callAt Try.prog (opsOf (getCode (bodyOf Try.f18) fitr4_n1)) (slG (opsOf (getCode (bodyOf Try.f18) fitr4_n1)) (fitr4_g10v x w IE IS z4) (slI (opsOf (getCode (bodyOf Try.f18) fitr4_n1)) (fitr4_g10s w z4) 2) (needsOf (opsOf (getCode (bodyOf Try.f18) fitr4_n1)) 2)) 2 = some (19,[i6 x.ie,i6 16777216],dstOf (opsOf (getCode (bodyOf Try.f18) fitr4_n1)) 2,[]):=by kernel_rfl
theorem fitr4_g10_5 (x:Raw8) (w:World) (IE:Int) (IS:Int) (z4:Nat):callAt Try.prog (opsOf (getCode (bodyOf Try.f18) fitr4_n1)) (slG (opsOf (getCode (bodyOf Try.f18) fitr4_n1)) (fitr4_g10v x w IE IS z4) (slI (opsOf (getCode (bodyOf Try.f18) fitr4_n1)) (fitr4_g10s w z4) 5) (needsOf (opsOf (getCode (bodyOf Try.f18) fitr4_n1)) 5)) 5 = some (19,[i6 x.is,i6 16777216],dstOf (opsOf (getCode (bodyOf Try.f18) fitr4_n1)) 5,[]):=by kernel_rfl
theorem fitr4_g10_8 (x:Raw8) (w:World) (F:Int) (FE:Int) (DE:Int) (DS:Int) (IE:Int) (IS:Int) (y:Nat × Nat × List Value) (z4:Nat) (z6:Nat):∀ sz,opG Try.prog (opsOf (getCode (bodyOf Try.f18) fitr4_n1)) ⟨slG (opsOf (getCode (bodyOf Try.f18) fitr4_n1)) (fitr4_g10v x w IE IS z4) (slI (opsOf (getCode (bodyOf Try.f18) fitr4_n1)) (fitr4_g10s w z4) 8) (needsOf (opsOf (getCode (bodyOf Try.f18) fitr4_n1)) 8),(fitr4_b3 x w F FE DE DS y z4 z6),[],sz⟩ 8 (oA 2 6 2) = some ([],dupR [(z4,6,2)],undef,(fitr4_b4 x w F FE DE DS IE IS y z4 z6),sz):=fun sz=>by kernel_rfl
def fitr4_g10C (x:Raw8) (w:World) (F:Int) (FE:Int) (DE:Int) (DS:Int) (IE:Int) (IS:Int) (MK:Int) (y:Nat × Nat × List Value) (z4:Nat) (z6:Nat) (z8:Nat) (i_:Nat):Prop:=CertG (wpOp Try.prog (opsOf (getCode (bodyOf Try.f18) fitr4_n1)) (sem Try.prog (bodyOf Try.f18) (bodyPost Try.prog Try.f18 (RetK (.agg (List.toArray (fitr4_v5 x FE DE DS IE IS MK))) w)) [.code [1,1,1,1,0,1,0,1],.code [1,1,1,1,1]])) [] 55 (opsOf (getCode (bodyOf Try.f18) fitr4_n1)) (slI (opsOf (getCode (bodyOf Try.f18) fitr4_n1)) (fitr4_g10s w z4) i_) (fitr4_g10t) 1 (MG w (fun _=>False) (fitr4_g10m x w F FE DE DS IE IS y z4 z6) [] z8) (Turned (fitr4_b3 x w F FE DE DS y z4 z6)) (PvG (fitr4_g10v x w IE IS z4) (fun _ _ _=>False)) i_
set_option maxRecDepth 100000 in
set_option maxHeartbeats 4000000 in
theorem fitr_4 (x:Raw8) (F FE DE DS IE IS MK:Int) (hx:Raw8Ok x) (hK:pickZ x.flags 8 = F) (hF:4 ≤ F ∧ F ≤ 7) (hFE:pickZ x.fence 16777216 = FE) (hDE:pickZ x.epoch 16777216 = DE) (hDS:pickZ x.seq 16777216 = DS) (hIE:pickZ x.ie 16777216 = IE) (hIS:pickZ x.is 16777216 = IS) (hMK:pickZ x.mask 64 = MK) (w:World) :
  Calls Try.prog 18 #[.agg #[.int .i64 x.flags,.int .i64 x.fence,.int .i64 x.epoch,.int .i64 x.seq,.int .i64 x.ie,.int .i64 x.is,.int .i64 x.mask,.string x.block,.string x.staged]] w (RetK (.agg #[.bool true,.int .i64 FE,.int .i64 DE,.int .i64 DS,.string (strL 16 x.block),.bool true,.int .i64 IE,.int .i64 IS,.int .i64 MK,.string (strL 16 x.staged)]) w):=by
 have bFE:=pickZ_bd x.fence 16777216 (by omega)
 rw [hFE] at bFE
 have bDE:=pickZ_bd x.epoch 16777216 (by omega)
 rw [hDE] at bDE
 have bDS:=pickZ_bd x.seq 16777216 (by omega)
 rw [hDS] at bDS
 have bIE:=pickZ_bd x.ie 16777216 (by omega)
 rw [hIE] at bIE
 have bIS:=pickZ_bd x.is 16777216 (by omega)
 rw [hIS] at bIS
 have bMK:=pickZ_bd x.mask 64 (by omega)
 rw [hMK] at bMK
 refine calls_of_holds (S:=(fun _=>False)) (l:=[.agg (List.toArray (fitr4_v1 x))]) (n:=55) Try.func18 (body_of (by kernel_rfl)) rfl (by simp) (MemOk.none w _) ?_
 refine hgE 12 [oh0,oh0,oh0,(oA 0 0 1)] [1,2,6] [] [(w.heap.size,0,1)] [.ops [1,0] [2,3],.code [1,1]] ⟨[(1,(pt w.heap.size 0)),(2,(pt (w.heap.size + 1) 0)),(6,i6 x.flags)],[⟨w.heap.size,35,true,(fitr4_v1 x)⟩,⟨w.heap.size + 1,25,true,(fitr4_v2)⟩],[],w.heap.size + 2⟩ ?_
 refine hcp (i6 F) 19 [i6 x.flags,i6 8] (some 7) [] tI rfl (fun wx hm=>pick8 _ _ _ hK wx (by omega) (by omega) hx.flags) fun z2 hz2=>?_
 replace hz2:w.heap.size + 2 ≤ z2:=hz2
 refine hgE 13 [oh0,oh0,oh0,oh0,oh0,oh0,(oA 0 1 1)] [1,2,9,11,13] [] [(w.heap.size,1,1)] [.ops [1,1,0] [6,7,8,9],.code [1,1,1]] ⟨[(1,(pt w.heap.size 0)),(2,(pt (w.heap.size + 1) 0)),(9,.bool (decide ((F:Int) > 0))),(11,.bool (decide ((F:Int) > 3))),(13,i6 x.fence)],[⟨w.heap.size,35,true,(fitr4_v1 x)⟩,⟨w.heap.size + 1,25,true,(fitr4_v2)⟩],[],z2⟩ ?_
 refine hcp (i6 FE) 19 [i6 x.fence,i6 16777216] (some 14) [] tI rfl (fun wx hm=>pick8 _ _ _ hFE wx (by omega) (by omega) hx.fence) fun z4 hz4=>?_
 replace hz4:z2 ≤ z4:=hz4
 refine hgE 15 [oh0,oh0,(oA 2 0 10),oh0,(oA 2 0 1),oh1] [1,2,4] [dT ((F:Int) > 0)] [(z4,0,10),(z4,0,1)] [.code [1,1,1,0,1,0,0],.code [1,1,1,0,1,0,1],.code [1,1,1,1]] ⟨[(1,(pt w.heap.size 0)),(2,(pt (w.heap.size + 1) 0)),(4,(pt z4 0))],(fitr4_b1 x w F FE z4),[],z4 + 1⟩ ?_
 have fitr4_g6_c2:fitr4_g6C x w F FE DE DS IE IS MK z4 2:=cert_call (v:=.int .i64 DE) (by kernel_rfl) (by kernel_rfl) (fitr4_g6_2 x w DE DS z4) trivial (fun j wx _ hm=>pick8 _ _ _ hDE wx (by omega) (by omega) hx.epoch)
 have fitr4_g6_c5:fitr4_g6C x w F FE DE DS IE IS MK z4 5:=cert_call (v:=.int .i64 DS) (by kernel_rfl) (by kernel_rfl) (fitr4_g6_5 x w DE DS z4) trivial (fun j wx _ hm=>pick8 _ _ _ hDS wx (by omega) (by omega) hx.seq)
 have fitr4_g6_c8:fitr4_g6C x w F FE DE DS IE IS MK z4 8:=cert_store (s:=0) (v:=undef) (by kernel_rfl) (by kernel_rfl) (by kernel_rfl) (by kernel_rfl) (by kernel_rfl) (fitr4_g6_8 x w F FE DE DS z4) trivial
 have fitr4_g6_R:∀ e_ ∈ (rZs [0,3,6,7] ++ [⟨1,⟨false,0,[⟨false,0,2,1⟩]⟩,[],[(w.heap.size,2,1)]⟩,⟨4,⟨false,0,[⟨false,0,3,1⟩]⟩,[],[(w.heap.size,3,1)]⟩]:List RegE),fitr4_g6C x w F FE DE DS IE IS MK z4 e_.i:=certs_reg (by kernel_rfl) _ (fun sz=>by kernel_rfl)
 refine holds_mixG (vs:=(fitr4_g6v x w DE DS z4)) (ms:=(fitr4_g6m x w F FE DE DS z4)) (stg:=(fitr4_g6t)) (J:=1) (sl':=[(1,(pt w.heap.size 0)),(2,(pt (w.heap.size + 1) 0)),(4,(pt z4 0))]) (bk':=(fitr4_b2 x w F FE DE DS z4)) (fun _ _ _=>False) [1,2,4] (by kernel_rfl) (by kernel_rfl) (by kernel_rfl) (fun _ _ _ _ h=>h.elim) (certs_mix fitr4_g6_R [2,5,8] ⟨fitr4_g6_c2,fitr4_g6_c5,fitr4_g6_c8,tI⟩ (by kernel_rfl)) (by kernel_rfl) (by kernel_rfl) (by kernel_rfl) (fun z6 hz6=>?_)
 replace hz6:z4 + 1 ≤ z6:=hz6
 refine hgE 7 [oh0,(oA 0 7 1),oh0] [1,2,4,28] [] [(w.heap.size,7,1)] [.ops [1,1,1,0,1,0,1] [3,4,5,6,7],.code [1,1,1,1]] ⟨[(1,(pt w.heap.size 0)),(2,(pt (w.heap.size + 1) 0)),(4,(pt z4 0)),(28,.slice (some ⟨z6,0,none⟩) 1 1)],[⟨w.heap.size,35,true,(fitr4_v1 x)⟩,⟨w.heap.size + 1,25,true,(fitr4_v2)⟩,⟨z4,25,true,(fitr4_v4 F FE DE DS)⟩,⟨z6,9,true,[sT x.block]⟩],[],z6 + 1⟩ ?_
 refine holds_callX (X:=Nat × Nat × List Value) (fun y=>z6 + 1 ≤ y.1) (fun y=>.slice (some ⟨y.1,0,none⟩) 1 y.2.1) (fun y=>[⟨w.heap.size,35,true,(fitr4_v1 x)⟩,⟨w.heap.size + 1,25,true,(fitr4_v2)⟩,⟨z4,25,true,(fitr4_v4 F FE DE DS)⟩,⟨z6,9,true,[sT x.block]⟩,⟨y.1,9,true,(sT (strL 16 x.block) :: y.2.2)⟩]) (fun y=>[(29,.slice (some ⟨y.1,0,none⟩) 1 y.2.1),(1,(pt w.heap.size 0)),(2,(pt (w.heap.size + 1) 0)),(4,(pt z4 0)),(28,.slice (some ⟨z6,0,none⟩) 1 1)]) (show _ = some (37,[.slice (some ⟨z6,0,none⟩) 1 1,i6 1,i6 16],some 29,[]) by kernel_rfl) tI (fun _=>rfl) (fun wx hm=>?_) ?_
 ·refine (texts_any _ _ wx (hm.at_ 3 rfl)).mono fun e w' he=>?_
  obtain ⟨y,h1,h2,h3,h4⟩:=he
  rw [hm.size] at h1
  have h5:=hm.add h4 [⟨y.1,9,true,.string (strL 16 x.block) :: y.2.2⟩] ⟨h3,trivial⟩ (by simpa using h1) (by simp)
  exact ⟨y,h1,h2,h5⟩
 intro y hy z8 hz8
 replace hz8:z6 + 1 ≤ z8:=hz8
 refine hgE 16 [oh2,(oA 4 0 1),oh0,(oA 2 4 1),oh0,(oA 2 5 1),oh1] [1,2,4] [oE ((0:Int) ≤ 0 ∧ 0 < ((1:Nat):Int)),dT ((F:Int) > 3)] [(y.1,0,1),(z4,4,1),(z4,5,1)] [.code fitr4_n1,.code [1,1,1,1,0,1,0,1],.code [1,1,1,1,1]] ⟨[(1,(pt w.heap.size 0)),(2,(pt (w.heap.size + 1) 0)),(4,(pt z4 0))],(fitr4_b3 x w F FE DE DS y z4 z6),[],z8⟩ ?_
 have fitr4_g10_c2:fitr4_g10C x w F FE DE DS IE IS MK y z4 z6 z8 2:=cert_call (v:=.int .i64 IE) (by kernel_rfl) (by kernel_rfl) (fitr4_g10_2 x w IE IS z4) trivial (fun j wx _ hm=>pick8 _ _ _ hIE wx (by omega) (by omega) hx.ie)
 have fitr4_g10_c5:fitr4_g10C x w F FE DE DS IE IS MK y z4 z6 z8 5:=cert_call (v:=.int .i64 IS) (by kernel_rfl) (by kernel_rfl) (fitr4_g10_5 x w IE IS z4) trivial (fun j wx _ hm=>pick8 _ _ _ hIS wx (by omega) (by omega) hx.is)
 have fitr4_g10_c8:fitr4_g10C x w F FE DE DS IE IS MK y z4 z6 z8 8:=cert_store (s:=0) (v:=undef) (by kernel_rfl) (by kernel_rfl) (by kernel_rfl) (by kernel_rfl) (by kernel_rfl) (fitr4_g10_8 x w F FE DE DS IE IS y z4 z6) trivial
 have fitr4_g10_R:∀ e_ ∈ (rZs [0,3,6,7] ++ [⟨1,⟨false,0,[⟨false,0,4,1⟩]⟩,[],[(w.heap.size,4,1)]⟩,⟨4,⟨false,0,[⟨false,0,5,1⟩]⟩,[],[(w.heap.size,5,1)]⟩]:List RegE),fitr4_g10C x w F FE DE DS IE IS MK y z4 z6 z8 e_.i:=certs_reg (by kernel_rfl) _ (fun sz=>by kernel_rfl)
 refine holds_mixG (vs:=(fitr4_g10v x w IE IS z4)) (ms:=(fitr4_g10m x w F FE DE DS IE IS y z4 z6)) (stg:=(fitr4_g10t)) (J:=1) (sl':=[(1,(pt w.heap.size 0)),(2,(pt (w.heap.size + 1) 0)),(4,(pt z4 0))]) (bk':=(fitr4_b4 x w F FE DE DS IE IS y z4 z6)) (fun _ _ _=>False) [1,2,4] (by kernel_rfl) (by kernel_rfl) (by kernel_rfl) (fun _ _ _ _ h=>h.elim) (certs_mix fitr4_g10_R [2,5,8] ⟨fitr4_g10_c2,fitr4_g10_c5,fitr4_g10_c8,tI⟩ (by kernel_rfl)) (by kernel_rfl) (by kernel_rfl) (by kernel_rfl) (fun z10 hz10=>?_)
 replace hz10:z8 ≤ z10:=hz10
 refine hgE 7 [oh0,(oA 0 6 1)] [1,2,4,44] [] [(w.heap.size,6,1)] [.ops [1,1,1,1,0,1,0,1,0] [2,3,4],.code [1,1,1,1,0,1,0,1,1],.code [1,1,1,1,1]] ⟨[(1,(pt w.heap.size 0)),(2,(pt (w.heap.size + 1) 0)),(4,(pt z4 0)),(44,i6 x.mask)],(fitr4_b4 x w F FE DE DS IE IS y z4 z6),[],z10⟩ ?_
 refine hcp (i6 MK) 19 [i6 x.mask,i6 64] (some 45) [] tI rfl (fun wx hm=>pick8 _ _ _ hMK wx (by omega) (by omega) hx.mask) fun z12 hz12=>?_
 replace hz12:z10 ≤ z12:=hz12
 refine hgE 10 [oh0,(oA 2 8 1),oh0,(oA 0 8 1),oh0] [2,4,49] [] [(z4,8,1),(w.heap.size,8,1)] [.ops [1,1,1,1,0,1,0,1,1] [3,4,5,6,7],.code [1,1,1,1,1]] ⟨[(2,(pt (w.heap.size + 1) 0)),(4,(pt z4 0)),(49,.slice (some ⟨z12,0,none⟩) 1 1)],[⟨w.heap.size,35,true,(fitr4_v1 x)⟩,⟨w.heap.size + 1,25,true,(fitr4_v2)⟩,⟨z4,25,true,(fitr4_v8 x F FE DE DS IE IS MK)⟩,⟨z6,9,true,[sT x.block]⟩,⟨y.1,9,true,(sT (strL 16 x.block) :: y.2.2)⟩,⟨z12,9,true,[sT x.staged]⟩],[],z12 + 1⟩ ?_
 refine holds_callX (X:=Nat × Nat × List Value) (fun y2=>z12 + 1 ≤ y2.1) (fun y2=>.slice (some ⟨y2.1,0,none⟩) 1 y2.2.1) (fun y2=>[⟨w.heap.size,35,true,(fitr4_v1 x)⟩,⟨w.heap.size + 1,25,true,(fitr4_v2)⟩,⟨z4,25,true,(fitr4_v8 x F FE DE DS IE IS MK)⟩,⟨z6,9,true,[sT x.block]⟩,⟨y.1,9,true,(sT (strL 16 x.block) :: y.2.2)⟩,⟨z12,9,true,[sT x.staged]⟩,⟨y2.1,9,true,(sT (strL 16 x.staged) :: y2.2.2)⟩]) (fun y2=>[(50,.slice (some ⟨y2.1,0,none⟩) 1 y2.2.1),(2,(pt (w.heap.size + 1) 0)),(4,(pt z4 0)),(49,.slice (some ⟨z12,0,none⟩) 1 1)]) (show _ = some (37,[.slice (some ⟨z12,0,none⟩) 1 1,i6 1,i6 16],some 50,[]) by kernel_rfl) tI (fun _=>rfl) (fun wx hm=>?_) ?_
 ·refine (texts_any _ _ wx (hm.at_ 5 rfl)).mono fun e w' he=>?_
  obtain ⟨y,h1,h2,h3,h4⟩:=he
  rw [hm.size] at h1
  have h5:=hm.add h4 [⟨y.1,9,true,.string (strL 16 x.staged) :: y.2.2⟩] ⟨h3,trivial⟩ (by simpa using h1) (by simp)
  exact ⟨y,h1,h2,h5⟩
 intro y2 hy2 z14 hz14
 replace hz14:z12 + 1 ≤ z14:=hz14
 refine hgE 13 [oh2,(oA 6 0 1),oh0,(oA 2 9 1),(oA 2 0 10),(oA 1 0 10)] [2] [oE ((0:Int) ≤ 0 ∧ 0 < ((1:Nat):Int))] [(y2.1,0,1),(z4,9,1),(z4,0,10),(w.heap.size + 1,0,10)] [.code [1,1,1,1,1,1]] ⟨[(2,(pt (w.heap.size + 1) 0))],[⟨w.heap.size,35,true,(fitr4_v1 x)⟩,⟨w.heap.size + 1,25,true,(fitr4_v9 x F FE DE DS IE IS MK)⟩,⟨z4,25,true,(fitr4_v9 x F FE DE DS IE IS MK)⟩,⟨z6,9,true,[sT x.block]⟩,⟨y.1,9,true,(sT (strL 16 x.block) :: y.2.2)⟩,⟨z12,9,true,[sT x.staged]⟩,⟨y2.1,9,true,(sT (strL 16 x.staged) :: y2.2.2)⟩],[],z14⟩ ?_
 refine hrt [[⟨false,1,0,10⟩]] [.agg (List.toArray (fitr4_v9 x F FE DE DS IE IS MK))] [(w.heap.size + 1,0,10)] ?_
 intro wx hm
 have e:∀ u v:Bool,u = true → v = true → Ending.returned (.agg #[.bool u,.int .i64 FE,.int .i64 DE,.int .i64 DS,.string (strL 16 x.block),.bool v,.int .i64 IE,.int .i64 IS,.int .i64 MK,.string (strL 16 x.staged)]) = Ending.returned (.agg (List.toArray (fitr4_v5 x FE DE DS IE IS MK))):=by
  intro u v h1 h2
  subst h1 h2
  rfl
 exact ⟨e (decide ((F:Int) > 0)) (decide ((F:Int) > 3)) (decide_eq_true (by omega)) (decide_eq_true (by omega)),hm.kept⟩
def fitR (x:Raw8):RecM:=
 if pickZ x.flags 8 = 0 then blankR (pickZ x.fence 16777216)
 else if pickZ x.flags 8 ≤ 3 then ⟨true,pickZ x.fence 16777216,pickZ x.epoch 16777216,pickZ x.seq 16777216,strL 16 x.block,false,0,0,0,noText⟩
 else ⟨true,pickZ x.fence 16777216,pickZ x.epoch 16777216,pickZ x.seq 16777216,strL 16 x.block,true,pickZ x.ie 16777216,pickZ x.is 16777216,pickZ x.mask 64,strL 16 x.staged⟩
theorem fitR_any (x:Raw8) (hx:Raw8Ok x) (w:World):Calls Try.prog 18 #[.agg #[.int .i64 x.flags,.int .i64 x.fence,.int .i64 x.epoch,.int .i64 x.seq,.int .i64 x.ie,.int .i64 x.is,.int .i64 x.mask,.string x.block,.string x.staged]] w (RetK (.agg (fitR x).cells.toArray) w):=by
 have hb:=pickZ_bd x.flags 8 (by omega)
 have hK:pickZ x.flags 8 = 0 ∨ (1 ≤ pickZ x.flags 8 ∧ pickZ x.flags 8 ≤ 3) ∨ (4 ≤ pickZ x.flags 8 ∧ pickZ x.flags 8 ≤ 7):=by omega
 rcases hK with hK | hK | hK
 ·have e:fitR x = _:=if_pos hK
  rw [e]
  exact fitr_0 x _ _ hx rfl (by omega) rfl w
 ·have e:fitR x = _:=(if_neg (by omega)).trans (if_pos (by omega))
  rw [e]
  exact fitr_1 x _ _ _ _ hx rfl (by omega) rfl rfl rfl w
 ·have e:fitR x = _:=(if_neg (by omega)).trans (if_neg (by omega))
  rw [e]
  exact fitr_4 x _ _ _ _ _ _ _ hx rfl (by omega) rfl rfl rfl rfl rfl rfl w
end Go.Proofs.Ytpilmccjjbgmiaa
