import Derived.Test.YtcmpkkapkdlfhaaGreatPick5
import Derived.Laws.OwnMore
namespace Go.Proofs.YtcmpkkapkdlfhaaGreat
open Go.RowKit Tryz
set_option maxHeartbeats 4000000
set_option maxRecDepth 100000
variable (N S st nd c:Int)
theorem k9(d:3<=N∧N<=6∧1<=S∧S<=8)(w:World):aC 26 #[.agg #[i6 N,i6 S]] w (bf (bO_ true) w):=by
 refine cH (S:=z8) (n:=14) func26 (ab.none w _) ?_;refine z6 23 (dz 14 0x2022010108022010008002000800) [2] [vV,vV,vV,vV,vV] [(w.z,0,2),(w.z,0,1),(w.z,1,1)] [.code [1,1]] [⟨w.z,23,true,[i6 N,i6 S]⟩] [] (w.z+1) ?_;refine B1 [] [bO_ (((N:Int)==(jC (mv N 3) 6))&&(((S:Int)==(jC (mv S 1) 8))&&true))] [] ?_;intro e c;have a:jC (mv N 3) 6=N:=by unfold jC mv;split<;>split<;>omega
 have b:jC (mv S 1) 8=S:=by unfold jC mv;split<;>split<;>omega
 exact⟨dk (by rw[a,b];simp),c.x2⟩
theorem En(d:3<=N∧N<=6∧1<=S∧S<=8)(h:0<=st∧st<S∧0<=c∧c<N)(w:World):aC 104 #[.agg #[i6 N,i6 S],i6 st,i6 c] w (bf (bO_ true) w):=by
 refine cH (S:=z8) (n:=29) func104 (ab.none w _) ?_;refine z6 11 (dz 3 33556480) [1,2,3,6,7] [] [(w.z,0,2)] [.ops [1,0] [1,2,3,4,5,6,7,8,9,10,11,12,13,14,15,16,17,18,19,20,21,22],.code [1,1]] [⟨w.z,23,true,[i6 N,i6 S]⟩] [] (w.z+1) ?_;refine DV (bO_ true) _ _ (some 8) [] tI rfl (λb a=>k9 N S d b) λe f=>?_;refine z6 25 (dz 21 0x310100091103110310101091103110) [6] ([tT,tT,tT]++rE 5 (dT ((st:Int)>=0))++rE 3 (dT ((st:Int)<S))++rE 5 (dT ((c:Int)>=0))) [(w.z,1,1),(w.z,0,1)] [.code [1,1]] [⟨w.z,23,true,[i6 N,i6 S]⟩] [] e ?_;refine B1 [] [bO_ (decide ((c:Int)<N))] [] ?_;intro b a;exact⟨dk (dc yq),a.x2⟩
theorem Eo(d:3<=N∧N<=6∧1<=S∧S<=8)(h:0<=st∧st<S∧c<0)(w:World):aC 104 #[.agg #[i6 N,i6 S],i6 st,i6 c] w (bf (bO_ false) w):=by
 refine cH (S:=z8) (n:=29) func104 (ab.none w _) ?_;refine z6 11 (dz 3 33556480) [1,2,3,6,7] [] [(w.z,0,2)] [.ops [1,0] [1,2,3,4,5,6,7,8,9,10,11,12,13,14,15,16,17,18,19,20,21,22],.code [1,1]] [⟨w.z,23,true,[i6 N,i6 S]⟩] [] (w.z+1) ?_;refine DV (bO_ true) _ _ (some 8) [] tI rfl (λb a=>k9 N S d b) λe f=>?_;refine z6 25 (dz 21 0x4000003110310101091103110) [6] ([tT,tT,tT]++rE 5 (dT ((st:Int)>=0))++rE 3 (dT ((st:Int)<S))++rE 5 (dF ((c:Int)>=0))) [(w.z,1,1)] [.code [1,1]] [⟨w.z,23,true,[i6 N,i6 S]⟩] [] e ?_;refine B1 [] [bO_ false] [] ?_;intro b a;exact⟨rfl,a.x2⟩
theorem eG(c:3<=N∧N<=6∧1<=S∧S<=8)(w:World):aC 76 #[.agg #[i6 N,i6 S]] w (bf (i6 (N-1)) w):=by
 refine cH (S:=z8) (n:=9) func76 (ab.none w _) ?_;refine z6 12 (dz 3 33556480) [1,2,3] [] [(w.z,0,2)] [.ops (Ac 12) [1,2],y6 13,.code [1,1]] [⟨w.z,23,true,[i6 N,i6 S]⟩] [] (w.z+1) ?_;refine DV (bO_ true) _ _ (some 4) [] tI rfl (λb a=>k9 N S c b) λd e=>?_;refine z6 14 (dz 6 0x2010008000) [2] [fF,JL (N-1)] [(w.z,0,1)] [y6 15] [⟨w.z,23,true,[i6 N,i6 S]⟩] [] d ?_;refine B1 [] [i6 (N-1)] [] ?_;intro b a;exact⟨rfl,a.x2⟩
theorem Ep(c:3<=N∧N<=6∧1<=S∧S<=8)(w:World):aC 75 #[.agg #[i6 N,i6 S]] w (bf (i6 (S*(N-1))) w):=by
 refine cH (S:=z8) (n:=12) func75 (ab.none w _) ?_;have e:0<=S*(N-1):=Int.mul_nonneg yq yq;have f:S*(N-1)<=8*5:=Int.mul_le_mul yq yq yq yq;refine z6 12 (dz 3 33556480) [1,2,3] [] [(w.z,0,2)] [.ops (Ac 12) [1,2],y6 13,.code [1,1]] [⟨w.z,23,true,[i6 N,i6 S]⟩] [] (w.z+1) ?_;refine DV (bO_ true) _ _ (some 4) [] tI rfl (λb a=>k9 N S c b) λd g=>?_;refine z6 17 (dz 9 0x220100080010108000) [2] [fF,JL (N-1),JL (S*(N-1))] [(w.z,1,1),(w.z,0,1)] [y6 15] [⟨w.z,23,true,[i6 N,i6 S]⟩] [] d ?_;refine B1 [] [i6 (S*(N-1))] [] ?_;intro b a;exact⟨rfl,a.x2⟩
theorem su(d:3<=N∧N<=6∧1<=S∧S<=8)(h:0<=st∧st<S∧0<=c∧c<N)(w:World):aC 77 #[.agg #[i6 N,i6 S],i6 st,i6 c] w (bf (i6 ((c+st)%N)) w):=by
 refine cH (S:=z8) (n:=18) func77 (ab.none w _) ?_;refine z6 14 (dz 5 33556480) [1,2,3,6,7,8,9] [] [(w.z,0,2)] [.ops (Ac 12) [3,4],y6 13,.code [1,1]] [⟨w.z,23,true,[i6 N,i6 S]⟩] [] (w.z+1) ?_;refine DV (bO_ true) _ _ (some 10) [] tI rfl (λb a=>En N S st c d ⟨yq,yq,yq,yq⟩ b) λe f=>?_;refine z6 17 (dz 9 0x2010008020000) [6] [fF,JL (c+st),oE ((0:Int)<=(c+st)∧(0:Int)<N)] [(w.z,0,1)] [y6 15] [⟨w.z,23,true,[i6 N,i6 S]⟩] [] e ?_;refine B1 [] [i6 ((c+st)%N)] [] ?_;intro b a;exact⟨rfl,a.x2⟩
@[simp] def ww(N:Int)(S:Int)(w:World):ax:=[⟨w.z,23,true,[i6 N,i6 S]⟩]
theorem UE(w:World)(z2:Nat):Out.prune [6] (fu prog 24 w z8 (aj (aa (al f78) (Ac 14))) (aj (aa (al f78) (Ac 14))).toList ⟨[(1,i6 st),(2,i6 nd),(3,pt w.z 0),(6,i6 0)],ww N S w,[],z2⟩ [(false,.op y2),(false,.op y2),(false,.op (oA 0 0 1)),(false,.op HA),(false,.op y2),(false,.op y2),(false,.op (oA 0 0 1)),(false,.op HA),(false,.op HA),(false,.op y2),(false,.op (oA 0 0 1)),(false,.op HA),(false,.op y2)])=some ⟨[T0 .i64 (nd+N),(0:Int)<=st∧(0:Int)<N,T0 .i64 ((nd+N)-(st%N)),(0:Int)<=((nd+N)-(st%N))∧(0:Int)<N],aX [(w.z,0,1),(w.z,0,1),(w.z,0,1)],⟨[(6,i6 (((nd+N)-(st%N))%N))],ww N S w,[],z2⟩⟩:=v7
theorem xr(f:3<=N∧N<=6∧1<=S∧S<=8)(h:0<=st∧st<S∧0<=nd∧nd<N)(w:World):aC 78 #[.agg #[i6 N,i6 S],i6 st,i6 nd] w (bf (i6 ((nd+N-st%N)%N)) w):=by
 refine cH (S:=z8) (n:=24) func78 (ab.none w _) ?_;have g:0<=st%N∧st%N<N:=⟨eY _ yq,gy _ yq⟩;refine z6 14 (dz 5 33556480) [1,2,3,6,7,8,9] [] [(w.z,0,2)] [.ops (Ac 12) [3,4],y6 13,.code [1,1]] (ww N S w) [] (w.z+1) ?_;refine DV (bO_ true) _ _ (some 10) [] tI rfl (λc b=>En N S st nd f ⟨yq,yq,yq,yq⟩ c) λa i=>?_;refine Aq 8 (dz 2 0) [1,2,3,6] [fF] [] [y6 14,y6 15] ⟨[(1,i6 st),(2,i6 nd),(3,pt w.z 0),(6,i6 0)],ww N S w,[],a⟩ ?_;refine dm _ _ v7 v7 v7 (UE N S st nd w a) ⟨i0 yq,⟨yq,yq⟩,i0 yq,⟨yq,yq⟩,trivial⟩ λd e=>?_;replace e:a<=d:=e;refine z6 3 [] [6] [] [] [y6 15] (ww N S w) [] d ?_;refine B1 [] [i6 (((nd+N)-(st%N))%N)] [] ?_;intro c b;exact⟨rfl,b.x2⟩
theorem sI(c:3<=N∧N<=6∧1<=S∧S<=8)(h:0<=st∧st<S∧nd<0)(w:World):aC 78 #[.agg #[i6 N,i6 S],i6 st,i6 nd] w (bf (i6 (-1)) w):=by
 refine cH (S:=z8) (n:=24) func78 (ab.none w _) ?_;refine z6 14 (dz 5 33556480) [1,2,3,6,7,8,9] [] [(w.z,0,2)] [.ops (Ac 12) [3,4],y6 13,.code [1,1]] [⟨w.z,23,true,[i6 N,i6 S]⟩] [] (w.z+1) ?_;refine DV (bO_ false) _ _ (some 10) [] tI rfl (λb a=>Eo N S st nd c ⟨yq,yq,yq⟩ b) λd e=>?_;refine z6 10 (dz 3 16) [1,2,3,6] [tT] [] [y6 53,.code [1,1]] [⟨w.z,23,true,[i6 N,i6 S]⟩] [] d ?_;refine B1 [] [i6 (-1)] [] ?_;intro b a;exact⟨rfl,a.x2⟩
section
variable (N S b:Int)(w:World)
def PO:av:=[i6 (b/(N-1)),i6 (b%(N-1)),i6 (((b%(N-1))+(b/(N-1)))%N)]
@[simp] def o9:ax:=[⟨w.z,23,true,[i6 N,i6 S]⟩,⟨w.z+1,126,true,[i6 0,i6 0,i6 0]⟩]
theorem UF(z2:Nat):Out.prune [2,4,5,6,7] (fu prog 32 w z8 (aj (aa (al f45) (Ac 14))) (aj (aa (al f45) (Ac 14))).toList ⟨[(1,i6 b),(2,pt w.z 0),(4,pt (w.z+1) 0),(5,i6 0)],o9 N S w,[],z2⟩ [(false,.op y2),(false,.op (oA 0 0 2)),(false,.call (i6 (N-1))),(false,.op HA),(false,.op y2),(false,.op (oA 0 0 2)),(false,.call (i6 (N-1))),(false,.op HA),(false,.op y2),(false,.op y2)])=some ⟨[∀a,fU w z8 (o9 N S w) [] z2 a->aC 76 #[.agg #[i6 N,i6 S]] a (bf (i6 (N-1)) a),(0:Int)<=b∧(0:Int)<(N-1)∧b<=IntKind.max .i64,∀a,fU w z8 (o9 N S w) [] z2 a->aC 76 #[.agg #[i6 N,i6 S]] a (bf (i6 (N-1)) a),(0:Int)<=b∧(0:Int)<(N-1)],aX [(w.z,0,2),(w.z,0,2)],⟨[(2,pt w.z 0),(4,pt (w.z+1) 0),(5,i6 0),(6,i6 (b/(N-1))),(7,i6 (b%(N-1)))],o9 N S w,[],z2⟩⟩:=v7
end
theorem Su(b:Int)(d:3<=N∧N<=6∧1<=S∧S<=8)(h:0<=b∧b<S*(N-1))(w:World):aC 45 #[.agg #[i6 N,i6 S],i6 b] w (bf (.tuple #[.agg #[i6 (b/(N-1)),i6 (b%(N-1)),i6 ((b%(N-1)+b/(N-1))%N)],i6 0]) w):=by
 refine cH (S:=z8) (n:=32) func45 (ab.none w _) ?_;have j:0<=b/(N-1)∧b/(N-1)<S:=⟨Int.ediv_nonneg yq yq,Int.ediv_lt_of_lt_mul yq h.2⟩;have k:0<=b%(N-1)∧b%(N-1)<N-1:=⟨eY _ yq,gy _ yq⟩;have l:S*(N-1)<=8*5:=Int.mul_le_mul yq yq yq yq;refine z6 17 (dz 8 0x200080000000) [1,2,4,5,10,11,12] (rE 2 (dF ((b:Int)<0))) [(w.z,0,2)] [.ops (Ac 12) [5,6,7],y6 13,.code [1,1]] (o9 N S w) [] (w.z+2) ?_;refine DV (i6 (S*(N-1))) _ _ (some 13) [(decide ((b:Int)<0))=false] ⟨bZ yq,tI⟩ rfl (λa c=>Ep N S d a) λe m=>?_;refine Aq 9 (dz 3 64) [1,2,4,5] (rE 2 (dF ((b:Int)<0))++[dF ((b:Int)>=(S*(N-1)))]) [] [y6 14,y6 15] ⟨[(1,i6 b),(2,pt w.z 0),(4,pt (w.z+1) 0),(5,i6 0)],o9 N S w,[],e⟩ ?_;refine dm _ _ v7 v7 v7 (UF N S b w e) ⟨(λa c=>eG N S d a),⟨yq,yq,ky yq⟩,(λa c=>eG N S d a),⟨yq,yq⟩,trivial⟩ λf g=>?_;replace g:e<=f:=g;refine z6 10 (dz 5 33556480) [4,5,25,26,27,28,29] [] [(w.z,0,2)] [.ops (Ac 30) [5,6,7,8],y6 31] (o9 N S w) [] f ?_;refine DV (i6 (((b%(N-1))+(b/(N-1)))%N)) _ _ (some 30) [] tI rfl (λa c=>su N S (b/(N-1)) (b%(N-1)) d ⟨yq,yq,yq,yq⟩ a) λi o=>?_;refine z6 7 (dz 3 3146112) [4,5] [] [(w.z+1,0,3)] [y6 31] [⟨w.z,23,true,[i6 N,i6 S]⟩,⟨w.z+1,126,true,PO N b⟩] [] i ?_;refine B1 [[⟨false,1,0,3⟩]] [aE (PO N b),i6 0] [(w.z+1,0,3)] ?_;intro a c;exact⟨rfl,c.x2⟩
section
variable (a b:Int)(w:World)
@[simp] def Kj:ax:=[⟨w.z,23,true,[i6 a,i6 b]⟩,⟨w.z+1,23,true,[i6 0,i6 0]⟩]
def Co:bu:=[(1,pt w.z 0),(2,pt (w.z+1) 0)]
def wU:List (Option Value):=[some (pt w.z 0),some (i6 a),some (i6 (bU a 4)),some (i6 (3+(bU a 4))),some (pt w.z 1),some (i6 b),some (i6 (bU b 8)),some (i6 (1+(bU b 8))),some (.agg #[i6 (3+(bU a 4)),i6 (1+(bU b 8))]),some (.tuple #[])]
def QM:List (ax):=[Kj a b w,[⟨w.z,23,true,[i6 a,i6 b]⟩,⟨w.z+1,23,true,[i6 (3+(bU a 4)),i6 (1+(bU b 8))]⟩]]
def QN:List (bi):=[none,none,none,none,none,none,none,none,none,some 0]
theorem SX:gg prog (aj (aa (al f7) [1,0])) (slG (aj (aa (al f7) [1,0])) (wU a b w) (J3 (aj (aa (al f7) [1,0])) (Co w) 2) (aM (aj (aa (al f7) [1,0])) 2)) 2=some (25,[i6 a,i6 4],bV (aj (aa (al f7) [1,0])) 2,[]):=v7
theorem SY:gg prog (aj (aa (al f7) [1,0])) (slG (aj (aa (al f7) [1,0])) (wU a b w) (J3 (aj (aa (al f7) [1,0])) (Co w) 6) (aM (aj (aa (al f7) [1,0])) 6)) 6=some (25,[i6 b,i6 8],bV (aj (aa (al f7) [1,0])) 6,[]):=v7
theorem SZ:∀c,opG prog (aj (aa (al f7) [1,0])) ⟨slG (aj (aa (al f7) [1,0])) (wU a b w) (J3 (aj (aa (al f7) [1,0])) (Co w) 9) (aM (aj (aa (al f7) [1,0])) 9),Kj a b w,[],c⟩ 9 (oA 1 0 2)=some ([],aX [(w.z+1,0,2)],undef,[⟨w.z,23,true,[i6 a,i6 b]⟩,⟨w.z+1,23,true,[i6 (3+(bU a 4)),i6 (1+(bU b 8))]⟩],c):=λc=>v7
def Cp(c:Nat):Prop:=eQ (wpOp prog (aj (aa (al f7) [1,0])) (sem prog (al f7) (bodyPost prog f7 (bf (.agg #[i6 (3+bU a 4),i6 (1+bU b 8)]) w)) [.code [1,1]])) [] 12 (aj (aa (al f7) [1,0])) (J3 (aj (aa (al f7) [1,0])) (Co w) c) (QN) 1 (MG w z8 (QM a b w) [] (w.z+2)) (ao (Kj a b w)) (PvG (wU a b w) (λ_ _ _=>False)) c
end
theorem VS(a b:Int)(o:-9223372036854775808<=a∧a<=9223372036854775807)(p:-9223372036854775808<=b∧b<=9223372036854775807)(w:World):aC 7 #[.agg #[i6 a,i6 b]] w (bf (.agg #[i6 (3+bU a 4),i6 (1+bU b 8)]) w):=by
 refine cH (S:=z8) (n:=12) func7 (ab.none w _) ?_;have r:=fx a 4 yq;have t:=fx b 8 yq;refine Aq 9 (dz 2 0) [1,2] [] [] [.code [1,0],.code [1,1]] ⟨[(1,pt w.z 0),(2,pt (w.z+1) 0)],Kj a b w,[],w.z+2⟩ ?_;have k:Cp a b w 2:=qU (v:=i6 (bU a 4)) v7 v7 (SX a b w) trivial (λh c _ d=>Th a 4 _ rfl c yq yq yq);have l:Cp a b w 6:=qU (v:=i6 (bU b 8)) v7 v7 (SY a b w) trivial (λh c _ d=>Th b 8 _ rfl c yq yq yq);have m:Cp a b w 9:=cu (s:=0) (v:=undef) v7 v7 v7 v7 v7 (SZ a b w) trivial;have j:∀i∈(WU [0,4,8]++[rG 1 0 0 1 w.z,⟨3,HA,[JL (3+(bU a 4))],[]⟩,rG 5 0 1 1 w.z,⟨7,HA,[JL (1+(bU b 8))],[]⟩]:List jU),Cp a b w i.i:=dP v7 _ (λq=>v7);refine dO (vs:=wU a b w) (ms:=QM a b w) (Dt:=QN) (J:=1) (V9:=[(2,pt (w.z+1) 0)]) (Ex:=[⟨w.z,23,true,[i6 a,i6 b]⟩,⟨w.z+1,23,true,[i6 (3+(bU a 4)),i6 (1+(bU b 8))]⟩]) (λ_ _ _=>False) [2] v7 v7 v7 (λ_ _ _ _ g=>g.elim) (dW j [2,6,9] ⟨k,l,m,tI⟩ v7) v7 v7 v7 (λe f=>?_);replace f:w.z+2<=e:=f;refine z6 3 [] [2] [] [] [.code [1,1]] [⟨w.z,23,true,[i6 a,i6 b]⟩,⟨w.z+1,23,true,[i6 (3+(bU a 4)),i6 (1+(bU b 8))]⟩] [] e ?_;refine B1 [[⟨false,1,0,2⟩]] [.agg #[i6 (3+(bU a 4)),i6 (1+(bU b 8))]] [(w.z+1,0,2)] ?_;intro c d;exact⟨rfl,d.x2⟩
theorem Mq(N S:Int)(b:3<=N∧N<=6∧1<=S∧S<=8)(w:World):aC 29 #[.agg #[i6 N,i6 S]] w (bf (bO_ true) w):=by
 refine cH (S:=z8) (n:=21) func29 (ab.none w _) ?_;refine z6 30 (dz 21 0x3101010910310101091031010009100010008000) [2] (rE 4 (dT ((N:Int)>=3))++rE 4 (dT ((N:Int)<=6))++rE 4 (dT ((S:Int)>=1))) [(w.z,0,1),(w.z,0,1),(w.z,1,1),(w.z,1,1)] [.code [1,1]] [⟨w.z,23,true,[i6 N,i6 S]⟩] [] (w.z+1) ?_;refine B1 [] [bO_ (decide ((S:Int)<=8))] [] ?_;intro c a;exact⟨dk (dc yq),a.x2⟩
theorem uF(N S:Int)(c:3<=N∧N<=6∧1<=S∧S<=8)(w:World):aC 10 #[.agg #[i6 N,i6 S]] w (bf (i6 (S*(N-1))) w):=by
 refine cH (S:=z8) (n:=14) func10 (ab.none w _) ?_;have e:0<=S*(N-1):=Int.mul_nonneg yq yq;have f:S*(N-1)<=8*5:=Int.mul_le_mul yq yq yq yq;refine z6 11 (dz 3 33556480) [1,2,4] [] [(w.z,0,2)] [.ops [1,0] [1,2],.code [1,1]] [⟨w.z,23,true,[i6 N,i6 S]⟩] [] (w.z+1) ?_;refine DV (bO_ true) _ _ (some 5) [] tI rfl (λb a=>Mq N S c b) λd g=>?_;refine z6 23 (dz 11 0x22010008001010800000) [2] [fF,JL (N-1),JL (S*(N-1))] [(w.z,1,1),(w.z,0,1)] [y6 31] [⟨w.z,23,true,[i6 N,i6 S]⟩] [] d ?_;refine B1 [] [i6 (S*(N-1))] [] ?_;intro b a;exact⟨rfl,a.x2⟩
def Hv:av:=rp 16 (.int .u8 0)
def Hw:aH:=[1,1,0,1,0,0,1,0,0,1,1]
def V3(R:ct)(n:Nat)(d:Nat)(c:Nat)(w:World)  (m:Nat) (st:St) (b:World):Prop:=
 ∃(i:Nat)(A:aY)(a:Nat)(z:Nat),m+i=n∧i<=n∧ah b w.z 9 1 A i a (ba ((R.map (lz 16)).take i))∧st=⟨[(0,yt (ae d) n c),(1,i6 (n:Int)),(2,i6 16),(6,z7),(7,yt A i a),(8,i6 (i:Int))],[],[],z⟩
theorem FD(R:ct)(n e j:Nat)(ad:R.length=n)(a2:n<=9)(w:World)(H:e<w.z)(Z:∀(o:Nat)(t:Value),(ba R)[o]?=some t->w.cell? ⟨e,0+o,none⟩=some t):aC 24 #[yt (ae e) n j,i6 (n:Int),i6 16] w (λs v=>∃E F,s=.returned (yt E n F)∧ah v w.z 9 1 E n F (ba (R.map (lz 16)))∧au z8 w v):=by
 refine cH (S:=z8) (n:=33) func24 (ab.none w _) ?_;refine Aq 17 (dz 3 0) [0,1,2,6,7,8] [] [] [y6 58,.zq 0,y6 15] ⟨[(0,.slice (ae e) n j),(1,i6 (n:Int)),(2,i6 16),(6,z7),(7,z7),(8,i6 0)],[],[],w.z⟩ ?_;refine bm (w:=w) (S':=λ_=>False) (V3 R n e j w) n v7 (λa0 d=>⟨⟨0,none,0,_,yq,yq,ah.nil _ _ _ _,rfl⟩,d⟩) ?_;rintro O _ f ⟨a,g,h,aV,a4,a3,K,rfl⟩ y r X;by_cases u:a<n
 rotate_left
 ·skip;refine z6 17 (dz 6 0) [6] [dF (((a:Int):Int)<(n:Int))] [] [y6 31] [] [] f.z ?_;refine B1 [] [yt g a h] [] ?_;intro m d;obtain rfl:a=n:=by omega
  have L:=K.y4 (es:=[]) d.x2 (λp ⟨b,l,_⟩=>by cases l) rfl;rw[eX (by simp[ad])]at L;exact⟨g,h,rfl,L,(ab.A0 y d).x2⟩
 obtain⟨c,I⟩:∃c,R[a]?=some c:=⟨_,cx yq⟩;refine aD [⟨e,0+a*1,[sT c]⟩] (λ_ p A=>?_) ?_
 ·obtain rfl:=aG.1 A;exact⟨(λ⟨b,l,_⟩=>by cases l),cD H y.x2.size,ju (λo t z=>dl y.x2 H (Z o t z)) I⟩
 refine Aq 35 [y2,y2,y2,FN,y2,y2,y2,y2,y2,y2,y2,FN,y2,y2,y2,HA,⟨false,0,[⟨true,0,0,1⟩]⟩] [0,1,2,6,7,8,9,21,25] (rE 2 (dT (((a:Int):Int)<(n:Int)))++[oE ((0:Int)<=(a:Int)∧(a:Int)<((n:Nat):Int))]) [(e,0+a*1,1)] [.ops (Ac 14922) [5],.code Hw,.zq 1,y6 467,.inv r,.zq 0,y6 15] ⟨[(0,yt (ae e) n j),(1,i6 (n:Int)),(2,i6 16),(6,z7),(7,yt g a h),(8,i6 (a:Int)),(9,yt (ae f.z) 16 16),(21,yt (ae f.z) 16 16),(25,sT c)],[⟨f.z,5,true,Hv⟩],[⟨e,0+a*1,[sT c]⟩],f.z+1⟩ ?_;refine KV (dst:=some 26) (x:=Builtin.copy_ #[34,9] 3 #[yt (ae f.z) 16 16,sT c]) (i6 ((Nat.min (c.size) 16:Nat):Int)) [⟨f.z,5,true,fB (uS 16 c)⟩] v7 v7 rfl (λm d=>?_) λk M=>?_
 ·have G:=d.at_ 0 rfl;have u:=Dc (P:=prog) m 34 9 3 5 _ 16 16 _ c _ v7 v7 G (Nat.le_of_ble_eq_true v7);have q:=d.PA 0 (b:=⟨f.z,5,true,List.replicate 16 (.int .u8 0)⟩) (cs:=fB (uS 16 c)) rfl rfl (f9 m _ _) (by
   have:=gZ G (fB (uS 16 c));exact this)
  refine⟨_,u,?_⟩;rw[show(List.replicate 16 (Value.int .u8 0))=(Hv)from rfl]at q;have s:=Ns 16 c;rw[show(List.replicate 16 (Value.int .u8 0))=(Hv)from rfl]at s;rw[s];exact q
 replace M:f.z+1<=k:=M;refine Aq 7 (dz 2 0) [0,1,2,6,7,8,27,28] [] [] [.ops Hw [2,3,4,5],.zq 1,y6 467,.inv r,.zq 0,y6 15] ⟨[(0,yt (ae e) n j),(1,i6 (n:Int)),(2,i6 16),(6,z7),(7,yt g a h),(8,i6 (a:Int)),(27,yt g a h),(28,yt (ae f.z) 16 16)],[⟨f.z,5,true,fB (uS 16 c)⟩],[⟨e,0+a*1,[sT c]⟩],k⟩ ?_;refine fy (dst:=some 29) (x:=convert 34 9 (yt (ae f.z) 16 16)) (sT (lz 16 c)) v7 v7 rfl (λm d=>?_) ?_
 ·exact xb m _ _ 5 _ _ _ _ _ v7 v7 v7 (d.at_ 0 rfl) (sd _ _)
 refine Aq 4 [y2] [0,1,2,6,7,8,27,30] [] [] [.ops Hw [4,5],.zq 1,y6 467,.inv r,.zq 0,y6 15] ⟨[(0,yt (ae e) n j),(1,i6 (n:Int)),(2,i6 16),(6,z7),(7,yt g a h),(8,i6 (a:Int)),(27,yt g a h),(30,yt (ae k) 1 1)],[⟨f.z,5,true,fB (uS 16 c)⟩,⟨k,9,true,[sT (lz 16 c)]⟩],[⟨e,0+a*1,[sT c]⟩],k+1⟩ ?_;refine dE (w:=w) (S':=z8) (Y:=aO) (dst:=some 31) (x:=Builtin.append_ #[32,32] 32 #[yt g a h,yt (ae k) 1 1]) (λi=>yt i.1 (a+1) i.2) [] (λi U=>ah U w.z 9 1 i.1 (a+1) i.2 (ba ((R.map (lz 16)).take (a+1)))) (λi=>[(31,yt i.1 (a+1) i.2),(0,yt (ae e) n j),(1,i6 (n:Int)),(2,i6 16),(6,z7),(7,yt g a h),(8,i6 (a:Int)),(27,yt g a h),(30,yt (ae k) 1 1)]) v7 v7 (λ_=>rfl) (λm d=>?_) (λi T aq aR=>?_)
 ·have B:=K.y4 (es:=[]) d.x2 (λp ⟨b,l,_⟩=>by cases l) rfl;have C:=ab.A0 y d;obtain⟨Q,an,v,u,q,W,a1⟩:=ce (P:=prog) m w.z 32 32 9 (sT ⟨#[]⟩) 1 16 g a h (ba ((R.map (lz 16)).take a)) ⟨k,0,none⟩ 1 1 [sT (lz 16 c)] v7 v7 v7 (by decide) B rfl (λo x z=>by rw[bY,bG];exact(d.at_ 1 rfl).at_ z) (aU rfl) yq (by decide) C.x2.size;rw[show ba ((R.map (lz 16)).take a)++[sT (lz 16 c)]=ba ((R.map (lz 16)).take (a+1))by rw[List.take_add_one,ew,I];simp[ba]]at q;exact⟨(Q,an),v,u,q,(C.sub (Ex:=[]) z1).A3 (λ_ N=>N) W (λp A=>.inr (B.own p A).1) (bI (C.sub (Ex:=[]) z1) (bW B) rfl)⟩
 obtain⟨D,J⟩:=i;refine Aq 11 (dz 4 512) [0,1,2,6,7,8] [JL ((a:Int)+1)] [] [.inv r,.zq 0,y6 15] ⟨[(0,yt (ae e) n j),(1,i6 (n:Int)),(2,i6 16),(6,z7),(7,yt D (a+1) J),(8,i6 ((a:Int)+1))],[],[],T.z⟩ ?_;rw[<-aW a];intro V ak ac d;exact X (O-1) _ V ak yq ⟨a+1,D,J,_,yq,yq,aq.y4 (es:=[]) d.x2 (λp ⟨b,l,_⟩=>by cases l) rfl,rfl⟩ ac (ab.A0 aR d)
theorem Lj{lo:Nat}(F:aI)(m:W6 F)(R:ct)(n c g:Nat)(r:R.length=n)(l:n<=9)(w:World)(q:c<w.z)(o:∀(f:Nat)(v:Value),(ba R)[f]?=some v->w.cell? ⟨c,0+f,none⟩=some v)(p:F w):aC 24 #[yt (ae c) n g,i6 (n:Int),i6 16] w (λi e=>∃a b,i=.returned (yt a n b)∧F e∧ah e w.z 9 1 a n b (ba (R.map (lz 16)))∧au (dx lo w) w e):=
 (FD R n c g r l w q o).mono λ_ _ ⟨a,b,j,k,h⟩=>⟨a,b,j,m _ _ _ [] p h (λ_ d=>d.elim) rfl,k,h.mono λ_ _ d=>d.elim⟩
structure i1 where
 v:Nat->Int
 t:Nat->ByteArray
 b:Bool
structure yQ(x:i1):Prop where
 v:∀j,-9223372036854775808<=x.v j∧x.v j<=9223372036854775807
def i1.cells(x:i1):av:=[i6 (x.v 0),i6 (x.v 1),i6 (x.v 2),i6 (x.v 3),i6 (x.v 4),sT (x.t 0),i6 (x.v 5),i6 (x.v 6),i6 (x.v 7),i6 (x.v 8),i6 (x.v 9),i6 (x.v 10),bO_ x.b,i6 (x.v 11),i6 (x.v 12),i6 (x.v 13),i6 (x.v 14),i6 (x.v 15),i6 (x.v 16),i6 (x.v 17),i6 (x.v 18),sT (x.t 1),i6 (x.v 19),i6 (x.v 20),i6 (x.v 21),i6 (x.v 22),i6 (x.v 23),i6 (x.v 24),i6 (x.v 25),sT (x.t 2),sT (x.t 3)]
def Xb(x:i1):Int:=1+bU (x.v 1) 7/3
def Xz(S N:Int)(x:i1):Int:=if Xb x=3 then bU (x.v 2) S else bU (x.v 2) (S*(N-1))
def XS(x:i1):ByteArray:=if Xb x=2 then lz 16 (x.t 0)else⟨#[]⟩
section
variable (N S:Int)(x:i1)(w:World)(a:Nat)
def jG:av:=[i6 (1+((bU (x.v 1) 7)/3)),i6 (bU (x.v 2) (S*(N-1))),sT ⟨#[]⟩]
def mI:av:=[i6 (x.v 0),i6 (x.v 1),i6 (x.v 2),i6 (x.v 3),i6 (x.v 4),sT (x.t 0),i6 (x.v 5),i6 (x.v 6),i6 (x.v 7),i6 (x.v 8),i6 (x.v 9),i6 (x.v 10),bO_ x.b,i6 (x.v 11),i6 (x.v 12),i6 (x.v 13),i6 (x.v 14),i6 (x.v 15),i6 (x.v 16),i6 (x.v 17),i6 (x.v 18),sT (x.t 1),i6 (x.v 19),i6 (x.v 20),i6 (x.v 21),i6 (x.v 22),i6 (x.v 23),i6 (x.v 24),i6 (x.v 25),sT (x.t 2),sT (x.t 3)]
def FE:av:=((jG N S x).set 2 (sT (lz 16 (x.t 0))))
@[simp] def NX:ax:=[⟨w.z,23,true,[i6 N,i6 S]⟩,⟨w.z+1,47,true,mI x⟩,⟨w.z+2,38,true,[i6 0,i6 0,sT ⟨#[]⟩]⟩]
@[simp] def NY(d:bi):ax:=[⟨w.z,23,true,[i6 N,i6 S]⟩,⟨w.z+1,47,true,mI x⟩,⟨w.z+2,38,true,[i6 0,i6 0,sT ⟨#[]⟩]⟩,⟨d.getD 0,38,true,jG N S x⟩]
@[simp] def vh:ax:=[⟨w.z,23,true,[i6 N,i6 S]⟩,⟨w.z+1,47,true,mI x⟩,⟨w.z+2,38,true,[i6 0,i6 0,sT ⟨#[]⟩]⟩,⟨a,38,true,jG N S x⟩]
@[simp] def FF(b:World)(a:Nat):ax:=[⟨w.z,23,true,[i6 N,i6 S]⟩,⟨w.z+1,47,true,mI x⟩,⟨w.z+2,38,true,[i6 0,i6 0,sT ⟨#[]⟩]⟩,⟨a,38,true,jG N S x⟩,⟨b.z,9,false,[sT (x.t 0)]⟩]
def Vp:Exit->Act->aI:=bodyPost prog f13 (λa b=>a=.returned (.agg #[i6 (Xb x),i6 (Xz S N x),sT (XS x)])∧au z8 w b)
def RN:bu:=[(2,pt w.z 0),(3,pt (w.z+1) 0),(4,pt (w.z+2) 0)]
def ID(d:bi):List (Option Value):=[some (pt (w.z+1) 1),some (i6 (x.v 1)),some (i6 (bU (x.v 1) 7)),some (i6 ((bU (x.v 1) 7)/3)),some (i6 (1+((bU (x.v 1) 7)/3))),some (pt (w.z+1) 2),some (i6 (x.v 2)),some (.agg #[i6 N,i6 S]),some (i6 (S*(N-1))),some (i6 (bU (x.v 2) (S*(N-1)))),some (aE (jG N S x)),some (pt (d.getD 0) 0),some (.tuple #[])]
def IE(d:bi)(k:Nat):Bool:=(fL 13 [(11,d.isSome)])[k]?.getD true
def zi(d:bi):List (ax):=[NX N S x w,NY N S x w d]
abbrev zj(w:World)(c:Nat)(d:bi)(b:World):Prop:=match c with|0=>(True)∧(∀a,d=some a->(w.z+3)<=a∧A2 b a 38 [i6 0,i6 0,sT ⟨#[]⟩])|1=>(w.z+3<=d.getD 0)∧True|_=>True
def lD(a:Nat):Prop:=cY prog f13 [1,0] 37 [] (Vp N S x w) [.code [1,1]] (RN w) (V7 13 [12]) 1 (ID N S x w) IE w (dx w.z w) (zi N S x w) (w.z+3) (zj w) a
end
theorem TJ(N S:Int)(x:i1)(a2:3<=N∧N<=6∧1<=S∧S<=8)(e:yQ x)(w:World):aC 13 #[.agg #[i6 N,i6 S],.agg #[i6 (x.v 0),i6 (x.v 1),i6 (x.v 2),i6 (x.v 3),i6 (x.v 4),sT (x.t 0),i6 (x.v 5),i6 (x.v 6),i6 (x.v 7),i6 (x.v 8),i6 (x.v 9),i6 (x.v 10),bO_ x.b,i6 (x.v 11),i6 (x.v 12),i6 (x.v 13),i6 (x.v 14),i6 (x.v 15),i6 (x.v 16),i6 (x.v 17),i6 (x.v 18),sT (x.t 1),i6 (x.v 19),i6 (x.v 20),i6 (x.v 21),i6 (x.v 22),i6 (x.v 23),i6 (x.v 24),i6 (x.v 25),sT (x.t 2),sT (x.t 3)]] w (λE u=>E=.returned (.agg #[i6 (Xb x),i6 (Xz S N x),sT (XS x)])∧au z8 w u):=by
 refine cH (S:=z8) (n:=37) func13 (ab.none w _) ?_;have X:2<=S*(N-1):=by
  have o:(1:Int)*2<=S*(N-1):=Int.mul_le_mul yq yq yq yq;omega
 have K:S*(N-1)<=8*5:=Int.mul_le_mul yq yq yq yq;have cs:=e.v 1;have cA:=e.v 2;have cr:=fx (x.v 1) 7 yq;refine Aq 10 (dz 3 0) [2,3,4] [] [] [.code [1,0],.code [1,1]] ⟨[(2,pt w.z 0),(3,pt (w.z+1) 0),(4,pt (w.z+2) 0)],NX N S x w,[],w.z+3⟩ ?_;have D:eh w (dx w.z w) (zi N S x w) (zj w):=by
  intro p a h u y c d e J
  match p,c,e with
  |0,c,e=>
   obtain rfl:=ap c;refine⟨trivial,λq A=>⟨(e.2 q A).1,(e.2 q A).2.x2 J (λ⟨ad,c,a3,a1⟩=>?_)⟩⟩;have co:=(e.2 q A).1;simp at c;rcases c with rfl|rfl|rfl<;>simp at a3 a1<;>omega
  |1,c,e=>
   obtain rfl:=ap c;exact e
  |p+2,c,e=>exact trivial
 have b8:lD N S x w 2:=eO (B:=1) (f:=11) (args:=λa=>[i6 (x.v 1),i6 7]) (ob:=λa=>[]) (λa=>i6 (bU (x.v 1) 7)) v7 (.inl rfl) (λa=>v7) (λa=>v7) (λa=>v7) (λa=>trivial) (λp a h y U c d e=>uG (x.v 1) 7 _ rfl h yq yq yq) D;have b9:lD N S x w 8:=eO (B:=1) (f:=10) (args:=λa=>[.agg #[i6 N,i6 S]]) (ob:=λa=>[]) (λa=>i6 (S*(N-1))) v7 (.inl rfl) (λa=>v7) (λa=>v7) (λa=>v7) (λa=>trivial) (λp a h y U c d e=>uF N S a2 h) D;have ca:lD N S x w 9:=eO (B:=1) (f:=11) (args:=λa=>[i6 (x.v 2),i6 (S*(N-1))]) (ob:=λa=>[]) (λa=>i6 (bU (x.v 2) (S*(N-1)))) v7 (.inl rfl) (λa=>v7) (λa=>v7) (λa=>v7) (λa=>trivial) (λp a h y U c d e=>uG (x.v 2) (S*(N-1)) _ rfl h yq yq yq) D;have cb:lD N S x w 11:=W1 0 38 [i6 0,i6 0,sT ⟨#[]⟩] (λ_ g=>some g) (λg=>pt g 0) (λp a h u y H c d e J a5 bd=>by
  have G:=D p a h u y c d e J
  match p,c,e,G,H with
  |0,c,e,G,H=>exact⟨G.1,(λq A=>by obtain rfl:=ap A;exact⟨a5,bd⟩)⟩
  |p+1,c,e,G,H=>exact absurd H yq)
 have cf:lD N S x w 12:=V8 (s:=0) (x:=λa=>Instr.storeAt 38 (pt (a.getD 0) 0) (aE (jG N S x))) (λ(a:bi)(_:Unit)=>a) (λa h y c d e b5=>by
  obtain rfl:=ap c;obtain⟨q,rfl⟩:∃q,a=some q:=cV.1 (b5 11 (aS (i:=0) v7) (d9 (k:=5) v7));obtain⟨b1,bb⟩:=e.2 q rfl;obtain⟨u,a0,a9,bl,bt⟩:=cG (P:=prog) (t:=38) (v:=aE (jG N S x)) v7 bb rfl (by show 0+3<=3;omega) (aU rfl) rfl;exact⟨(),u,a0,rfl,⟨b1,trivial⟩,d.Wc (g:=q) bl a9 yq (λad c E=>by simp at c;rcases c with rfl|rfl|rfl<;>dsimp only at E<;>omega),bC bt.symm⟩)
 have b7:∀aV∈(f5 1 [0,5,10]++[⟨1,1,oA 1 1 1,λ_=>[],λ_=>[(w.z+1,1,1)]⟩,⟨3,1,HA,λ_=>[oE ((0:Int)<=(bU (x.v 1) 7)∧(0:Int)<3∧(bU (x.v 1) 7)<=IntKind.max .i64) (⟨yq,yq,ky yq⟩)],λ_=>[]⟩,⟨4,1,HA,λ_=>[JL (1+((bU (x.v 1) 7)/3))],λ_=>[]⟩,⟨6,1,oA 1 2 1,λ_=>[],λ_=>[(w.z+1,2,1)]⟩,rY 7 1 0 0 2 w.z]:List (fG (bi))),lD N S x w aV.i:=bp _ D (λa=>v7) v7 (λa cq=>v7);have b6:∀V,V<13->lD N S x w V:=f6 (l:=[2,8,9,11,12]) v7 b7 ⟨b8,b9,ca,cb,cf,trivial⟩;refine bD (Δ:=bi) (dx w.z w) (ID N S x w) IE (zi N S x w) (zj w) [2,3,4,5] (λa=>[(2,pt w.z 0),(3,pt (w.z+1) 0),(4,pt (w.z+2) 0),(5,pt (a.getD 0) 0)]) (λa=>NY N S x w a) none (λ_ o=>o.elim) v7 v7 v7 (λh d=>⟨tI,λ_ o=>by cases o⟩) v7 b6 (λa=>v7) (λa=>v7) (λa m b2 W b0 C=>?_);obtain⟨b,rfl⟩:∃g,a=some g:=cV.1 (b2 11 (Nat.le_of_ble_eq_true v7) (d9 (k:=5) v7));replace W:w.z+3<=b:=W.1;replace C:ab w (dx w.z w) (vh N S x w b) [] m.z m:=C;change aF _ _ _ _ m (ao (vh N S x w b)) _ [.code [1,1]] ⟨[(2,pt w.z 0),(3,pt (w.z+1) 0),(4,pt (w.z+2) 0),(5,pt b 0)],vh N S x w b,[],m.z⟩;refine Aq 15 (dz 4 1049472) [2,3,4,5,18,19] [] [(b,0,1)] [y6 117,.zq 0,y6 15] ⟨[(2,pt w.z 0),(3,pt (w.z+1) 0),(4,pt (w.z+2) 0),(5,pt b 0),(18,i6 (1+((bU (x.v 1) 7)/3))),(19,bO_ ((1+((bU (x.v 1) 7)/3))==2))],vh N S x w b,[],m.z⟩ ?_;have cm:Xb x=1+((bU (x.v 1) 7)/3):=rfl;by_cases I:Xb x=2
 ·skip;refine Aq 8 (dz 4 17111041) [4,5,23] [oE (((1+((bU (x.v 1) 7)/3))==2)=true) (dC.2 yq)] [(w.z+1,5,1)] [.ops (Ac 234) [3,4,5,6,7],.zq 0,y6 15] ⟨[(4,pt (w.z+2) 0),(5,pt b 0),(23,yt (ae m.z) 1 1)],[⟨w.z,23,true,[i6 N,i6 S]⟩,⟨w.z+1,47,true,mI x⟩,⟨w.z+2,38,true,[i6 0,i6 0,sT ⟨#[]⟩]⟩,⟨b,38,true,jG N S x⟩,⟨m.z,9,true,[sT (x.t 0)]⟩],[],m.z+1⟩ ?_;refine dH (Ex:=FF N S x w m b) [true,true,true,true,false] rfl (λQ d Z=>?_);have X:ab w (dx (w.z) w) (FF N S x w m b) [] Q.z Q:=ab.A0 C Z;clear d Z;refine Ip (w:=w) (S':=dx (w.z) w) (Y:=(aY)×Nat) (λr=>yt r.1 1 r.2) (λr=>FF N S x w m b) (λr an=>True∧ah an w.z 9 1 r.1 1 r.2 (ba [lz 16 (x.t 0)])) (v7:_=some (24,[yt (ae m.z) 1 1,i6 1,i6 16],some 24,[])) tI (λh d=>?_) (λr ak bg K=>?_)
  ·have L:=(ab.A0 X d);refine(Lj (lo:=w.z) (λ_=>True) (λ_ _ _ _ _ _ _ _=>trivial) [x.t 0] 1 (m.z) 1 rfl yq h (d.at_ 4 rfl).lt (λj v z=>by rw[bG];exact(d.at_ 4 rfl).at_ z) trivial).mono λE u bs=>?_;obtain⟨O,R,bk,b3,b4,a8⟩:=bs;exact⟨(O,R),bk,⟨b3,b4.below L.x2.size⟩,L.A3 (λ_ o=>o) a8 (fq L.x2) (bI d (es:=fw) (λ_ o=>o.1) rfl)⟩
  obtain⟨O,R⟩:=r;obtain⟨ac,M⟩:=bg;replace ac:True:=ac;obtain⟨F,rfl,_⟩:=ah.cell (j:=0) (v:=sT (lz 16 (x.t 0))) M rfl;refine aD [⟨F,0,[sT (lz 16 (x.t 0))]⟩] (λ_ cl a4=>?_) ?_
  ·obtain rfl:=aG.1 a4;obtain⟨cn,aR,cp,a6,aq⟩:=ah.cell (j:=0) (v:=sT (lz 16 (x.t 0))) M rfl;cases aR;refine⟨λo=>aN rfl (M.ty F ⟨_,rfl,rfl⟩) (ag K _ o),a6,λj v z=>?_⟩
   match j,z with
   |0,z=>cases z;exact aq
  refine z6 14 [HA,⟨false,0,[⟨true,0,0,1⟩]⟩,y2,oA 3 2 1,oA 3 0 3,oA 2 0 3] [4] [oE ((0:Int)<=0∧0<((1:Nat):Int))] [(F,0,1),(b,2,1),(b,0,3),(w.z+2,0,3)] [y6 31] [⟨w.z,23,true,[i6 N,i6 S]⟩,⟨w.z+1,47,true,mI x⟩,⟨w.z+2,38,true,FE N S x⟩,⟨b,38,true,FE N S x⟩,⟨m.z,9,false,[sT (x.t 0)]⟩] [⟨F,0,[sT (lz 16 (x.t 0))]⟩] ak.z ?_;refine B1 [[⟨false,2,0,3⟩]] [aE (FE N S x)] [(w.z+2,0,3)] ?_;intro h d;exact⟨by unfold Xz XS;rw[aA I,ay yq];rfl,kx (ab.A0 K d).x2⟩
 by_cases T:Xb x=3
 ·skip;refine z6 15 (dz 8 0x10108001021801000) [4,5,31,33] [oE (((1+((bU (x.v 1) 7)/3))==2)=false) (cw.2 yq),oE (((1+((bU (x.v 1) 7)/3))==3)=true) (dC.2 yq)] [(w.z+1,2,1),(w.z,1,1)] [.ops (Ac 942) [4,5,6],.zq 0,y6 15] (vh N S x w b) [] m.z ?_;refine DV (i6 (bU (x.v 2) S)) 11 [i6 (x.v 2),i6 S] (some 34) [] tI rfl (λh d=>uG (x.v 2) S _ rfl h yq yq yq) λa7 b0=>?_;refine z6 12 (dz 4 0x300280300380101380) [4] [] [(b,1,1),(b,0,3),(w.z+2,0,3)] [y6 31] [⟨w.z,23,true,[i6 N,i6 S]⟩,⟨w.z+1,47,true,mI x⟩,⟨w.z+2,38,true,[i6 (1+((bU (x.v 1) 7)/3)),i6 (bU (x.v 2) S),sT ⟨#[]⟩]⟩,⟨b,38,true,[i6 (1+((bU (x.v 1) 7)/3)),i6 (bU (x.v 2) S),sT ⟨#[]⟩]⟩] [] a7 ?_;refine B1 [[⟨false,2,0,3⟩]] [.agg #[i6 (1+((bU (x.v 1) 7)/3)),i6 (bU (x.v 2) S),sT ⟨#[]⟩]] [(w.z+2,0,3)] ?_;intro h d;exact⟨by unfold Xz XS;rw[ay I,aA T];rfl,kx (ab.A0 C d).x2⟩
 refine z6 17 (dz 6 0x300280300380000) [4] [oE (((1+((bU (x.v 1) 7)/3))==2)=false) (cw.2 yq),oE (((1+((bU (x.v 1) 7)/3))==3)=false) (cw.2 yq)] [(b,0,3),(w.z+2,0,3)] [y6 31] [⟨w.z,23,true,[i6 N,i6 S]⟩,⟨w.z+1,47,true,mI x⟩,⟨w.z+2,38,true,jG N S x⟩,⟨b,38,true,jG N S x⟩] [] m.z ?_;refine B1 [[⟨false,2,0,3⟩]] [aE (jG N S x)] [(w.z+2,0,3)] ?_;intro h d;exact⟨by unfold Xz XS;rw[ay I,ay T];rfl,kx (ab.A0 C d).x2⟩
variable {w W:World}{v:Value}
theorem xD{v8 g:Nat}{t e:TypeId}{n cp:Nat}{cs:av}(h:ah w v8 e 1 (ae g) n cp cs)(k:Nat)(j:k<n)(hs:(prog.info? t).map (·.size)=some 1)(b:v.cells=#[v])(i:v.oneCell'=true) :
  ∃a,(Instr.storeAt t (pt g (0+k*1)) v).run prog w=.ok () a∧ah a v8 e 1 (ae g) n cp (cs.set k v)∧au (dg (ae g)) w a:=by
 have l:=h.len;obtain⟨a,d,c,f,_⟩:=fj (P:=prog) (t:=t) (v:=v) (0+k*1) 1 h (by rw[b];rfl) yq hs (by rw[b];simpa using i);refine⟨a,d,?_,f⟩;rw[show 0+k*1=k by omega,b]at c;rw[List.set_eq_take_append_cons_drop,aA yq];simpa using c
theorem KJ{T:br}{b o j:Nat}{x:i1}(i:au T w W)(g:∀a,T a->w.z<=a)(c:b<w.z)(h:∀j,j<31->w.cell? ⟨b,o+j,none⟩=x.cells[j]?)(d:x.cells[j]?=some v):W.cell? ⟨b,o+j,none⟩=some v:=by
 have f:j<31:=(cF.1 d).1;exact(i.cell (p:=⟨b,o+j,none⟩) c (λe=>absurd (g _ e) (Nat.not_le.2 c))).trans ((h j f).trans d)
theorem nE{bk:ax}{wn:List Wn}{d:Nat}(hm:ab w (dx w.z w) bk wn d W){y:Nat}(h:ao bk y):w.z<=y:=by
 obtain⟨a,b,c,rfl⟩:=h;exact(hm.own a b c).elim (λh=>h.2) id
def CV(w:World)(A:aY)(n:Nat)(f:Nat->i1):Prop:=
 ∀a,a<n->yQ (f a)∧∃b d,A=some ⟨b,d,none⟩∧b<w.z∧∀c,c<31->w.cell? ⟨b,d+a*31+c,none⟩=(f a).cells[c]?
theorem KH(n:Nat):(madeCells (Value.string ⟨#[]⟩).cells (n*1)).toList=ba (List.replicate n ⟨#[]⟩):=by
 rw[show(Value.string ⟨#[]⟩).cells=#[sT ⟨#[]⟩]from rfl,toList_madeCells_one,Nat.mul_one];simp[ba]
theorem KL{T:br}{b o j:Nat}{x:yO}(i:au T w W)(g:∀a,T a->w.z<=a)(c:b<w.z)(h:∀j,j<1->w.cell? ⟨b,o+j,none⟩=x.cells[j]?)(d:([i6 x.v]:av)[j]?=some v):W.cell? ⟨b,o+j,none⟩=some v:=by
 have f:j<1:=(cF.1 d).1;exact(i.cell (p:=⟨b,o+j,none⟩) c (λe=>absurd (g _ e) (Nat.not_le.2 c))).trans ((h j f).trans d)
theorem qH(a b:List ar):bP a++bP b=bP (a++b):=by simp[bP]
theorem KF(l:List ar):∀b∈bP l,b.oneCell'=true:=by
 intro b a;simp only[bP,List.mem_flatten,aT]at a;obtain⟨_,⟨c,_,rfl⟩,a⟩:=a;simp only[ar.cells,bj,cv,or_false]at a;rcases a with rfl|rfl|rfl|rfl|rfl|rfl|rfl|rfl|rfl|rfl|rfl|rfl|rfl<;>rfl
def H8:cj:=(bA 8 0)
def H9:cj:=(bA 8 27)
def sU:cj:=(bA 8 63)
section
variable (g n cp i:Nat)(w:World)(a:Nat)
def ul(v8:Nat)(l:List ar)(w:World):Exit->Act->aI:=bodyPost prog f73 (λb a=>b=.returned (yt (ae g) (n-1) cp)∧ah a v8 141 13 (ae g) (n-1) cp (bP (l.eraseIdx i))∧au (λc=>c=g) w a)
theorem Rp:iC [0,6,7,20,21,23,24] (fY prog 33 (aj (aa (al f73) (Ac 62))) 8 H8 ⟨[(0,yt (ae g) n cp),(1,i6 (i:Int)),(2,i6 ((i:Int)+1)),(6,z7),(7,i6 (n:Int))],[],[],w.z⟩ [(0,true,y2),(1,true,y2),(3,true,y2),(4,true,y2)])=some (⟨[],aX [],⟨[(0,yt (ae g) n cp),(6,z7),(7,i6 (n:Int)),(20,yt (ae g) n cp),(21,i6 (i:Int)),(23,yt (ae g) n cp),(24,i6 ((i:Int)+1))],[],[],w.z⟩⟩,4,H9):=v7
theorem Rq:Out.prune [0,6,7,22,25] (jd prog 33 (aj (aa (al f73) (Ac 62))) ⟨[(0,yt (ae g) n cp),(6,z7),(7,i6 (n:Int)),(22,yt (ae g) i cp),(23,yt (ae g) n cp),(24,i6 ((i:Int)+1))],[],[],a⟩ 5 WG)=some ⟨[((0:Int)<=((i:Int)+1)∧((i:Int)+1)<=((n:Nat):Int))∧True],aX [],⟨[(0,yt (ae g) n cp),(6,z7),(7,i6 (n:Int)),(22,yt (ae g) i cp),(25,yt (some ⟨g,bif Nat.beq cp (i+1)then 0 else 0+(i+1)*13,none⟩) (n-(i+1)) (cp-(i+1)))],[],[],a⟩⟩:=v7
theorem Rr:Out.prune [0,6,7,22,25] (jd prog 33 (aj (aa (al f73) (Ac 62))) ⟨[(0,yt (ae g) n cp),(6,z7),(7,i6 (n:Int)),(20,yt (ae g) n cp),(21,i6 (i:Int)),(25,yt (some ⟨g,bif Nat.beq cp (i+1)then 0 else 0+(i+1)*13,none⟩) (n-(i+1)) (cp-(i+1)))],[],[],a⟩ 2 HA)=some ⟨[(0:Int)<=(i:Int)∧(i:Int)<=((cp:Nat):Int)],aX [],⟨[(0,yt (ae g) n cp),(6,z7),(7,i6 (n:Int)),(22,yt (ae g) i cp),(25,yt (some ⟨g,bif Nat.beq cp (i+1)then 0 else 0+(i+1)*13,none⟩) (n-(i+1)) (cp-(i+1)))],[],[],a⟩⟩:=v7
theorem Rs:Out.prune [0,6,7,22,23,24] (jd prog 33 (aj (aa (al f73) (Ac 62))) ⟨[(0,yt (ae g) n cp),(6,z7),(7,i6 (n:Int)),(20,yt (ae g) n cp),(21,i6 (i:Int)),(23,yt (ae g) n cp),(24,i6 ((i:Int)+1))],[],[],a⟩ 2 HA)=some ⟨[(0:Int)<=(i:Int)∧(i:Int)<=((cp:Nat):Int)],aX [],⟨[(0,yt (ae g) n cp),(6,z7),(7,i6 (n:Int)),(22,yt (ae g) i cp),(23,yt (ae g) n cp),(24,i6 ((i:Int)+1))],[],[],a⟩⟩:=v7
theorem Rt:Out.prune [0,6,7,20,21,25] (jd prog 33 (aj (aa (al f73) (Ac 62))) ⟨[(0,yt (ae g) n cp),(6,z7),(7,i6 (n:Int)),(20,yt (ae g) n cp),(21,i6 (i:Int)),(23,yt (ae g) n cp),(24,i6 ((i:Int)+1))],[],[],a⟩ 5 WG)=some ⟨[((0:Int)<=((i:Int)+1)∧((i:Int)+1)<=((n:Nat):Int))∧True],aX [],⟨[(0,yt (ae g) n cp),(6,z7),(7,i6 (n:Int)),(20,yt (ae g) n cp),(21,i6 (i:Int)),(25,yt (some ⟨g,bif Nat.beq cp (i+1)then 0 else 0+(i+1)*13,none⟩) (n-(i+1)) (cp-(i+1)))],[],[],a⟩⟩:=v7
theorem Ru(a:World):iC [0,6,7] (fY prog 33 (aj (aa (al f73) (Ac 62))) 1 (bA 8 127) ⟨[(26,yt (ae g) (n-1) cp),(0,yt (ae g) n cp),(6,z7),(7,i6 (n:Int)),(22,yt (ae g) i cp),(25,yt (some ⟨g,bif Nat.beq cp (i+1)then 0 else 0+(i+1)*13,none⟩) (n-(i+1)) (cp-(i+1)))],[],[],a.z⟩ [(7,false,y2)])=some (⟨[],aX [],⟨[(0,yt (ae g) (n-1) cp),(6,z7),(7,i6 (n:Int))],[],[],a.z⟩⟩,0,bA 8 255):=v7
end
theorem EQ(g n cp i v8:Nat)(l:List ar)(N:l.length=n)(a9:i<n)(bb:n<=64)(w:World)(y:ah w v8 141 13 (ae g) n cp (bP l)):aC 73 #[yt (ae g) n cp,i6 (i:Int),i6 ((i:Int)+1)] w (λr k=>r=.returned (yt (ae g) (n-1) cp)∧ah k v8 141 13 (ae g) (n-1) cp (bP (l.eraseIdx i))∧au (λx=>x=g) w k):=by
 refine cH (S:=z8) (n:=33) func73 (ab.none w _) ?_;obtain⟨c,M,bd,F,a0⟩:∃c,A2 w g 141 (bP l++c)∧n<=cp∧cp<=maxLen∧(bP l++c).length=cp*13:=by
  rcases y.zq with⟨b,_⟩|⟨L,c,b,_,j,o,u,v⟩
  ·cases b
  ·cases b
   exact⟨c,j,o,u,v⟩
 refine Aq 32 (dz 14 33554432) [0,1,2,6,7] [oE (((0:Int)<=(i:Int)∧(i:Int)<=((i:Int)+1)∧((i:Int)+1)<=(n:Int)∧(n:Int)<=((cp:Nat):Int))∧i<n),oE (((i:Int)==((i:Int)+1))=false) (cw.2 yq)] [] [y6 62,y6 63] ⟨[(0,yt (ae g) n cp),(1,i6 (i:Int)),(2,i6 ((i:Int)+1)),(6,z7),(7,i6 (n:Int))],[],[],w.z⟩ ?_;refine um (f:=8) (ls:=H8) v7 v7 v7 v7 ?_;refine dI cW _ _ (Rp g n cp i w) trivial ?_;suffices Q:∀a:Nat,w.z<=a->aF [] prog (al f73) 33 w z8 (ul g n cp i v8 l w) [.any [1,1,1,1,0] 2 sU,y6 63] ⟨[(0,yt (ae g) n cp),(6,z7),(7,i6 (n:Int)),(22,yt (ae g) i cp),(25,yt (some ⟨g,bif Nat.beq cp (i+1)then 0 else 0+(i+1)*13,none⟩) (n-(i+1)) (cp-(i+1)))],[],[],a⟩by
  have G:∀a:Nat,w.z<=a->aF [] prog (al f73) 33 w z8 (ul g n cp i v8 l w) [.any [1,1,1,1,0] 2 sU,y6 63] ⟨[(0,yt (ae g) n cp),(6,z7),(7,i6 (n:Int)),(22,yt (ae g) i cp),(25,yt (some ⟨g,bif Nat.beq cp (i+1)then 0 else 0+(i+1)*13,none⟩) (n-(i+1)) (cp-(i+1)))],[],[],a⟩:=by
   intro a e;exact Q a e
  have a3:∀a:Nat,w.z<=a->aF [] prog (al f73) 33 w z8 (ul g n cp i v8 l w) [.any [1,1,1,1,0] 3 (bA 8 31),y6 63] ⟨[(0,yt (ae g) n cp),(6,z7),(7,i6 (n:Int)),(22,yt (ae g) i cp),(23,yt (ae g) n cp),(24,i6 ((i:Int)+1))],[],[],a⟩:=by
   intro a e;exact iq (l:=[5]) v7 z1 ⟨pA (ls':=sU) v7 (Rq g n cp i a) ⟨⟨yq,tI⟩,tI⟩ (G a e),tI⟩
  have a4:∀a:Nat,w.z<=a->aF [] prog (al f73) 33 w z8 (ul g n cp i v8 l w) [.any [1,1,1,1,0] 3 (bA 8 59),y6 63] ⟨[(0,yt (ae g) n cp),(6,z7),(7,i6 (n:Int)),(20,yt (ae g) n cp),(21,i6 (i:Int)),(25,yt (some ⟨g,bif Nat.beq cp (i+1)then 0 else 0+(i+1)*13,none⟩) (n-(i+1)) (cp-(i+1)))],[],[],a⟩:=by
   intro a e;exact iq (l:=[2]) v7 z1 ⟨pA (ls':=sU) v7 (Rr g n cp i a) ⟨⟨yq,yq⟩,tI⟩ (G a e),tI⟩
  have a5:∀a:Nat,w.z<=a->aF [] prog (al f73) 33 w z8 (ul g n cp i v8 l w) [.any [1,1,1,1,0] 4 H9,y6 63] ⟨[(0,yt (ae g) n cp),(6,z7),(7,i6 (n:Int)),(20,yt (ae g) n cp),(21,i6 (i:Int)),(23,yt (ae g) n cp),(24,i6 ((i:Int)+1))],[],[],a⟩:=by
   intro a e;exact iq (l:=[2,5]) v7 z1 ⟨pA (ls':=bA 8 31) v7 (Rs g n cp i a) ⟨⟨yq,yq⟩,tI⟩ (a3 a e),pA (ls':=bA 8 59) v7 (Rt g n cp i a) ⟨⟨yq,tI⟩,tI⟩ (a4 a e),tI⟩
  exact a5 _ (bT _)
 intro a e;refine uo (i:=6) (ls':=bA 8 127) (w:=w) (S':=(λx=>x=g)) (Y:=Unit) (dst:=some 26) (x:=Builtin.append_ #[122,122] 122 #[yt (ae g) i cp,yt (some ⟨g,bif Nat.beq cp (i+1)then 0 else 0+(i+1)*13,none⟩) (n-(i+1)) (cp-(i+1))]) (λ_=>yt (ae g) (n-1) cp) [] (λ_ t=>ah t v8 141 13 (ae g) (n-1) cp (bP (l.eraseIdx i))) (λ_=>[(26,yt (ae g) (n-1) cp),(0,yt (ae g) n cp),(6,z7),(7,i6 (n:Int)),(22,yt (ae g) i cp),(25,yt (some ⟨g,bif Nat.beq cp (i+1)then 0 else 0+(i+1)*13,none⟩) (n-(i+1)) (cp-(i+1)))]) v7 v7 v7 v7 (λ_=>rfl) (λm h=>?_) (λ_ z U aq=>?_)
 ·obtain⟨a2,W,X⟩:=gv.1 (show(prog.info? 141).map (·.size)=some 13 by kernel_rfl);have an:(bP (l.take i)).length=i*13:=by rw[jt,dZ];omega
  have ad:(bP (l.drop (i+1))).length=(n-(i+1))*13:=by rw[jt,List.length_drop,N]
  have a1:bP l=bP (l.take (i+1))++bP (l.drop (i+1)):=by rw[qH,List.take_append_drop]
  have ac:(bP (l.take (i+1))).length=(i+1)*13:=by rw[jt,dZ];omega
  have D:=M.x2 h.x2 (λb=>b);have T:ah m v8 141 13 (ae g) i cp (bP (l.take i)):=by
   have p:bP l++c=bP (l.take i)++(bP (l.drop i)++c):=by rw[<-eA,qH,List.take_append_drop]
   exact jn (y.own g ⟨_,rfl,rfl⟩).1 (p▸D) yq F an (by rw[<-p];exact a0)
  obtain⟨k,B,j,o⟩:=run_append_fits (P:=prog) (w:=m) v8 122 122 141 a2 13 v7 W X g i cp (bP (l.take i)) T ⟨g,bif Nat.beq cp (i+1)then 0 else 0+(i+1)*13,none⟩ (n-(i+1)) (cp-(i+1)) (bP (l.drop (i+1))) ad (λs a7 C=>by
   have Z:=(cF.1 C).1;have aV:Nat.beq cp (i+1)=false:=by
    cases d:Nat.beq cp (i+1)with
    |false=>rfl
    |true=>have:=bH d;omega
   rw[aV,bY];refine(D.cell _).trans ?_;show(bP l++c)[0+(i+1)*13+s]?=_;rw[a1,eA,jY yq,ac,show 0+(i+1)*13+s-(i+1)*13=s by omega,ip Z];exact C) (KF _) yq
  have q:i+(n-(i+1))=n-1:=by omega
  rw[q]at B j;rw[qH,<-List.eraseIdx_eq_take_drop_succ]at j;exact⟨(),k,B,j,h.A3 (λ_ b=>b.elim) (au.Xr (S:=(λx=>x=g)) o (λa6 _ r=>by cases r;rfl)) (λx b=>.inl b) (λI d=>by cases d)⟩
 refine dI cW _ _ (Ru g n cp i z) trivial ?_;refine cd v7 ?_;refine Aq 10 (dz 5 131072) [0,6,31] [oE (((0:Int)<=(((n-1):Nat):Int)∧(((n-1):Nat):Int)<=(n:Int)∧(n:Int)<=((cp:Nat):Int))∧(n-1)<cp)] [] [.ops (Ac 126) [5],y6 127] ⟨[(0,yt (ae g) (n-1) cp),(6,z7),(31,yt (some ⟨g,0+(n-1)*13,none⟩) (n-(n-1)) (cp-(n-1)))],[],[],z.z⟩ ?_;refine qI (w:=w) (S':=(λx=>x=g)) (dst:=none) (x:=Builtin.clear_ #[122] 0 #[yt (some ⟨g,0+(n-1)*13,none⟩) (n-(n-1)) (cp-(n-1))]) (λ_=>.tuple #[]) (λ_ t=>ah t v8 141 13 (ae g) (n-1) cp (bP (l.eraseIdx i))) (λ_=>[(0,yt (ae g) (n-1) cp),(6,z7),(31,yt (some ⟨g,0+(n-1)*13,none⟩) (n-(n-1)) (cp-(n-1)))]) v7 v7 (λ_=>rfl) (λm h=>?_) (λ_ J V aR=>?_)
 ·have E:=U.x2 h.x2 (λ_ _ ⟨_,d,_⟩=>by cases d);obtain⟨O,R,bk,bg,H⟩:∃c,A2 m g 141 (bP (l.eraseIdx i)++c)∧n-1<=cp∧cp<=maxLen∧(bP (l.eraseIdx i)++c).length=cp*13:=by
   rcases E.zq with⟨b,_⟩|⟨L,c,b,_,j,o,u,v⟩
   ·cases b
   ·cases b
    exact⟨c,j,o,u,v⟩
  have ak:(bP (l.eraseIdx i)).length=(n-1)*13:=E.len;obtain⟨a8,k,p,q,A,K⟩:=E6 (P:=prog) m 122 141 0 13 (.agg #[i6 0,i6 0,i6 0,i6 0,i6 0,i6 0,i6 0,i6 0,i6 0,i6 0,sT ⟨#[]⟩,i6 0,i6 0]) g (n-1) (n-(n-1)) (cp-(n-1)) 141 (bP (l.eraseIdx i)++O) 112 v7 v7 rfl (by decide) rfl R yq (by rw[H];omega);rw[List.take_append_of_le_length yq,eX yq]at q A;exact⟨0,k,by rw[bG];exact p,jn (y.own g ⟨_,rfl,rfl⟩).1 q yq F ak (by rw[A,H]),ab.A3 (ab.A0 aq h) (λ_ b=>b) K (λ_ b=>.inl b) (λI d=>by cases d)⟩
 refine z6 9 (dz 2 0) [6] [] [] [y6 255] [] [] J.z ?_;refine B1 [] [yt (ae g) (n-1) cp] [] ?_;intro m h;exact⟨rfl,V.x2 h.x2 (λ_ _ ⟨_,d,_⟩=>by cases d),(ab.A0 aR h).x2⟩
theorem gk{c:Type}{B:Nat}{J:c->aI}(h:AbidesFrom B J){s:c}{W b:World}(hs:J s W)(a:au z8 W b):J s b:=
 h s W b none hs ⟨a.os,a.tape,a.output,a.size,λe f _=>a.block e f id⟩ (λ_ d=>by cases d)
theorem zf{D:List Deferred}{P:Program}{body:Code}{n:Nat}{w0:World}{S:br}{Q:Exit->Act->aI}{p:aH}{k:List KI}{st:St}(h:aF D P body n w0 S Q k st):aF D P body n w0 S Q (.ops p []::k) st:=h
theorem qV{w0 W:World}{f e i tI:TypeId}{c1 a c b cp:Nat}{d:Value}{j k:Int}{A:aY}{zL:List ar}{pre:aH}{xs:av}(h:uj w0 f e i c1 a c d (λW=>A2 W b tI xs) j k A cp zL pre W)(Wt:([c1,a,b]:aH).Nodup) :
  ab w0 (λ_=>True) [⟨c1,f,false,[pt c 0]⟩,⟨a,e,false,[d]⟩,⟨b,tI,false,xs⟩] [] W.z W:=
 ⟨rfl,by simpa using⟨h.c1,h.c2,h.x⟩,λ_ _ _=>.inl trivial,by simpa using Wt,h.kp,λ_ g=>by cases g⟩
def Fu(o:ar):av:=([i6 o.to,i6 o.id]++o.q.cells++[i6 o.asked,i6 o.ES])
variable (w0:World)(c1 b c:Nat)(o:ar)(a cp n:Nat)(d zv ya:Int)(A:aY)(zL:List ar)
theorem Le(a:Nat)(hw:-9223372036854775808<=ya-o.ES∧ya-o.ES<=9223372036854775807)(w:World)(c:A2 w a 3 [i6 ya]):aC 60 #[.agg #[i6 o.to,i6 o.id,i6 o.q.kind,i6 o.q.Al,i6 o.q.BV,i6 o.q.seq,i6 o.q.mask,i6 o.q.node,i6 o.q.oe,i6 o.q.os,sT o.q.block,i6 o.asked,i6 o.ES],pt a 0] w (bf (bO_ (decide (ya-o.ES>=2))) w):=by
 refine cH (S:=z8) (n:=9) func60 (ab.start (bk:=[⟨a,3,false,[i6 ya]⟩]) (wn:=[]) (by simpa using c) z1 z1 z1) ?_;refine z6 17 (dz 8 0x2010c18001000800) [3] [JL (ya-o.ES)] [(a,0,1),(w.z,12,1)] [.code [1,1]] [⟨a,3,false,[i6 ya]⟩,⟨w.z,141,true,Fu o⟩] [] (w.z+1) ?_;refine B1 [] [bO_ (decide (((ya-o.ES):Int)>=2))] [] ?_;intro d b;exact⟨rfl,b.x2⟩
def TY(o:ar):av:=(Fu o)
theorem Lf(a:Nat)(hw:-9223372036854775808<=ya-o.asked∧ya-o.asked<=9223372036854775807)(w:World)(c:A2 w a 3 [i6 ya]):aC 92 #[.agg #[i6 o.to,i6 o.id,i6 o.q.kind,i6 o.q.Al,i6 o.q.BV,i6 o.q.seq,i6 o.q.mask,i6 o.q.node,i6 o.q.oe,i6 o.q.os,sT o.q.block,i6 o.asked,i6 o.ES],pt a 0] w (bf (bO_ (decide (ya-o.asked>=8))) w):=by
 refine cH (S:=z8) (n:=9) func92 (ab.start (bk:=[⟨a,3,false,[i6 ya]⟩]) (wn:=[]) (by simpa using c) z1 z1 z1) ?_;refine z6 17 (dz 8 0x2010b18001000800) [3] [JL (ya-o.asked)] [(a,0,1),(w.z,11,1)] [.code [1,1]] [⟨a,3,false,[i6 ya]⟩,⟨w.z,141,true,TY o⟩] [] (w.z+1) ?_;refine B1 [] [bO_ (decide (((ya-o.asked):Int)>=8))] [] ?_;intro d b;exact⟨rfl,b.x2⟩
def NK(o:ar):av:=(Fu o)
def Fv(lf:Int)(lt:Int)(E2:Int)(sy:dw):av:=[i6 lf,i6 lt,i6 E2,bO_ true]++rp 8 (i6 0)++([sT ⟨#[]⟩,i6 sy.st,i6 sy.ep,i6 sy.ou]++sy.rc.cells)
theorem Lg{sy:dw}(lf c E2:Int)(a:Nat)(w:World)(f:A2 w a 65 ([i6 lf,i6 c,i6 E2,bO_ true,i6 0,i6 0,i6 0,i6 0,i6 0,i6 0,i6 0,i6 0,sT ⟨#[]⟩,i6 sy.st,i6 sy.ep,i6 sy.ou]++sy.rc.cells)):aC 72 #[.agg #[i6 o.to,i6 o.id,i6 o.q.kind,i6 o.q.Al,i6 o.q.BV,i6 o.q.seq,i6 o.q.mask,i6 o.q.node,i6 o.q.oe,i6 o.q.os,sT o.q.block,i6 o.asked,i6 o.ES],pt a 0] w (bf (bO_ ((o.id==E2)&&(o.to==lf))) w):=by
 refine cH (S:=z8) (n:=16) func72 (ab.start (bk:=[⟨a,65,false,Fv lf c E2 sy⟩]) (wn:=[]) (λh e=>by obtain rfl:=aG.1 e;exact f) z1 z1 z1) ?_;rcases fZ (o.id==E2)with b|b
 ·skip;refine z6 24 (dz 15 0x3101000910100191000102080010118000) [3] (rE 6 (eD b)) [(w.z,1,1),(a,2,1),(w.z,0,1),(a,0,1)] [.code [1,1]] [⟨a,65,false,Fv lf c E2 sy⟩,⟨w.z,141,true,NK o⟩] [] (w.z+1) ?_;refine B1 [] [bO_ (o.to==lf)] [] ?_;intro g d;exact⟨by rw[b];rfl,d.x2⟩
 ·skip;refine z6 24 (dz 15 0x400000000102080010118000) [3] (rE 6 (eD b)) [(w.z,1,1),(a,2,1)] [.code [1,1]] [⟨a,65,false,Fv lf c E2 sy⟩,⟨w.z,141,true,NK o⟩] [] (w.z+1) ?_;refine B1 [] [bO_ false] [] ?_;intro g d;exact⟨by rw[b];rfl,d.x2⟩
theorem qW(h s:Nat)(q:av)(g:ar->Bool)(d zv:Int)(A:aY)(zL:List ar)(a2:zL.length=n)(b8:n<=1000)(Wt:([c1,b,a]:aH).Nodup)(WD:c≠c1∧c≠b∧c≠a)(bd:h=60∨h=92∨h=72)(bl:∀(e:Nat)(o:ar),zL[e]?=some o->∀t:World,A2 t a s q->aC h #[.agg #[i6 o.to,i6 o.id,i6 o.q.kind,i6 o.q.Al,i6 o.q.BV,i6 o.q.seq,i6 o.q.mask,i6 o.q.node,i6 o.q.oe,i6 o.q.os,sT o.q.block,i6 o.asked,i6 o.ES],pt a 0] t (bf (bO_ (g o)) t)) :
  KX 4 prog 96 #[pt c1 0,pt b 0] (λe:Nat=>#[i6 (e:Int)]) (uj w0 85 142 124 c1 b c (.func (.func h) #[] #[pt a 0]) (λN=>A2 N a s q) d zv A cp zL) (λa6=>a6=cc g zL zL.length) (sR g zL) (om g zL):=by
 intro l M b2 N x y a9 aV I;have J:=x _ _ I;have W:=J.hd rfl;rw[a2]at W;refine callsIn_wide.2 (mC (S:=z8) (l:=[.func (.yield l) #[] #[],pt c1 0,pt b 0]) (n:=26) (bk:=[⟨c1,85,false,[pt c 0]⟩,⟨b,142,false,[.func (.func h) #[] #[pt a 0]]⟩,⟨a,s,false,q⟩,⟨c,124,false,[i6 d,i6 zv,.slice A n cp]⟩]) (wn:=[]) func96 (lh v7) rfl z1 (ab.start (by simpa using⟨J.c1,J.c2,J.x,W⟩) z1 (by simp at Wt ⊢;omega) z1) ?_);refine di (f:=13) (hs:=[oA 0 0 1,y2,y2,oA 3 2 1,y2,y2]) [0,2,9,10,11] [] (v7:_=some (Res.mk [] (aX [(c1,0,1),(c,2,1)]) [.code [1,0],.zq 0] ⟨[(0,.func (.yield l) #[] #[]),(2,pt b 0),(9,.slice A n cp),(10,i6 (n:Int)),(11,i6 0)],[⟨c1,85,false,[pt c 0]⟩,⟨b,142,false,[.func (.func h) #[] #[pt a 0]]⟩,⟨a,s,false,q⟩,⟨c,124,false,[i6 d,i6 zv,.slice A n cp]⟩],[],N.z⟩)) trivial ?_;have b5:=x _ _ I;refine fM [0,2,9,10,11] [true,true,true,false] ?_;refine bm (w:=w0) (S':=λ_=>True) (λF a5 p=>∃e T:Nat,F+e=n∧M (cc g zL e) p∧a5=⟨[(0,.func (.yield l) #[] #[]),(2,pt b 0),(9,.slice A n cp),(10,i6 (n:Int)),(11,i6 (e:Int))],[⟨c1,85,false,[pt c 0]⟩,⟨b,142,false,[.func (.func h) #[] #[pt a 0]]⟩,⟨a,s,false,q⟩],[],T⟩) n v7 (λp i=>⟨⟨0,_,yq,gk y I i.x2,rfl⟩,by have k:=qV (x _ _ (gk y I i.x2)) Wt;rwa [i.size]at k⟩) ?_;rintro F _ p ⟨e,T,b7,D,rfl⟩ b6 U ad;have a7:=x _ _ D;have L:∀u,¬ao [⟨c1,85,false,[pt c 0]⟩,⟨b,142,false,[.func (.func h) #[] #[pt a 0]]⟩,⟨a,s,false,q⟩] u:=by
  rintro u ⟨Z,V,a3,X⟩;simp at V;rcases V with rfl|rfl|rfl<;>simp at a3
 by_cases b4:e<n
 rotate_left
 ·skip;refine di (f:=10) (hs:=[y2,y2]) [] [] (v7:_=some (Res.mk [(decide (((e:Int):Int)<(n:Int)))=false] (aX []) [] ⟨[],[⟨c1,85,false,[pt c 0]⟩,⟨b,142,false,[.func (.func h) #[] #[pt a 0]]⟩,⟨a,s,false,q⟩],[],p.z⟩)) ⟨bZ yq,trivial⟩ ?_;refine bN [] (v7:_=some ([],aX [])) ?_;intro t i;have bg:e=zL.length:=by omega
  rw[bg]at D;exact⟨⟨_,rfl⟩,.inl ⟨_,rfl,gk y D (i.x2.mono (λu _ k=>(L u k).elim))⟩⟩
 obtain⟨o,B⟩:∃o,zL[e]?=some o:=⟨_,cx yq⟩;obtain⟨m,aR,a0,bs⟩:=a7.arr e o B qD;subst aR;refine aD [⟨m,0+e*13,o.cells⟩] (λ_ b0 Y=>?_) ?_
 ·simp only[bj,cv,or_false]at Y;subst Y;exact⟨L _,a0,λan aq a4=>bs an aq a4⟩
 refine Df 4 ?_;intro C b3 ac bb;refine dQ (λ_=>trivial) (f:=25) (hs:=[y2,FN,y2,⟨false,1,[]⟩,⟨false,0,[⟨true,0,0,13⟩]⟩,y2,y2,oA 3 0 13,oA 1 0 1,oA 3 0 13]) [0,2,4,9,10,11,16,17] [] (v7:_=some (Res.mk [(decide (((e:Int):Int)<(n:Int)))=true,(0:Int)<=(e:Int)∧(e:Int)<((n:Nat):Int)] (aX [(m,0+e*13,13),(p.z,0,13),(b,0,1),(p.z,0,13)]) [.ops (Ac 818) [2,3,4,5,6,7,8],y6 819,.zq 1,y6 103,.inv C] ⟨[(0,.func (.yield l) #[] #[]),(2,pt b 0),(4,i6 (e:Int)),(9,.slice (ae m) n cp),(10,i6 (n:Int)),(11,i6 (e:Int)),(16,.func (.func h) #[] #[pt a 0]),(17,.agg #[i6 o.to,i6 o.id,i6 o.q.kind,i6 o.q.Al,i6 o.q.BV,i6 o.q.seq,i6 o.q.mask,i6 o.q.node,i6 o.q.oe,i6 o.q.os,sT o.q.block,i6 o.asked,i6 o.ES])],[⟨c1,85,false,[pt c 0]⟩,⟨b,142,false,[.func (.func h) #[] #[pt a 0]]⟩,⟨a,s,false,q⟩,⟨p.z,141,true,([i6 o.to,i6 o.id]++o.q.cells++[i6 o.asked,i6 o.ES])⟩],[⟨m,0+e*13,([i6 o.to,i6 o.id]++o.q.cells++[i6 o.asked,i6 o.ES])⟩],p.z+1⟩)) ⟨dc yq,⟨yq,yq⟩,trivial⟩ ?_;refine KY (r:=none) v7 ?_;intro b1 a8;refine rZ (.bool (g o)) (show _=some (h,[.agg #[i6 o.to,i6 o.id,i6 o.q.kind,i6 o.q.Al,i6 o.q.BV,i6 o.q.seq,i6 o.q.mask,i6 o.q.node,i6 o.q.oe,i6 o.q.os,sT o.q.block,i6 o.asked,i6 o.ES],pt a 0],some 18,[])by rcases bd with P|P|P<;>subst P<;>kernel_rfl) tI rfl (λt i=>bl e o B t (i.at_ 2 rfl)) λK ak=>?_;replace ak:p.z+1<=K:=ak;refine zf ?_;refine a8 _ _ _ ?_;rcases fZ (g o)with j|j
 rotate_left
 ·skip;refine dQ (λ_=>trivial) (f:=17) (hs:=[y2,y2,y2,y2,y2,⟨false,3,[]⟩,y2,⟨false,1,[]⟩,y2]) [0,2,9,10,11] [] (v7:_=some (Res.mk [(g o)=false,(g o)=false,(g o)=false,(g o)=false,(g o)=false,false=false,T0 .i64 ((e:Int)+1)] (aX []) [.inv C] ⟨[(0,.func (.yield l) #[] #[]),(2,pt b 0),(9,yt (ae m) n cp),(10,i6 (n:Int)),(11,i6 ((e:Int)+1))],[⟨c1,85,false,[pt c 0]⟩,⟨b,142,false,[.func (.func h) #[] #[pt a 0]]⟩,⟨a,s,false,q⟩,⟨p.z,141,true,([i6 o.to,i6 o.id]++o.q.cells++[i6 o.asked,i6 o.ES])⟩],[⟨m,0+e*13,([i6 o.to,i6 o.id]++o.q.cells++[i6 o.asked,i6 o.ES])⟩],K⟩)) ⟨j,j,j,j,j,rfl,i0 yq,trivial⟩ ?_;refine ac _ _ _ ?_;refine di (f:=3) (hs:=[]) [0,2,9,10,11] [] (v7:_=some (Res.mk [] (aX []) [.inv U,.zq 0] ⟨[(0,.func (.yield l) #[] #[]),(2,pt b 0),(9,yt (ae m) n cp),(10,i6 (n:Int)),(11,i6 ((e:Int)+1))],[⟨c1,85,false,[pt c 0]⟩,⟨b,142,false,[.func (.func h) #[] #[pt a 0]]⟩,⟨a,s,false,q⟩,⟨p.z,141,true,([i6 o.to,i6 o.id]++o.q.cells++[i6 o.asked,i6 o.ES])⟩],[⟨m,0+e*13,([i6 o.to,i6 o.id]++o.q.cells++[i6 o.asked,i6 o.ES])⟩],K⟩)) trivial ?_;refine aD [] (λ_ _ k=>by cases k) ?_;refine fM [0,2,9,10,11] [true,true,true,false] ?_;intro G v z i;have R:au z8 p v:=i.x2.mono (λu _ k=>(L u k).elim);have E:M (cc g zL (e+1)) v:=by rw[ml B,j];exact gk y D R
  exact ad (F-1) _ G v yq ⟨e+1,_,yq,E,by rw[<-aW e];rfl⟩ z (by have k:=qV (x _ _ E) Wt;rw[i.size]at k;exact k)
 refine dQ (λ_=>trivial) (f:=6) (hs:=[y2,FN,FN]) [0,2,9,10,11,19,20,21] [] (v7:_=some (Res.mk [(g o)=true,(g o)=true] (aX []) [.ops (Ac 818) [6,7,8],y6 819,.zq 1,y6 103,.inv C] ⟨[(0,.func (.yield l) #[] #[]),(2,pt b 0),(9,.slice (ae m) n cp),(10,i6 (n:Int)),(11,i6 (e:Int)),(19,.bool (g o)),(20,.func (.yield l) #[] #[]),(21,i6 (e:Int))],[⟨c1,85,false,[pt c 0]⟩,⟨b,142,false,[.func (.func h) #[] #[pt a 0]]⟩,⟨a,s,false,q⟩,⟨p.z,141,true,([i6 o.to,i6 o.id]++o.q.cells++[i6 o.asked,i6 o.ES])⟩],[⟨m,0+e*13,([i6 o.to,i6 o.id]++o.q.cells++[i6 o.asked,i6 o.ES])⟩],K⟩)) ⟨j,j,trivial⟩ ?_;refine gE (l:=[7,8]) (dst:=some 22) (lp:=l) (args:=#[i6 (e:Int)]) (c:=true) (gd:=some 3) (λ_=>trivial) rfl v7 v7 (by intro e a1;cases a1;exact congrArg (λZ=>some (Value.bool Z)) j) (λ_=>rfl) (λt i=>?_);have R:au z8 p t:=i.x2.mono (λu _ k=>(L u k).elim);refine YieldAt.mono (aV (cc g zL e) e t (gk y D R) ⟨o,B,j,rfl⟩) (λbt O X=>?_);rcases X with⟨rfl,H⟩|⟨rfl,H⟩
 ·skip;have Q:=x _ _ H;refine⟨bO_ true,[(22,bO_ true),(0,.func (.yield l) #[] #[]),(2,pt b 0),(9,yt (ae m) n cp),(10,i6 (n:Int)),(11,i6 (e:Int)),(19,bO_ (g o)),(20,.func (.yield l) #[] #[]),(21,i6 (e:Int))],rfl,rfl,[⟨c1,85,false,[pt c 0]⟩,⟨b,142,false,[.func (.func h) #[] #[pt a 0]]⟩,⟨a,s,false,q⟩],[],z8,ab.start (by simpa using⟨Q.c1,Q.c2,Q.x⟩) z1 (by simpa using Wt) z1,?_⟩;refine dQ (λ_=>trivial) (f:=13) (hs:=[FN,⟨false,2,[]⟩,y2,⟨false,1,[]⟩,y2]) [0,2,9,10,11] [] (v7:_=some (Res.mk [(g o)=true,(g o)=true,false=false,T0 .i64 ((e:Int)+1)] (aX []) [.inv C] ⟨[(0,.func (.yield l) #[] #[]),(2,pt b 0),(9,yt (ae m) n cp),(10,i6 (n:Int)),(11,i6 ((e:Int)+1))],[⟨c1,85,false,[pt c 0]⟩,⟨b,142,false,[.func (.func h) #[] #[pt a 0]]⟩,⟨a,s,false,q⟩],[],O.z⟩)) ⟨j,j,rfl,i0 yq,trivial⟩ ?_;refine ac _ _ _ ?_;refine di (f:=3) (hs:=[]) [0,2,9,10,11] [] (v7:_=some (Res.mk [] (aX []) [.inv U,.zq 0] ⟨[(0,.func (.yield l) #[] #[]),(2,pt b 0),(9,yt (ae m) n cp),(10,i6 (n:Int)),(11,i6 ((e:Int)+1))],[⟨c1,85,false,[pt c 0]⟩,⟨b,142,false,[.func (.func h) #[] #[pt a 0]]⟩,⟨a,s,false,q⟩],[],O.z⟩)) trivial ?_;intro G v z i;have E:M (cc g zL (e+1)) v:=by rw[ml B,j];exact gk y H i.x2
  exact ad (F-1) _ G v yq ⟨e+1,_,yq,E,by rw[<-aW e]⟩ z (by have k:=qV (x _ _ E) Wt;rw[i.size]at k;exact k)
 ·skip;refine⟨bO_ false,[(22,bO_ false),(0,.func (.yield l) #[] #[]),(2,pt b 0),(9,yt (ae m) n cp),(10,i6 (n:Int)),(11,i6 (e:Int)),(19,bO_ (g o)),(20,.func (.yield l) #[] #[]),(21,i6 (e:Int))],rfl,rfl,[],[],z8,ab.none _ _,?_⟩;refine dQ (λ_=>trivial) (f:=7) (hs:=[FN,⟨false,2,[]⟩,FN]) [0,2,9,10,11] [] (v7:_=some (Res.mk [(g o)=true,(g o)=true,true=true] (aX []) [y6 1638,.zq 1,y6 103,.inv C] ⟨[(0,.func (.yield l) #[] #[]),(2,pt b 0),(9,yt (ae m) n cp),(10,i6 (n:Int)),(11,i6 (e:Int))],[],[],O.z⟩)) ⟨j,j,rfl,trivial⟩ ?_;refine ug v7 (λG v z i=>bb _ _ ?_);exact⟨z.df,_,jE (vs:=[]) (rs:=[]) (hs:=[]) z i v7,⟨_,rfl⟩,.inr ⟨_,⟨e,o,B,j,rfl⟩,gk a9 H i.x2⟩⟩
theorem uc(h:zL.length=n)(l:n<=1000)(Wt:([c1,b,a]:aH).Nodup)(WD:c≠c1∧c≠b∧c≠a)(J1:∀(e:Nat)(o:ar),zL[e]?=some o->-9223372036854775808<=ya-o.ES∧ya-o.ES<=9223372036854775807) :
  KX 4 prog 96 #[pt c1 0,pt b 0] (λe:Nat=>#[i6 (e:Int)]) (uj w0 85 142 124 c1 b c (.func (.func 60) #[] #[pt a 0]) (λf=>A2 f a 3 [i6 ya]) d zv A cp zL) (λk=>k=cc (λo:ar=>decide (ya-o.ES>=2)) zL zL.length) (sR (λo:ar=>decide (ya-o.ES>=2)) zL) (om (λo:ar=>decide (ya-o.ES>=2)) zL):=
 qW w0 c1 b c a cp n 60 3 _ _ d zv A zL h l Wt WD (by decide) (λe o i j g=>Le o ya a (J1 e o i) j g)
theorem xd(h:zL.length=n)(l:n<=1000)(Wt:([c1,b,a]:aH).Nodup)(WD:c≠c1∧c≠b∧c≠a)(J1:∀(e:Nat)(o:ar),zL[e]?=some o->-9223372036854775808<=ya-o.asked∧ya-o.asked<=9223372036854775807) :
  KX 4 prog 96 #[pt c1 0,pt b 0] (λe:Nat=>#[i6 (e:Int)]) (uj w0 85 142 124 c1 b c (.func (.func 92) #[] #[pt a 0]) (λf=>A2 f a 3 [i6 ya]) d zv A cp zL) (λk=>k=cc (λo:ar=>decide (ya-o.asked>=8)) zL zL.length) (sR (λo:ar=>decide (ya-o.asked>=8)) zL) (om (λo:ar=>decide (ya-o.asked>=8)) zL):=
 qW w0 c1 b c a cp n 92 3 _ _ d zv A zL h l Wt WD (by decide) (λe o i j g=>Lf o ya a (J1 e o i) j g)
theorem sA{sy:dw}(lf e E2:Int)(A:aY)(zL:List ar)(i:zL.length=n)(l:n<=1000)(Wt:([c1,b,a]:aH).Nodup)(WD:c≠c1∧c≠b∧c≠a) :
  KX 4 prog 96 #[pt c1 0,pt b 0] (λg:Nat=>#[i6 (g:Int)]) (uj w0 85 142 124 c1 b c (.func (.func 72) #[] #[pt a 0]) (λf=>A2 f a 65 ([i6 lf,i6 e,i6 E2,bO_ true,i6 0,i6 0,i6 0,i6 0,i6 0,i6 0,i6 0,i6 0,sT ⟨#[]⟩,i6 sy.st,i6 sy.ep,i6 sy.ou]++sy.rc.cells)) d zv A cp zL) (λk=>k=cc (λo:ar=>(o.id==E2)&&(o.to==lf)) zL zL.length) (sR (λo:ar=>(o.id==E2)&&(o.to==lf)) zL) (om (λo:ar=>(o.id==E2)&&(o.to==lf)) zL):=
 qW w0 c1 b c a cp n 72 65 _ _ d zv A zL i l Wt WD (by decide) (λ_ o _ j h=>Lg o lf e E2 a j h)
theorem ua(d:Nat)(w:World):aC 59 #[pt c 0,.func (.func d) #[] #[pt a 0]] w (λg f=>∃c1 b,g=.returned (.func (.func 96) #[] #[pt c1 0,pt b 0])∧w.z<=c1∧c1<b∧A2 f c1 85 [pt c 0]∧A2 f b 142 [.func (.func d) #[] #[pt a 0]]∧au z8 w f):=by
 refine cH (S:=z8) (n:=6) func59 (ab.none w _) ?_;refine z6 14 (dz 5 0) [4] [] [] [.code [1,1]] [⟨w.z,85,true,[pt c 0]⟩,⟨w.z+1,142,true,[.func (.func d) #[] #[pt a 0]]⟩] [] (w.z+2) ?_;refine B1 [] [.func (.func 96) #[] #[pt w.z 0,pt (w.z+1) 0]] [] ?_;intro h e;exact⟨w.z,w.z+1,rfl,yq,yq,e.at_ 0 rfl,e.at_ 1 rfl,e.x2⟩
theorem lj(k:Int)(w:World) :aC 44 #[i6 k] w (bf (i6 (af k)) w):=by
 refine cH (S:=z8) (n:=6) func44 (ab.none w _) ?_;refine z6 14 (dz 5 8704) [2] [vV,vV] [] [.code [1,1]] [] [] w.z ?_;refine B1 [] [i6 (jC (mv k 0) 1099511627776)] [] ?_;intro b a;exact⟨rfl,a.x2⟩
variable (c zv:Int)(A:aY)(b cp a:Nat)(w:World)
theorem CI(k:Int)(w:World) :aC 27 #[i6 c,i6 k] w (λg e=>∃a,g=.returned (pt a 0)∧w.z<=a∧A2 e a 124 [i6 c,i6 (af k),z7]∧au z8 w e):=by
 refine cH (S:=z8) (n:=10) func27 (ab.none w _) ?_;refine z6 11 (dz 3 0) [4,5,6] [] [] [.ops [1,0] [2,3,4,5],.code [1,1]] [] [] w.z ?_;refine DV (i6 (af k)) _ _ (some 7) [] tI rfl (λf d=>lj k f) λb h=>?_;refine z6 7 (dz 3 0) [4] [] [] [.code [1,1]] [⟨b,124,true,[i6 c,i6 (af k),z7]⟩] [] (b+1) ?_;refine B1 [] [pt b 0] [] ?_;intro f d;exact⟨b,rfl,yq,d.at_ 0 rfl,d.x2⟩
theorem ME(g:A2 w a 124 [i6 c,i6 zv,yt A b cp]):aC 79 #[pt a 0] w (λh f=>h=Jx∧A2 f a 124 [i6 c,i6 zv,z7]∧au (λd=>d=a) w f):=by
 refine cH (S:=(λd=>d=a)) (n:=5) func79 (ab.start (bk:=[⟨a,124,true,[i6 c,i6 zv,yt A b cp]⟩]) (wn:=[]) (by simpa using g) z1 z1 z1) ?_;refine Aq 9 (dz 4 270565376) [] [] [(a,2,1)] [] ⟨[],[⟨a,124,true,[i6 c,i6 zv,z7]⟩],[],w.z⟩ ?_;refine bN [] (v7:_=some ([],aX [])) ?_;intro i e;exact⟨rfl,e.at_ 0 rfl,e.x2⟩
theorem EY(d:A2 w a 124 [i6 c,i6 zv,yt A b cp]):aC 36 #[pt a 0] w (bf (i6 (b:Int)) w):=by
 refine cH (S:=z8) (n:=8) func36 (ab.start (bk:=[⟨a,124,false,[i6 c,i6 zv,yt A b cp]⟩]) (wn:=[]) (by simpa using d) z1 z1 z1) ?_;refine z6 16 (dz 7 4329046016) [2] [] [(a,2,1)] [.code [1,1]] [⟨a,124,false,[i6 c,i6 zv,yt A b cp]⟩] [] w.z ?_;refine B1 [] [i6 (b:Int)] [] ?_;intro f e;exact⟨rfl,e.x2⟩
section
variable (c zv:Int)(o:ar)(b:Nat)(A:aY)(cp a:Nat)(w:World)
def yC:av:=([i6 c,i6 o.to,i6 o.id,bO_ false]++o.q.cells++[i6 0,i6 0,i6 0]++ka)
def MF:av:=([i6 o.to,i6 o.id]++o.q.cells++[i6 o.asked,i6 o.ES])
def MI:av:=rp 3 (i6 0)++[bO_ false]++rp 8 (i6 0)++[sT ⟨#[]⟩]++rp 3 (i6 0)++[bO_ false]++rp 3 (i6 0)++[sT ⟨#[]⟩,bO_ false]++rp 3 (i6 0)++[sT ⟨#[]⟩]
@[simp] def yD:ax:=[⟨a,124,false,[i6 c,i6 zv,yt A b cp]⟩,⟨w.z,141,true,MF o⟩,⟨w.z+1,65,true,MI⟩]
@[simp] def yE:ax:=[⟨a,124,false,[i6 c,i6 zv,yt A b cp]⟩,⟨w.z,141,true,MF o⟩,⟨w.z+1,65,true,yC c o⟩]
def HY:bu:=[(0,pt a 0),(3,pt w.z 0),(4,pt (w.z+1) 0)]
def yF:List (Option Value):=[some (pt a 0),some (pt a 0),some (pt a 0),some (i6 c),some (pt w.z 0),some (i6 o.to),some (pt w.z 1),some (i6 o.id),some (pt w.z 2),some (.agg #[i6 o.q.kind,i6 o.q.Al,i6 o.q.BV,i6 o.q.seq,i6 o.q.mask,i6 o.q.node,i6 o.q.oe,i6 o.q.os,sT o.q.block]),some (aE (yC c o)),some (.tuple #[])]
def H2:List (ax):=[yD c zv o b A cp a w,yE c zv o b A cp a w]
def H3:List (bi):=[none,none,none,none,none,none,none,none,none,none,none,some 0]
theorem KB:∀d,opG prog (aj (aa (al f61) [1,0])) ⟨slG (aj (aa (al f61) [1,0])) (yF c o a w) (J3 (aj (aa (al f61) [1,0])) (HY a w) 11) (aM (aj (aa (al f61) [1,0])) 11),yD c zv o b A cp a w,[],d⟩ 11 (oA 2 0 26)=some ([],aX [(w.z+1,0,26)],undef,yE c zv o b A cp a w,d):=λd=>v7
def H4(d:Nat):Prop:=eQ (wpOp prog (aj (aa (al f61) [1,0])) (sem prog (al f61) (bodyPost prog f61 (bf (aE (yC c o)) w)) [.code [1,1]])) [] 16 (aj (aa (al f61) [1,0])) (J3 (aj (aa (al f61) [1,0])) (HY a w) d) (H3) 1 (MG w z8 (H2 c zv o b A cp a w) [] (w.z+2)) (ao (yD c zv o b A cp a w)) (PvG (yF c o a w) (λ_ _ _=>False)) d
end
theorem px(o:ar)(w:World)(g:A2 w a 124 [i6 c,i6 zv,yt A b cp]):aC 61 #[pt a 0,.agg #[i6 o.to,i6 o.id,i6 o.q.kind,i6 o.q.Al,i6 o.q.BV,i6 o.q.seq,i6 o.q.mask,i6 o.q.node,i6 o.q.oe,i6 o.q.os,sT o.q.block,i6 o.asked,i6 o.ES]] w (bf (.agg #[i6 c,i6 o.to,i6 o.id,bO_ false,i6 o.q.kind,i6 o.q.Al,i6 o.q.BV,i6 o.q.seq,i6 o.q.mask,i6 o.q.node,i6 o.q.oe,i6 o.q.os,sT o.q.block,i6 0,i6 0,i6 0,bO_ false,i6 0,i6 0,i6 0,sT ⟨#[]⟩,bO_ false,i6 0,i6 0,i6 0,sT ⟨#[]⟩]) w):=by
 refine cH (S:=z8) (n:=16) func61 (ab.start (bk:=[⟨a,124,false,[i6 c,i6 zv,yt A b cp]⟩]) (wn:=[]) (by simpa using g) z1 z1 z1) ?_;refine Aq 9 (dz 2 0) [0,3,4] [] [] [.code [1,0],.code [1,1]] ⟨[(0,pt a 0),(3,pt w.z 0),(4,pt (w.z+1) 0)],yD c zv o b A cp a w,[],w.z+2⟩ ?_;have k:H4 c zv o b A cp a w 11:=cu (s:=0) (v:=undef) v7 v7 v7 v7 v7 (KB c zv o b A cp a w) trivial;have j:∀f∈(WU [0,1,2,4,6,8,10]++[rG 3 0 0 1 a,rG 5 1 0 1 w.z,rG 7 1 1 1 w.z,rG 9 1 2 9 w.z]:List jU),H4 c zv o b A cp a w f.i:=dP v7 _ (λl=>v7);refine dO (vs:=yF c o a w) (ms:=H2 c zv o b A cp a w) (Dt:=H3) (J:=1) (V9:=[(4,pt (w.z+1) 0)]) (Ex:=yE c zv o b A cp a w) (λ_ _ _=>False) [4] v7 v7 v7 (λ_ _ _ _ i=>i.elim) (dW j [11] ⟨k,tI⟩ v7) v7 v7 v7 (λd e=>?_);replace e:w.z+2<=d:=e;refine z6 3 [] [4] [] [] [.code [1,1]] (yE c zv o b A cp a w) [] d ?_;refine B1 [[⟨false,2,0,26⟩]] [aE (yC c o)] [(w.z+1,0,26)] ?_;intro m h;exact⟨rfl,h.x2⟩
section
variable (c zv ya e:Int)(q:ck)(l:List ar)(b:Nat)(A:aY)(cp a v8:Nat)(w:World)(f h:Nat)
def mw:av:=(q.cells)
def oD:av:=MI
def jc:av:=([i6 e,i6 (zv+1)]++q.cells++[i6 (af ya),i6 (af ya)])
def EZ:av:=rp 10 (i6 0)++[sT ⟨#[]⟩,i6 0,i6 0]
def yG:av:=([i6 c,i6 e,i6 (zv+1),bO_ false]++q.cells++[i6 0,i6 0,i6 0]++ka)
def MJ:cj:=(bA 11 511)
def E0:cj:=(bA 11 1023)
def MK:cj:=(bA 11 2047)
@[simp] def yH:ax:=[⟨a,124,true,[i6 c,i6 (zv+1),yt A b cp]⟩,⟨w.z,59,true,mw q⟩,⟨w.z+1,65,true,oD⟩]
@[simp] def ML:ax:=[⟨a,124,true,[i6 c,i6 (zv+1),yt A b cp]⟩,⟨w.z,59,true,mw q⟩,⟨w.z+1,65,true,oD⟩,⟨f,141,true,EZ⟩]
@[simp] def lq:ax:=[⟨a,124,true,[i6 c,i6 (zv+1),yt A b cp]⟩,⟨w.z,59,true,mw q⟩,⟨w.z+1,65,true,oD⟩,⟨f,141,true,jc zv ya e q⟩]
@[simp] def MM(d:Option Nat×(aO)):ax:=[⟨a,124,true,[i6 c,i6 (zv+1),yt d.2.1 (b+1) d.2.2]⟩,⟨w.z,59,true,mw q⟩,⟨w.z+1,65,true,oD⟩,⟨f,141,true,jc zv ya e q⟩]
@[simp] def E3(d:aY)(g:Nat):ax:=[⟨a,124,true,[i6 c,i6 (zv+1),yt d (b+1) g]⟩,⟨w.z,59,true,mw q⟩,⟨w.z+1,65,true,oD⟩,⟨f,141,true,jc zv ya e q⟩]
def MO:Exit->Act->aI:=bodyPost prog f91 (λi f=>∃d h,i=.returned (.tuple #[aE (yG c zv e q),bO_ true])∧A2 f a 124 [i6 c,i6 (zv+1),yt d (b+1) h]∧ah f v8 141 13 d (b+1) h (bP (l++[(⟨e,zv+1,q,af ya,af ya⟩:ar)]))∧H5 w A d∧au (λg=>g=a∨dg A g) w f)
theorem TD(z2:Nat):Out.prune [0,8,9,50] (fp prog 64 w (λd=>d=a) ((aj (aa (al f91) (Ac 62))).toList.take 9) ⟨[(0,pt a 0),(1,i6 (af ya)),(2,i6 e),(7,pt w.z 0),(8,pt (w.z+1) 0),(9,bO_ false)],yH c zv q b A cp a w,[],z2⟩ [.op y2,.op y2,.op y2,.op y2,.op (oA 0 1 1),.op (oA 1 0 9),.op y2,.op y2,.op y2])=some ⟨[],aX [(a,1,1),(w.z,0,9)],⟨[(0,pt a 0),(8,pt (w.z+1) 0),(9,bO_ false),(50,aE (jc zv ya e q))],yH c zv q b A cp a w,[],z2⟩⟩:=v7
theorem TE:iC [0,8,9,10] (fY prog 64 (aj (aa (al f91) (Ac 62))) 1 E0 ⟨[(10,pt f 0),(0,pt a 0),(8,pt (w.z+1) 0),(9,bO_ false),(50,aE (jc zv ya e q))],ML c zv q b A cp a w f,[],h⟩ [(10,false,oA 3 0 13)])=some (⟨[],aX [(f,0,13)],⟨[(0,pt a 0),(8,pt (w.z+1) 0),(9,bO_ false),(10,pt f 0)],lq c zv ya e q b A cp a w f,[],h⟩⟩,0,MK):=v7
theorem TF:iC [0,8,9,10] (fY prog 64 (aj (aa (al f91) (Ac 62))) 2 MJ ⟨[(0,pt a 0),(8,pt (w.z+1) 0),(9,bO_ false),(50,aE (jc zv ya e q))],yH c zv q b A cp a w,[],h⟩ [(9,false,y2),(10,false,oA 3 0 13)])=some (⟨[],aX [(h,0,13)],⟨[(0,pt a 0),(8,pt (w.z+1) 0),(9,bO_ false),(10,pt h 0)],[⟨a,124,true,[i6 c,i6 (zv+1),yt A b cp]⟩,⟨w.z,59,true,mw q⟩,⟨w.z+1,65,true,oD⟩,⟨h,141,true,jc zv ya e q⟩],[],h+1⟩⟩,0,MK):=v7
def Ro:bu:=[(0,pt a 0),(8,pt (w.z+1) 0),(9,bO_ false),(10,pt f 0)]
def H6(d:Option Nat×(aO)):List (Option Value):=[some (pt a 0),some (pt a 0),some (pt a 0),some (pt a 2),some (yt A b cp),some (aE (jc zv ya e q)),some (yt (ae (d.1.getD 0)) 1 1),some (yt d.2.1 (b+1) d.2.2),some (pt a 0),some (pt a 2),some (.tuple #[])]
def H7(d:Option Nat×(aO))(k:Nat):Bool:=(fL 11 [(6,d.1.isSome)])[k]?.getD true
def yI(d:Option Nat×(aO)):List (ax):=[lq c zv ya e q b A cp a w f,lq c zv ya e q b A cp a w f,MM c zv ya e q b a w f d]
abbrev yJ(c:Int)(zv:Int)(ya:Int)(e:Int)(q:ck)(l:List ar)(b:Nat)(A:aY)(cp:Nat)(a:Nat)(v8:Nat)(w:World)(f:Nat)(h:Nat)(k:Nat)(d:Option Nat×(aO))(g:World):Prop:=match k with|0=>(ah g v8 141 13 A b cp (bP l))∧(∀i,d.1=some i->h<=i∧A2 g i 141 (jc zv ya e q))|1=>((ah g v8 141 13 d.2.1 (b+1) d.2.2 (bP (l++[(⟨e,zv+1,q,af ya,af ya⟩:ar)]))∧H5 w A d.2.1∧∀j∈((lq c zv ya e q b A cp a w f):ax),¬dg d.2.1 j.g))∧True|2=>((ah g v8 141 13 d.2.1 (b+1) d.2.2 (bP (l++[(⟨e,zv+1,q,af ya,af ya⟩:ar)]))∧H5 w A d.2.1∧∀j∈((lq c zv ya e q b A cp a w f):ax),¬dg d.2.1 j.g))∧True|_=>True
def pz(g:Nat):Prop:=cY prog f91 [1,1,1,1,1,0] 64 [] (MO c zv ya e q l b A a v8 w) [y6 127] (Ro a w f) (V7 11 [7,10]) 2 (H6 zv ya e q b A cp a) H7 w (λd=>d=a∨dg A d) (yI c zv ya e q b A cp a w f) h (yJ c zv ya e q l b A cp a v8 w f h) g
end
theorem TG(ya e:Int)(A:aY)(b cp a v8:Nat)(q:ck)(l:List ar)(cf:l.length=b)(cm:b<8∧zv<1099511627776∧0<=e∧e<202)(cC:0<=zv)(w:World)(an:A2 w a 124 [i6 c,i6 zv,yt A b cp])(ak:ah w v8 141 13 A b cp (bP l))(g:v8<=w.z)(Wt:¬dg A a):aC 91 #[pt a 0,i6 ya,i6 e,.agg #[i6 q.kind,i6 q.Al,i6 q.BV,i6 q.seq,i6 q.mask,i6 q.node,i6 q.oe,i6 q.os,sT q.block]] w (λL z=>∃K O,L=.returned (.tuple #[.agg #[i6 c,i6 e,i6 (zv+1),bO_ false,i6 q.kind,i6 q.Al,i6 q.BV,i6 q.seq,i6 q.mask,i6 q.node,i6 q.oe,i6 q.os,sT q.block,i6 0,i6 0,i6 0,bO_ false,i6 0,i6 0,i6 0,sT ⟨#[]⟩,bO_ false,i6 0,i6 0,i6 0,sT ⟨#[]⟩],bO_ true])∧A2 z a 124 [i6 c,i6 (zv+1),yt K (b+1) O]∧ah z v8 141 13 K (b+1) O (bP (l++[(⟨e,zv+1,q,af ya,af ya⟩:ar)]))∧H5 w A K∧au (λx=>x=a∨dg A x) w z):=by
 refine cH (S:=(λx=>x=a)) (n:=64) func91 (ab.start (bk:=[⟨a,124,true,[i6 c,i6 zv,yt A b cp]⟩]) (wn:=[]) (by simpa using an) z1 z1 z1) ?_;have b1:=ak.own;have cn:=an.lt;refine z6 39 (dz 26 0x4000400040010108000000010208000000) [0,1,2,7,8,9,33] (rE 6 (dF (((b:Int):Int)>=8))++rE 3 (dF ((zv:Int)>=1099511627776))++rE 3 (dF ((e:Int)<0))++[dF ((e:Int)>=202)]) [(a,2,1),(a,1,1)] [.ops (Ac 14) [1,2],y6 15] [⟨a,124,true,[i6 c,i6 zv,yt A b cp]⟩,⟨w.z,59,true,mw q⟩,⟨w.z+1,65,true,oD⟩] [] (w.z+2) ?_;refine DV (i6 (af ya)) _ _ (some 34) [] tI rfl (λy m=>lj ya y) λF cq=>?_;refine Aq 17 (dz 9 0x101080020101080000) [0,1,2,7,8,9] [JL (zv+1)] [(a,1,1),(a,1,1)] [y6 62,y6 63] ⟨[(0,pt a 0),(1,i6 (af ya)),(2,i6 e),(7,pt w.z 0),(8,pt (w.z+1) 0),(9,bO_ false)],yH c zv q b A cp a w,[],F⟩ ?_;have Y:∀(f h:Nat),F<=f->F<=h->aF [] prog (al f91) 64 w (λx=>x=a) (MO c zv ya e q l b A a v8 w) [y6 63] ⟨[(0,pt a 0),(8,pt (w.z+1) 0),(9,bO_ false),(10,pt f 0)],lq c zv ya e q b A cp a w f,[],h⟩:=by
  intro f h bs R;refine Aq 4 [] [0,8,9,10] [] [] [y6 126,y6 127] ⟨[(0,pt a 0),(8,pt (w.z+1) 0),(9,bO_ false),(10,pt f 0)],lq c zv ya e q b A cp a w f,[],h⟩ ?_;have X:∀r∈((lq c zv ya e q b A cp a w f):ax),¬dg A r.g:=by
   intro r g j;have a4:=(b1 _ j).2;simp at g;rcases g with rfl|rfl|rfl|rfl
   all_goals first|exact Wt j|(dsimp only at a4;omega)
  have bl:=g;refine E4 (p:=f<h) (λy m=>by have B:=(m.at_ 3 rfl).lt;rw[m.size]at B;exact B) (λco=>?_);have a2:eh w (λx=>x=a∨dg A x) (yI c zv ya e q b A cp a w f) (yJ c zv ya e q l b A cp a v8 w f h):=by
   intro E d y z bk g m j G
   match E,g,j with
   |0,g,j=>
    obtain rfl:=ap g;refine⟨j.1.x2 G (λJ o ⟨r,g,_,u⟩=>X r g (u▸o)),λC M=>⟨(j.2 C M).1,(j.2 C M).2.x2 G (λ⟨r,g,aq,u⟩=>?_)⟩⟩;have cb:=(j.2 C M).1;simp at g;rcases g with rfl|rfl|rfl|rfl<;>dsimp only at u<;>omega
   |1,g,j=>
    obtain rfl:=ap g;refine⟨⟨j.1.1.x2 G (λJ o ⟨r,g,_,u⟩=>j.1.2.2 r g (u▸o)),j.1.2⟩,trivial⟩
   |2,g,j=>
    obtain rfl:=ap g;refine⟨⟨j.1.1.x2 G (λJ o ⟨r,g,aq,u⟩=>?_),j.1.2⟩,trivial⟩;simp at g;rcases g with rfl|rfl|rfl|rfl
    ·exact j.1.2.2 _ (aS (i:=0) rfl) (by subst u;exact o)
    ·exact j.1.2.2 _ (aS (i:=1) rfl) (by subst u;exact o)
    ·exact j.1.2.2 _ (aS (i:=2) rfl) (by subst u;exact o)
    ·exact j.1.2.2 _ (aS (i:=3) rfl) (by subst u;exact o)
   |E+3,g,j=>exact trivial
  have b6:pz c zv ya e q l b A cp a v8 w f h 6:=W1 0 141 (jc zv ya e q) (λd T=>(some T,d.2)) (λT=>yt (ae T) 1 1) (λE d y z bk Q g m j G a6 a9=>by
   have N:=a2 E d y z bk g m j G
   match E,g,j,N,Q with
   |0,g,j,N,Q=>exact⟨N.1,(λC M=>by obtain rfl:=ap M;exact⟨a6,a9⟩)⟩
   |E+1,g,j,N,Q=>exact absurd Q yq)
  have b7:pz c zv ya e q l b A cp a v8 w f h 7:=Xa (s:=0) (x:=λd=>Builtin.append_ #[122,122] 122 #[yt A b cp,yt (ae (d.1.getD 0)) 1 1]) (λ(d:Option Nat×(aO))(V:aO)=>(d.1,V)) (λd=>yt d.2.1 (b+1) d.2.2) (λd y bk g m j a1=>by
   obtain rfl:=ap g;obtain⟨aV,ca,E⟩:=d;obtain⟨C,rfl⟩:∃C,aV=some C:=cV.1 (a1 6 (aS (i:=1) v7) (d9 (k:=57) v7));obtain⟨cA,a8⟩:=j.2 C rfl;obtain⟨K,O,z,W,Z,ac,ad⟩:=ce (P:=prog) y v8 122 122 141 (aE (EZ)) 13 112 A b cp (bP l) ⟨C,0,none⟩ 1 1 (ar.cells ⟨e,zv+1,q,af ya,af ya⟩) v7 v7 v7 (by decide) j.1 rfl (λb9 v a5=>by rw[bY,bG];exact a8.at_ a5) (aU rfl) yq (by decide) (az bl m.x2.size);rw[E5]at Z;refine⟨(K,O),z,W,rfl,⟨⟨Z,λx j=>(ad x j).imp_right (az m.x2.size),λr g j=>(ad _ j).elim (X r g) (λB=>absurd (m.zq r g).lt (Nat.not_lt.2 B))⟩,trivial⟩,m.A3 (λ_ B=>B) ac (λJ o=>.inl (.inr o)) (λr g o=>X r g o),ac.size⟩)
  have b8:pz c zv ya e q l b A cp a v8 w f h 10:=V8 (s:=1) (x:=λd=>Instr.storeAt 122 (pt a 2) (yt d.2.1 (b+1) d.2.2)) (λ(d:Option Nat×(aO))(_:Unit)=>d) (λd y bk g m j a1=>by
   obtain rfl:=ap g;obtain⟨z,W,a7,a0,b2⟩:=cG (P:=prog) (t:=122) (v:=yt d.2.1 (b+1) d.2.2) (cs':=[i6 c,i6 (zv+1),yt d.2.1 (b+1) d.2.2]) v7 (m.at_ 0 rfl) rfl (by show 2+1<=3;omega) (aU rfl) rfl;have bt:=m.PA 0 rfl rfl a0 a7;exact⟨(),z,W,rfl,⟨⟨j.1.1.x2 a0 (λJ o L=>j.1.2.2 _ (aS (i:=0) rfl) (by subst L;exact o)),j.1.2⟩,trivial⟩,bt.2,bC b2.symm⟩)
  have b5:∀V∈(f5 2 [0,1,2,3,8,9]++[rY 4 1 0 2 1 a,rY 5 2 3 0 13 f]:List (fG (Option Nat×(aO)))),pz c zv ya e q l b A cp a v8 w f h V.i:=bp _ a2 (λd=>v7) v7 (λd cl=>v7);have b4:∀aR,aR<11->pz c zv ya e q l b A cp a v8 w f h aR:=f6 (l:=[6,7,10]) v7 b5 ⟨b6,b7,b8,trivial⟩;refine bD (Δ:=Option Nat×(aO)) (λx=>x=a∨dg A x) (H6 zv ya e q b A cp a) H7 (yI c zv ya e q b A cp a w f) (yJ c zv ya e q l b A cp a v8 w f h) [0,8,9,10] (λd=>[(0,pt a 0),(8,pt (w.z+1) 0),(9,.bool false),(10,pt f 0)]) (λd=>MM c zv ya e q b a w f d) (none,(none,0)) (λ_ B=>.inl B) v7 v7 v7 (λy m=>⟨ak.x2 m.x2.drew (λx j L=>Wt (L▸j)),λ_ B=>by cases B⟩) v7 b4 (λd=>v7) (λd=>v7) (λd U cB bg cr b0=>?_);obtain⟨aV,D,H⟩:=d;obtain⟨⟨bd,bb,I⟩,_⟩:=bg;replace I:∀r∈((lq c zv ya e q b A cp a w f):ax),¬dg D r.g:=I;change aF _ _ _ _ U (ao (E3 c zv ya e q b a w f D H)) _ [y6 127] ⟨[(0,pt a 0),(8,pt (w.z+1) 0),(9,.bool false),(10,pt f 0)],E3 c zv ya e q b a w f D H,[],U.z⟩;refine z6 7 (dz 2 13632384) [8,9,61,62] [] [(f,0,13)] [.ops (Ac 254) [2,3,4],y6 255] (E3 c zv ya e q b a w f D H) [] U.z ?_;refine DV (aE (yG c zv e q)) _ _ (some 63) [] tI rfl (λy m=>px c (zv+1) D (b+1) H a ⟨e,zv+1,q,af ya,af ya⟩ y (m.at_ 0 rfl)) λb3 cK=>?_;refine z6 6 (dz 2 1703976) [8,9] [] [(w.z+1,0,26)] [y6 255] [⟨a,124,true,[i6 c,i6 (zv+1),.slice D (b+1) H]⟩,⟨w.z,59,true,mw q⟩,⟨w.z+1,65,true,yG c zv e q⟩,⟨f,141,true,jc zv ya e q⟩] [] b3 ?_;refine B1 [[⟨false,2,0,26⟩]] [aE (yG c zv e q),.bool true] [(w.z+1,0,26)] ?_;intro y m;refine⟨D,H,rfl,m.at_ 0 rfl,bd.x2 m.x2 (λJ o ⟨r,g,aq,u⟩=>?_),bb,(ab.A0 b0 m).x2⟩;simp at g;rcases g with rfl|rfl|rfl|rfl
  ·exact I _ (aS (i:=0) rfl) (by subst u;exact o)
  ·exact I _ (aS (i:=1) rfl) (by subst u;exact o)
  ·exact I _ (aS (i:=2) rfl) (by subst u;exact o)
  ·exact I _ (aS (i:=3) rfl) (by subst u;exact o)
 have a3:∀(f h:Nat),F<=f->F<=h->aF [] prog (al f91) 64 w (λx=>x=a) (MO c zv ya e q l b A a v8 w) (.any [1,1,1,1,0] 1 E0::[y6 63]) ⟨[(10,pt f 0),(0,pt a 0),(8,pt (w.z+1) 0),(9,bO_ false),(50,aE (jc zv ya e q))],ML c zv q b A cp a w f,[],h⟩:=by
  intro f h bs R;refine dI cW _ _ (TE c zv ya e q b A cp a w f h) trivial ?_;refine cd v7 ?_;exact Y f _ yq yq
 refine ii (fl:=9) (t:=141) (d:=10) (cs:=EZ) (Xq:=MJ) (Xj:=E0) (f:=1) 9 _ _ v7 v7 v7 v7 (by decide) v7 v7 v7 (TD c zv ya e q b A cp a w F) trivial a3 ?_;intro h R;replace R:F<=h:=R;refine dI cW _ _ (TF c zv ya e q b A cp a w h) trivial ?_;refine cd v7 ?_;exact Y _ _ yq yq
section
variable (b zv lf E2:Int)(o:ar)(n:Nat)(A:aY)(x cp a c1 d c:Nat)(w W:World)(sy:dw)(_:Unit)
def mo:av:=[i6 lf,i6 b,i6 E2,bO_ true]++rp 8 (i6 0)++([sT ⟨#[]⟩,i6 sy.st,i6 sy.ep,i6 sy.ou]++sy.rc.cells)
def ox:av:=rp 8 (i6 0)++[sT ⟨#[]⟩]
def oy:av:=(o.q.cells)
@[simp] def yx:ax:=[⟨a,124,true,[i6 b,i6 zv,yt A n cp]⟩,⟨w.z,85,true,[pt a 0]⟩,⟨w.z+1,65,true,mo b lf E2 sy⟩,⟨w.z+2,59,true,ox⟩,⟨w.z+3,4,true,[bO_ false]⟩]
@[simp] def kc:ax:=[⟨a,124,true,[i6 b,i6 zv,yt (ae c) n cp]⟩,⟨w.z,85,false,[pt a 0]⟩,⟨w.z+1,65,false,mo b lf E2 sy⟩,⟨w.z+2,59,true,ox⟩,⟨w.z+3,4,true,[bO_ false]⟩,⟨c1,85,false,[pt a 0]⟩,⟨d,142,false,[.func (.func 72) #[] #[pt (w.z+1) 0]]⟩,⟨W.z,59,true,oy o⟩]
@[simp] def EO:ax:=[⟨a,124,true,[i6 b,i6 zv,yt (ae c) (n-1) cp]⟩,⟨w.z,85,false,[pt a 0]⟩,⟨w.z+1,65,false,mo b lf E2 sy⟩,⟨w.z+2,59,true,ox⟩,⟨w.z+3,4,true,[bO_ false]⟩,⟨c1,85,false,[pt a 0]⟩,⟨d,142,false,[.func (.func 72) #[] #[pt (w.z+1) 0]]⟩,⟨W.z,59,true,oy o⟩]
@[simp] def Mz:ax:=[⟨a,124,true,[i6 b,i6 zv,yt A n cp]⟩,⟨w.z,85,true,[pt a 0]⟩,⟨w.z+1,65,true,mo b lf E2 sy⟩,⟨w.z+2,59,true,ox⟩,⟨w.z+3,4,true,[bO_ false]⟩,⟨c1,85,false,[pt a 0]⟩,⟨d,142,false,[.func (.func 72) #[] #[pt (w.z+1) 0]]⟩]
@[simp] def mq:ax:=[⟨a,124,true,[i6 b,i6 zv,yt A n cp]⟩,⟨w.z,85,false,[pt a 0]⟩,⟨w.z+1,65,false,mo b lf E2 sy⟩,⟨w.z+2,59,true,ox⟩,⟨w.z+3,4,true,[bO_ false]⟩,⟨c1,85,false,[pt a 0]⟩,⟨d,142,false,[.func (.func 72) #[] #[pt (w.z+1) 0]]⟩]
@[simp] def ue:ax:=[⟨a,124,true,[i6 b,i6 zv,yt (ae c) n cp]⟩,⟨w.z,85,false,[pt a 0]⟩,⟨w.z+1,65,false,mo b lf E2 sy⟩,⟨w.z+2,59,true,ox⟩,⟨w.z+3,4,true,[bO_ false]⟩,⟨c1,85,false,[pt a 0]⟩,⟨d,142,false,[.func (.func 72) #[] #[pt (w.z+1) 0]]⟩]
theorem Tt:Out.prune [2,3,4,5,19] (fu prog 46 w (λc=>c=a) (aj (aa (al f42) (Ac 12))) (aj (aa (al f42) (Ac 12))).toList ⟨[(2,pt w.z 0),(3,pt (w.z+1) 0),(4,pt (w.z+2) 0),(5,pt (w.z+3) 0)],yx b zv lf E2 n A cp a w sy,[],w.z+4⟩ [(false,.op y2),(false,.op (oA 2 3 1)),(false,.op y2),(false,.op y2),(false,.op y2),(false,.op (oA 2 1 1)),(false,.op (oA 1 0 1)),(false,.op y2),(false,.op y2),(false,.op (oA 0 0 1)),(false,.op y2),(false,.op ⟨false,3,[]⟩)])=some ⟨(MA 8),aX [(w.z+1,3,1),(w.z+1,1,1),(w.z,0,1),(a,0,1)],⟨[(2,pt w.z 0),(3,pt (w.z+1) 0),(4,pt (w.z+2) 0),(5,pt (w.z+3) 0),(19,bO_ (b != b))],yx b zv lf E2 n A cp a w sy,[],w.z+4⟩⟩:=v7
def Rg:bu:=[(2,pt w.z 0),(4,pt (w.z+2) 0),(5,pt (w.z+3) 0),(6,i6 (x:Int)),(7,pt W.z 0),(23,.func (.func 96) #[] #[pt c1 0,pt d 0]),(24,i6 (x:Int))]
def HU(_:Unit):List (Option Value):=[some (pt a 0),some (pt a 0),some (pt a 0),some (pt a 2),some (yt (ae c) n cp),some (i6 (x:Int)),some (i6 (x:Int)),some (i6 ((x:Int)+1)),some (yt (ae c) (n-1) cp),some (pt a 0),some (pt a 2),some (.tuple #[])]
def HV(_:Unit)(k:Nat):Bool:=(fL 12 [])[k]?.getD true
def yy(_:Unit):List (ax):=[kc b zv lf E2 o n cp a c1 d c w W sy,kc b zv lf E2 o n cp a c1 d c w W sy,EO b zv lf E2 o n cp a c1 d c w W sy]
abbrev yz(zL:List ar)(n:Nat)(x:Nat)(cp:Nat)(c:Nat)(v8:Nat)(b:Nat)(_:Unit)(a:World):Prop:=match b with|0=>ah a v8 141 13 (ae c) n cp (bP zL)|1=>ah a v8 141 13 (ae c) (n-1) cp (bP (zL.eraseIdx x))|2=>ah a v8 141 13 (ae c) (n-1) cp (bP (zL.eraseIdx x))|_=>True
def sP(zL:List ar)(n:Nat)(x:Nat)(cp:Nat)(a:Nat)(c1:Nat)(d:Nat)(c:Nat)(v8:Nat)(J:Act->aI)(w:World)(W:World)(sy:dw)(Wn:World)(f:Nat):Prop:=cY prog f42 [1,1,0,1,0,1,0,1,0] 46 [] (mi) [.inv J] (Rg x c1 d w W) (V7 12 [8,11]) 2 (HU n x cp a c) HV Wn (λe=>ao (kc b zv lf E2 o n cp a c1 d c w W sy) e∨e=c) (yy b zv lf E2 o n cp a c1 d c w W sy) Wn.z (yz zL n x cp c v8) f
end
theorem uf{sy:dw}(j zv lf E2:Int)(A:aY)(n cp e v8:Nat)(zL:List ar)(a8:zL.length=n)(cU:n<=64)(w:World)(a0:A2 w e 124 [i6 j,i6 zv,yt A n cp])(a7:ah w v8 141 13 A n cp (bP zL)):aC 42 #[pt e 0,.agg #[i6 lf,i6 j,i6 E2,bO_ true,i6 0,i6 0,i6 0,i6 0,i6 0,i6 0,i6 0,i6 0,sT ⟨#[]⟩,i6 sy.st,i6 sy.ep,i6 sy.ou,bO_ sy.rc.used,i6 sy.rc.Bf,i6 sy.rc.de,i6 sy.rc.ds,sT sy.rc.block,bO_ sy.rc.op,i6 sy.rc.ie,i6 sy.rc.is,i6 sy.rc.mask,sT sy.rc.A9]] w (λF K=>(F=.returned (.tuple #[.agg #[i6 0,i6 0,i6 0,i6 0,i6 0,i6 0,i6 0,i6 0,sT ⟨#[]⟩],bO_ false])∧cc (λb:ar=>(b.id==E2)&&(b.to==lf)) zL zL.length=[]∧au z8 w K)∨∃x b,(zL[x]?=some b∧(λb:ar=>(b.id==E2)&&(b.to==lf)) b=true∧cc (λb:ar=>(b.id==E2)&&(b.to==lf)) zL x=[])∧F=.returned (.tuple #[.agg #[i6 b.q.kind,i6 b.q.Al,i6 b.q.BV,i6 b.q.seq,i6 b.q.mask,i6 b.q.node,i6 b.q.oe,i6 b.q.os,sT b.q.block],bO_ true])∧A2 K e 124 [i6 j,i6 zv,yt A (n-1) cp]∧ah K v8 141 13 A (n-1) cp (bP (zL.eraseIdx x))∧au (λd=>d=e∨dg A d) w K):=by
 refine jb (m:=5) (S:=(λd=>d=e)) (n:=46) func42 (lh v7) rfl z1 (ab.start (bk:=[⟨e,124,true,[i6 j,i6 zv,yt A n cp]⟩]) (wn:=[]) (by simpa using a0) z1 z1 z1) ?_;refine Aq 12 (dz 4 0) [2,3,4,5] [] [] [y6 12,y6 13,.code [1,1]] ⟨[(2,pt w.z 0),(3,pt (w.z+1) 0),(4,pt (w.z+2) 0),(5,pt (w.z+3) 0)],yx j zv lf E2 n A cp e w sy,[],w.z+4⟩ ?_;refine dm _ _ v7 v7 v7 (Tt j zv lf E2 n A cp e w sy) ⟨rfl,rfl,rfl,rfl,rfl,rfl,rfl,rfl,trivial⟩ λa2 b6=>?_;replace b6:w.z+4<=a2:=b6;refine z6 10 (dz 3 1048960) [2,4,5,21,22] [oE ((j != j)=false) z1] [(w.z,0,1)] [.ops (Ac 28) [2],y6 29,y6 15] (yx j zv lf E2 n A cp e w sy) [] a2 ?_;refine Ip (w:=w) (S':=(λd=>d=e)) (Y:=Nat×Nat) (λ(⟨g,h⟩:Nat×Nat)=>.func (.func 96) #[] #[pt g 0,pt h 0]) (λ(⟨g,h⟩:Nat×Nat)=>Mz j zv lf E2 n A cp e g h w sy) (λ(⟨g,h⟩:Nat×Nat) dt=>a2<=g∧g<h) (v7:_=some (59,[pt e 0,.func (.func 72) #[] #[pt (w.z+1) 0]],some 23,[])) tI (λE u=>?_) (λd b8 cB cR=>?_)
 ·refine(ua e (w.z+1) 72 E).mono λF K p=>?_;obtain⟨g,h,p,J,ac,M,cl,Q⟩:=p;have dv:E.z=a2:=u.size;exact⟨(g,h),p,⟨yq,ac⟩,(ab.add u Q [⟨g,85,false,_⟩,⟨h,142,false,_⟩] ⟨M,cl,trivial⟩ (by simp;omega) (by simp;omega)).2⟩
 obtain⟨g,h⟩:=d;obtain⟨ed,eg⟩:=cB;refine Aq 5 [] [2,4,5,23] [] [] [y6 58,.zq 0,y6 15] ⟨[(2,pt w.z 0),(4,pt (w.z+2) 0),(5,pt (w.z+3) 0),(23,.func (.func 96) #[] #[pt g 0,pt h 0])],Mz j zv lf E2 n A cp e g h w sy,[],b8.z⟩ ?_;refine dH (Ex:=mq j zv lf E2 n A cp e g h w sy) [true,false,false,true,true,false,false] rfl (λG cP V=>?_);have a3:au (λd=>d=e) w G:=(ab.A0 cR cP).x2;have d2:e<G.z:=(V.at_ 0 rfl).lt;have ea:w.z+3<G.z:=(V.at_ 4 rfl).lt;have ec:h<G.z:=(V.at_ 6 rfl).lt;have L:¬dg A e:=λa=>by
  obtain⟨b0,bs,D⟩:=a7.ty e a;have Z:=a0;unfold A2 at Z;rw[D]at Z;simp at Z
 have cs:=a7.x2 a3 (λd r a=>L (a▸r));have W:∀x,dg A x->x<w.z:=λx B=>(a7.own x B).2;have en:=a0.lt;have a9:∀d,dg A d->¬ao (mq j zv lf E2 n A cp e g h w sy) d:=λd r a=>by
  obtain⟨y,c,q,p⟩:=a;have Q:=W d r;simp at c;rcases c with rfl|rfl|rfl|rfl|rfl|rfl|rfl<;>simp at q p
  all_goals first|exact L (p▸r)|omega
 refine lk (α:=Nat) (wn:=[]) (gf:=96) (enc:=λx=>i6 (x:Int)) (N:=om (λb:ar=>(b.id==E2)&&(b.to==lf)) zL) rfl rfl (enters_of func96 v7 rfl)
  (λ(aV:aH)(o:World)=>aV=[]∧ab G (λd=>ao (mq j zv lf E2 n A cp e g h w sy) d) (mq j zv lf E2 n A cp e g h w sy) [] o.z o∧ah o v8 141 13 A n cp (bP zL)) (λ(aV:aH)(o:World)=>∃(x:Nat)(b:ar),(zL[x]?=some b∧(λb:ar=>(b.id==E2)&&(b.to==lf)) b=true∧cc (λb:ar=>(b.id==E2)&&(b.to==lf)) zL x=[])∧ab G (λd=>ao (mq j zv lf E2 n A cp e g h w sy) d∨dg A d) [⟨e,124,true,[i6 j,i6 zv,yt A (n-1) cp]⟩,⟨w.z,85,false,[pt e 0]⟩,⟨w.z+1,65,false,mo j lf E2 sy⟩,⟨w.z+2,59,true,oy b⟩,⟨w.z+3,4,true,[bO_ true]⟩,⟨g,85,false,[pt e 0]⟩,⟨h,142,false,[.func (.func 72) #[] #[pt (w.z+1) 0]]⟩] [] o.z o∧ah o v8 141 13 A (n-1) cp (bP (zL.eraseIdx x))) (λs bd bg c4 a R q=>⟨a.1,mr (bT _) a.2.1 R q,ln a.2.2 R q⟩) (λs bd bg c4 a R q=>by obtain⟨x,b,J,ac,M⟩:=a;exact⟨x,b,J,mr (bT _) ac R q,ln M R q⟩) ?h0
  (sA (sy:=sy) G g h e (w.z+1) cp n j zv lf j E2 A zL a8 yq ?Wt ?WD) ?WJ (λ_ bd bg a z=>⟨a.1,⟨rfl,λy c=>(a.2.1.zq y c).x2 z (λa=>a),a.2.1.own,a.2.1.nd,a.2.1.x2.trans z (λ_ _ a=>a.elim),λ_ B=>by cases B⟩,a.2.2.x2 z (λ_ _ a=>a)⟩) (λx:Nat=>[(24,i6 (x:Int)),(2,pt w.z 0),(4,pt (w.z+2) 0),(5,pt (w.z+3) 0),(23,.func (.func 96) #[] #[pt g 0,pt h 0])]) (λx:Nat=>[(6,i6 (x:Int)),(24,i6 (x:Int)),(2,pt w.z 0),(4,pt (w.z+2) 0),(5,pt (w.z+3) 0),(23,.func (.func 96) #[] #[pt g 0,pt h 0])]) (λ_=>rfl) ?Xp ?body ?done ?stop
 case h0=>exact λE u=>⟨rfl,by have a:=u;rw[<-u.size]at a;exact a,cs.x2 u.x2 a9⟩
 case Wt=>simp;omega
 case WD=>omega
 case WJ=>
  rintro aV du ⟨_,J,M⟩;exact⟨J.x2.mono (λ_ _ _=>trivial),J.at_ 5 rfl,J.at_ 6 rfl,J.at_ 2 rfl,λ_=>a8▸J.at_ 0 rfl,λds b O _=>by obtain⟨b7,b9,ca,_,cb⟩:=nz M O;exact⟨b7,b9,ca,cb⟩⟩
 case Xp=>
  intro x l o;refine mj (λ_=>tI) 6 [y2] [6,24,2,4,5,23] [] [] [] ⟨[(6,i6 (x:Int)),(24,i6 (x:Int)),(2,pt w.z 0),(4,pt (w.z+2) 0),(5,pt (w.z+3) 0),(23,.func (.func 96) #[] #[pt g 0,pt h 0])],[],[],o.z⟩ ?_;exact eM (λa4 E a1 u=>⟨rfl,u.x2,a1⟩)
 case body=>
  rintro l aV x o ⟨rfl,I,U⟩ ⟨b,O,c0,c6⟩;obtain⟨k,cm,R,ep,c9⟩:=nz U O;subst cm;have c1:x<n:=by have:=(cF.1 O).1;omega
  have eK:k<w.z:=W k ⟨_,rfl,rfl⟩;have c5:k≠e:=λF=>L ⟨_,rfl,F.symm⟩;have cK:¬ao (ue j zv lf E2 n cp e g h k w sy) k:=a9 k ⟨_,rfl,rfl⟩;refine⟨ue j zv lf E2 n cp e g h k w sy,I.again,?_⟩;refine mj (λ_=>tI) 2 [] [6,24,2,4,5,23] [] [] [y6 468,y6 469,.zq 1] ⟨[(6,i6 (x:Int)),(24,i6 (x:Int)),(2,pt w.z 0),(4,pt (w.z+2) 0),(5,pt (w.z+3) 0),(23,.func (.func 96) #[] #[pt g 0,pt h 0])],ue j zv lf E2 n cp e g h k w sy,[],o.z⟩ ?_;refine EP (l0:=[0,1,2,3,4,5,6,7,8,9]) v7 v7 v7 (λX a6=>?_);refine aD [⟨k,0+x*13,b.cells⟩] (λ_ d r=>?_) ?_
  ·simp only[bj,cv,or_false]at r;subst r;exact⟨cK,R,λi v cr=>c9 i v cr⟩
  refine Aq 14 [oA 1 0 1,y2,y2,oA 0 2 1,y2,HA,y2,⟨false,0,[⟨true,0,2,9⟩]⟩,y2,oA 7 0 9] [2,4,5,6,7,23,24] [oE ((0:Int)<=(x:Int)∧(x:Int)<((n:Nat):Int))] [(w.z,0,1),(e,2,1),(k,0+x*13+2,9),(o.z,0,9)] [.inv X] ⟨[(2,pt w.z 0),(4,pt (w.z+2) 0),(5,pt (w.z+3) 0),(6,i6 (x:Int)),(7,pt o.z 0),(23,.func (.func 96) #[] #[pt g 0,pt h 0]),(24,i6 (x:Int))],kc j zv lf E2 b n cp e g h k w o sy,[⟨k,0+x*13,([i6 b.to,i6 b.id]++b.q.cells++[i6 b.asked,i6 b.ES])⟩],o.z+1⟩ ?_;refine aD [] (λ_ _ a=>by cases a) ?_;refine a6 _ _ _ ?_;refine mj (λ_=>tI) 1 [] [2,4,5,6,7,23,24] [] [] [y6 938,y6 939,.zq 1] ⟨[(2,pt w.z 0),(4,pt (w.z+2) 0),(5,pt (w.z+3) 0),(6,i6 (x:Int)),(7,pt o.z 0),(23,.func (.func 96) #[] #[pt g 0,pt h 0]),(24,i6 (x:Int))],kc j zv lf E2 b n cp e g h k w o sy,[],o.z+1⟩ ?_;refine jW (f0:=12) (ls:=bA 12 0) v7 v7 v7 v7 v7 (λX a6=>?_);refine Kx (λWn b5=>?_);have cA:∀d,dg (ae k) d->¬ao (kc j zv lf E2 b n cp e g h k w o sy) d:=λd r a=>by
   obtain⟨y,c,q,p⟩:=a;have Q:=W d r;have ad:=I.x2.size;simp at c;rcases c with rfl|rfl|rfl|rfl|rfl|rfl|rfl|rfl<;>simp at q p
   all_goals first|exact L (p▸r)|omega
  have dd:eh Wn (λd=>ao (kc j zv lf E2 b n cp e g h k w o sy) d∨d=k) (yy j zv lf E2 b n cp e g h k w o sy) (yz zL n x cp k v8):=by
   intro bl C E K bk c u B z
   match bl,c,B with
   |0,c,B=>
    obtain rfl:=ap c;refine B.x2 z (λd r a=>?_);obtain⟨y,c,q,p⟩:=a;have Q:=W d r;have ad:=I.x2.size;simp at c;rcases c with rfl|rfl|rfl|rfl|rfl|rfl|rfl|rfl<;>simp at q p
    all_goals first|exact L (p▸r)|omega
   |1,c,B=>
    obtain rfl:=ap c;refine B.x2 z (λd r a=>?_);obtain⟨y,c,q,p⟩:=a;have Q:=W d r;have ad:=I.x2.size;simp at c;rcases c with rfl|rfl|rfl|rfl|rfl|rfl|rfl|rfl<;>simp at q p
    all_goals first|exact L (p▸r)|omega
   |2,c,B=>
    obtain rfl:=ap c;refine B.x2 z (λd r a=>?_);obtain⟨y,c,q,p⟩:=a;have Q:=W d r;have ad:=I.x2.size;simp at c;rcases c with rfl|rfl|rfl|rfl|rfl|rfl|rfl|rfl<;>simp at q p
    all_goals first|exact L (p▸r)|omega
   |bl+3,c,B=>exact trivial
  have de:sP j zv lf E2 b zL n x cp e g h k v8 X w o sy Wn 8:=WO (s:=0) (f:=73) (args:=λC=>[yt (ae k) n cp,i6 (x:Int),i6 ((x:Int)+1)]) (ob:=λC=>[]) (λC F=>F) (λC=>yt (ae k) (n-1) cp) (λC=>trivial) (λC E bk c u B c7=>by
   obtain rfl:=ap c;refine(EQ k n cp x v8 zL a8 c1 cU E B).mono λF K p=>?_;obtain⟨p,ac,M⟩:=p;exact⟨(),p,rfl,ac,u.A3 (λ_ a=>a) M (λd a=>.inl (.inr a)) (λy c a=>by simp at c;rcases c with rfl|rfl|rfl|rfl|rfl|rfl|rfl|rfl<;>simp at a<;>omega),M.size⟩)
  have df:sP j zv lf E2 b zL n x cp e g h k v8 X w o sy Wn 11:=V8 (s:=1) (x:=λC=>Instr.storeAt 122 (pt e 2) (yt (ae k) (n-1) cp)) (λC F=>F) (λC E bk c u B c7=>by
   obtain rfl:=ap c;obtain⟨K,J,b1,b2,c3⟩:=cG (P:=prog) (t:=122) (v:=yt (ae k) (n-1) cp) v7 (u.at_ 0 rfl) rfl (by show 2+1<=3;omega) (aU rfl) rfl;exact⟨(),K,J,rfl,B.x2 b2 (λd r a=>L ((show d=e from a)▸r)),(u.PA 0 rfl rfl b2 b1).2,bC c3.symm⟩)
  have db:∀cf∈(f5 2 [2,3,5,6,9,10]++[rY 0 2 1 0 1 w.z,rY 1 2 1 0 1 w.z,rY 4 1 0 2 1 e,⟨7,2,HA,λ_=>[JL ((x:Int)+1)],λ_=>[]⟩]:List (fG (Unit))),sP j zv lf E2 b zL n x cp e g h k v8 X w o sy Wn cf.i:=bp _ dd (λC=>v7) v7 (λC d0=>v7);have da:∀bt,bt<12->sP j zv lf E2 b zL n x cp e g h k v8 X w o sy Wn bt:=f6 (l:=[8,11]) v7 db ⟨de,df,trivial⟩;refine jX (Δ:=Unit) (λd=>ao (kc j zv lf E2 b n cp e g h k w o sy) d∨d=k) (HU n x cp e k) HV (yy j zv lf E2 b n cp e g h k w o sy) (yz zL n x cp k v8) [2,4,5,6,7,23,24] (λC=>[(2,pt w.z 0),(4,pt (w.z+2) 0),(5,pt (w.z+3) 0),(6,i6 (x:Int)),(7,pt o.z 0),(23,.func (.func 96) #[] #[pt g 0,pt h 0]),(24,i6 (x:Int))]) (λC=>EO j zv lf E2 b n cp e g h k w o sy) () (λ_ a=>.inl a) v7 v7 v7 (λE u=>(U.x2 b5.x2 a9).x2 u.x2 cA) v7 da (λC=>v7) (λC=>v7) (λC a5 es cC er aq=>?_);replace aq:=(ab.wide b5 (S':=(λd=>ao (kc j zv lf E2 b n cp e g h k w o sy) d∨d=k)) (λd a=>.inl (by obtain⟨y,c,q,p⟩:=a;exact⟨y,(show y∈((ue j zv lf E2 n cp e g h k w sy):ax)++([⟨o.z,59,true,oy b⟩]:ax)from cE _ c),q,p⟩))).Wb aq (λ_ a=>.inl a);replace aq:ab o ((λd=>ao (kc j zv lf E2 b n cp e g h k w o sy) d∨d=k)) (EO j zv lf E2 b n cp e g h k w o sy) [] a5.z a5:=aq;refine a6 _ _ _ ?_;refine mj (λ_=>tI) 9 [oA 7 0 9,oA 3 0 9,oA 4 0 1] [4,5] [] [(o.z,0,9),(w.z+2,0,9),(w.z+3,0,1)] [y6 1879,.zq 1] ⟨[(4,pt (w.z+2) 0),(5,pt (w.z+3) 0)],[⟨e,124,true,[i6 j,i6 zv,yt (ae k) (n-1) cp]⟩,⟨w.z,85,false,[pt e 0]⟩,⟨w.z+1,65,false,mo j lf E2 sy⟩,⟨w.z+2,59,true,oy b⟩,⟨w.z+3,4,true,[bO_ true]⟩,⟨g,85,false,[pt e 0]⟩,⟨h,142,false,[.func (.func 72) #[] #[pt (w.z+1) 0]]⟩,⟨o.z,59,true,oy b⟩],[],a5.z⟩ ?_;refine ug v7 (λa4 E a1 u=>?_);have b4:=ab.A0 aq u;have b3:=b4.x2;refine⟨gU (T:=λd=>ao (ue j zv lf E2 n cp e g h k w sy) d∨d=k) (b3.mono (λH z a=>?_)) (λH b z O=>?_),.inr ⟨rfl,x,b,⟨O,c0,c6.symm⟩,?_,?_⟩⟩
  ·rcases a with⟨y,c,q,rfl⟩|a
   ·simp at c;rcases c with rfl|rfl|rfl|rfl|rfl|rfl|rfl|rfl<;>simp at q
    all_goals first|exact .inl ⟨_,aS (i:=0) rfl,rfl,rfl⟩|exact .inl ⟨_,aS (i:=3) rfl,rfl,rfl⟩|exact .inl ⟨_,aS (i:=4) rfl,rfl,rfl⟩|exact absurd z z1
   ·exact .inr a
  ·rcases z with⟨y,c,q,rfl⟩|rfl
   ·have D:=I.zq y c;unfold A2 at D;rw[O]at D;cases D;rfl
   ·obtain⟨b0,bs,D⟩:=U.ty H ⟨_,rfl,rfl⟩;rw[O]at D;cases D;rfl
  ·refine⟨rfl,λy c=>?_,λy c q=>?_,?_,?_,λ_ B=>by cases B⟩
   ·exact b4.zq y (by simp at c ⊢;rcases c with rfl|rfl|rfl|rfl|rfl|rfl|rfl<;>simp)
   ·simp at c;rcases c with rfl|rfl|rfl|rfl|rfl|rfl|rfl<;>simp at q
    all_goals first|exact .inl (.inl ⟨_,aS (i:=0) rfl,rfl,rfl⟩)|exact .inl (.inl ⟨_,aS (i:=3) rfl,rfl,rfl⟩)|exact .inl (.inl ⟨_,aS (i:=4) rfl,rfl,rfl⟩)
   ·exact I.nd
   ·refine(I.x2.mono (λ_ _ a=>.inl a)).trans b3 (λH z a=>?_);rcases a with⟨y,c,q,rfl⟩|rfl
    ·simp at c;rcases c with rfl|rfl|rfl|rfl|rfl|rfl|rfl|rfl<;>simp at q
     all_goals first|exact .inl ⟨_,aS (i:=0) rfl,rfl,rfl⟩|exact .inl ⟨_,aS (i:=3) rfl,rfl,rfl⟩|exact .inl ⟨_,aS (i:=4) rfl,rfl,rfl⟩|exact absurd z (Nat.not_lt.2 I.x2.size)
    ·exact .inr ⟨_,rfl,rfl⟩
  ·refine cC.x2 u.x2 (λd r a=>?_);obtain⟨a4,co,rfl⟩:=r;cases co;obtain⟨y,c,q,p⟩:=a;simp at c;rcases c with rfl|rfl|rfl|rfl|rfl|rfl|rfl|rfl<;>simp at q p
   all_goals first|exact c5 p.symm|omega
 case done=>
  rintro bb d1 o rfl ⟨c2,aR,U⟩ cn ak;refine⟨mq j zv lf E2 n A cp e g h w sy,aR.again,?_⟩;refine Aq 10 (dz 3 0x100480900380) [4,5] [] [(w.z+2,0,9),(w.z+3,0,1)] [y6 31] ⟨[(4,pt (w.z+2) 0),(5,pt (w.z+3) 0)],mq j zv lf E2 n A cp e g h w sy,[],o.z⟩ ?_;refine oo [[⟨false,3,0,9⟩],[⟨false,4,0,1⟩]] (dp.1 ak).1 ak (λ⟨y,c,q,p⟩=>by simp at c;rcases c with rfl|rfl|rfl|rfl|rfl|rfl|rfl<;>simp at q p<;>omega) v7 (v7:_=some ([aE (ox),.bool false],aX [(w.z+2,0,9),(w.z+3,0,1)])) (λE u=>?_);have cL:au (λd=>ao (mq j zv lf E2 n A cp e g h w sy) d∨d=bb) G E:=yw aR.x2 u.x2 (λH _ a=>a.elim (λa=>.inl a) .inr) (λH a=>.inl a);have an:au (λd=>d=e) w E:=a3.trans cL (λH z a=>by
   rcases a with⟨y,c,q,p⟩|a
   ·simp at c;rcases c with rfl|rfl|rfl|rfl|rfl|rfl|rfl<;>simp at q p
    all_goals omega
   ·omega)
  refine .inl ⟨rfl,c2,an.os,an.tape,an.output,an.size,λH z _=>?_⟩;by_cases F:H=e
  ·subst F;have D:=u.at_ 0 rfl;have Z:=a0;unfold A2 at D Z;exact D.trans Z.symm
  ·exact an.block H z F
 case stop=>
  rintro bb aV o _ ⟨x,b,cq,aR,U⟩ cn ak a4 a1;refine yA [[⟨false,3,0,9⟩],[⟨false,4,0,1⟩]] (vs:=[aE (oy b),.bool true]) (rs:=[(w.z+2,0,9),(w.z+3,0,1)]) v7 (λE u=>?_) a1 aR.again ak;have cO:au (λd=>d=e∨dg A d) w o:=(a3.mono (λ_ _ a=>.inl a)).trans aR.x2 (λH z a=>by
   rcases a with⟨y,c,q,p⟩|a
   ·simp at c;rcases c with rfl|rfl|rfl|rfl|rfl|rfl|rfl<;>simp at q p
    all_goals first|exact .inl p.symm|omega
   ·exact .inr a)
  refine .inr ⟨x,b,cq,rfl,u.at_ 0 rfl,U.x2 u.x2 (λd r a=>?_),cO.trans u.x2 (λH z a=>?_)⟩
  ·rcases a with⟨y,c,q,p⟩|rfl
   ·have Q:=W d r;simp at c;rcases c with rfl|rfl|rfl|rfl|rfl|rfl|rfl<;>simp at q p
    all_goals first|exact L (p▸r)|omega
   ·obtain⟨b0,bs,D⟩:=U.ty _ r;rw[ak]at D;cases D
  ·rcases a with⟨y,c,q,p⟩|rfl
   ·simp at c;rcases c with rfl|rfl|rfl|rfl|rfl|rfl|rfl<;>simp at q p
    all_goals first|exact .inl p.symm|omega
   ·omega
def bO(b d:TypeId)(w:World)(v8 a:Nat)(c:CM):Prop:=Yi c∧TH b d w v8 a c
def lE(b:TypeId)(v8 a:Nat)(w:World)(y:Nat):Prop:=y=a∨(v8<=y∧cI [b] w y)
variable {w b:World}{v8 a lb pb y:Nat}{c:CM}{es d:List TypeId}{S:br}
theorem vi{b:TypeId}{A:aY}{n cp:Nat}{cs':av}(c:ah w v8 b 13 A n cp cs'):∀y,y=a∨dg A y->lE b v8 a w y:=by
 rintro y (rfl|h)
 ·exact .inl rfl
 ·exact .inr ⟨(c.own y h).1,b,z1,c.ty y h⟩
theorem bO.x2{g d:TypeId}{i:World}{T:br}(h:bO g d w v8 a c)(e:au T w i)(WD:¬T a)(n:∀y,T y->v8<=y->¬fm w d y):bO g d i v8 a c:=by
 obtain⟨l,j,k,m,b⟩:=h;exact⟨l,j,k,m.x2 e WD,b.x2 e (λy f o=>n y o (b.own y f).1 (b.ty y f))⟩
theorem bO.y4{b d:TypeId}{i:World}{T:br}(h:bO b d w v8 a c)(g:au T w i)(f:∀y,T y->cI es w y)(n:es.contains b=false)(p:es.contains d=false):bO b d i v8 a c:=by
 obtain⟨l,j,k,e,m⟩:=h;exact⟨l,j,k,e.x2 g (λo=>aN n (aw e) (f _ o)),m.y4 g f p⟩
theorem bO.zq{b e:TypeId}(h:bO b e w v8 a c):fm w b a:=by
 obtain⟨_,f,g,d,_⟩:=h;exact aw d
def be(es:List TypeId)(v8 lb pb a:Nat)(w:World)(y:Nat):Prop:=y=pb∨y=a∨(v8<=y∧cI es w y)∨(lb<=y∧fm w 65 y)
theorem zk(k:au (be es v8 lb pb a w) w b)(j:v8<=y)(l:cI d b y)(he:d.all es.contains=true):be es v8 lb pb a w y∨w.z<=y:=by
 by_cases h:y<w.z
 ·by_cases c:be es v8 lb pb a w y
  ·exact .inl c
  ·obtain⟨e,n,m,g,f⟩:=l;rw[k.block y h c]at f;refine absurd (.inr (.inr (.inl ⟨j,e,?_,m,g,f⟩))) c;have i:=bE.1 he e (by simpa using n);simpa using i
 ·exact .inr yq
theorem vj(j:∀y,be es v8 lb pb a w y->S y)(l:au S w b)(k:v8<=y)(m:cI d b y)(he:d.all es.contains=true):S y∨w.z<=y:=by
 by_cases h:y<w.z
 ·by_cases e:S y
  ·exact .inl e
  ·obtain⟨c,o,n,g,f⟩:=m;rw[l.block y h e]at f;refine .inl (j y (.inr (.inr (.inl ⟨k,c,?_,n,g,f⟩))));have i:=bE.1 he c (by simpa using o);simpa using i
 ·exact .inr yq
theorem Dr(g:∀y,be es v8 lb pb a w y->S y)(i:au S w b)(h:lb<=y)(j:fm b 65 y):S y∨w.z<=y:=by
 by_cases f:y<w.z
 ·by_cases c:S y
  ·exact .inl c
  ·obtain⟨k,e,d⟩:=j;rw[i.block y f c]at d;exact .inl (g y (.inr (.inr (.inr ⟨h,k,e,d⟩))))
 ·exact .inr yq
theorem vk(c:∀y,be es v8 lb pb a w y->S y)(g:au S w b)(he:d.all es.contains=true):∀y,be d v8 lb pb a b y->S y∨w.z<=y:=by
 rintro y (h|h|⟨e,f⟩|⟨e,f⟩)
 ·exact .inl (c _ (.inl h))
 ·exact .inl (c _ (.inr (.inl h)))
 ·exact vj c g e f he
 ·exact Dr c g e f
theorem eo{e a:TypeId}{g:Nat}(h:fm w e y)(he:g=y)(b:fm w a g)(c:Nat.beq e a=false):False:=by
 subst he;exact Nat.ne_of_beq_eq_false c (bS h b)
theorem be.mono(h:be es v8 lb pb a w y)(he:es.all d.contains=true):be d v8 lb pb a w y:=by
 rcases h with h|h|⟨c,b,e,f⟩|h
 ·exact .inl h
 ·exact .inr (.inl h)
 ·refine .inr (.inr (.inl ⟨c,b,?_,f⟩));have g:=bE.1 he b (by simpa using e);simpa using g
 ·exact .inr (.inr (.inr h))
theorem FH(b k:Int)(w:World):aC 27 #[i6 b,i6 k] w (λd c=>∃a,d=.returned (pt a 0)∧w.z<=a∧A2 c a 124 [i6 b,i6 (af k),z7]∧au z8 w c):=CI b k w
theorem FI(ya b:Int)(q:ck)(h:bO 124 141 w v8 a c)(s:v8<=w.z)(k:c.zL.length<8∧c.last<1099511627776∧0<=b∧b<202):aC 91 #[pt a 0,i6 ya,i6 b,.agg #[i6 q.kind,i6 q.Al,i6 q.BV,i6 q.seq,i6 q.mask,i6 q.node,i6 q.oe,i6 q.os,sT q.block]] w (λg e=>g=.returned (.tuple #[.agg #[i6 c.Ar,i6 b,i6 (c.last+1),bO_ false,i6 q.kind,i6 q.Al,i6 q.BV,i6 q.seq,i6 q.mask,i6 q.node,i6 q.oe,i6 q.os,sT q.block,i6 0,i6 0,i6 0,bO_ false,i6 0,i6 0,i6 0,sT ⟨#[]⟩,bO_ false,i6 0,i6 0,i6 0,sT ⟨#[]⟩],bO_ true])∧bO 124 141 e v8 a (d6 c ya b q)∧au (lE 141 v8 a w) w e):=by
 obtain⟨i,f,m,j,d⟩:=h;have z:¬dg f a:=λu=>absurd (bS (d.ty a u) (aw j)) (by decide);refine(TG c.Ar c.last ya b f c.zL.length m a v8 q c.zL rfl k i.last w j d s z).mono λg e t=>?_;obtain⟨l,x,n,o,p,_,r⟩:=t;refine⟨n,⟨RP i k.1,l,x,?_,?_⟩,r.mono (λy _ v=>vi d y v)⟩
 ·simpa[d6]using o
 ·simpa[d6]using p
theorem mJ(h:bO 124 141 w v8 a c):aC 79 #[pt a 0] w (λe d=>e=Jx∧(∀f,bO 124 141 d f a {c with zL:=[]})∧au (λy=>y=a) w d):=by
 obtain⟨n,g,j,o,q⟩:=h;refine(ME c.Ar c.last g c.zL.length j a w o).mono λe d p=>?_;obtain⟨k,l,m⟩:=p;exact⟨k,λf=>⟨⟨z1,n.last,λi b=>(by cases b),λi b=>(by cases b)⟩,none,0,l,ah.nil _ _ _ _⟩,m⟩
theorem i5(h:bO 124 141 w v8 a c):aC 36 #[pt a 0] w (bf (i6 (c.zL.length:Int)) w):=by
 obtain⟨f,b,d,e,g⟩:=h;exact EY c.Ar c.last b c.zL.length d a w e
theorem FJ{sy:dw}{b R:List ar}{o:ar}(h:bO 124 141 w v8 a c)(e:c.zL=b++o::R)(A:∀i∈b,i.id≠o.id):aC 42 #[pt a 0,.agg #[i6 o.to,i6 c.Ar,i6 o.id,bO_ true,i6 0,i6 0,i6 0,i6 0,i6 0,i6 0,i6 0,i6 0,sT ⟨#[]⟩,i6 sy.st,i6 sy.ep,i6 sy.ou,bO_ sy.rc.used,i6 sy.rc.Bf,i6 sy.rc.de,i6 sy.rc.ds,sT sy.rc.block,bO_ sy.rc.op,i6 sy.rc.ie,i6 sy.rc.is,i6 sy.rc.mask,sT sy.rc.A9]] w (λl j=>l=.returned (.tuple #[.agg #[i6 o.q.kind,i6 o.q.Al,i6 o.q.BV,i6 o.q.seq,i6 o.q.mask,i6 o.q.node,i6 o.q.oe,i6 o.q.os,sT o.q.block],bO_ true])∧bO 124 141 j v8 a {c with zL:=b++R}∧au (lE 141 v8 a w) w j):=by
 obtain⟨p,k,m,z,q⟩:=h;have r:=T3 (lf:=o.to) (E2:=o.id) (R:=R) rfl rfl A;refine(uf c.Ar c.last o.to o.id k c.zL.length m a v8 c.zL rfl (by have:=p.X2;omega) w z q).mono λl j B=>?_;rcases B with⟨_,d,_⟩|⟨f,i,⟨g,d,n⟩,t,u,v,x⟩
 ·rw[e]at d;exact absurd d r.2
 ·rw[e]at g n;obtain⟨D,C⟩:=r.1 f i g d n;have G:=(cF.1 (e▸g)).1;have s:(c.zL.eraseIdx f).length=c.zL.length-1:=by rw[List.length_eraseIdx,aA G]
  have F:c.zL.eraseIdx f=b++R:=by rw[e,D,NZ]
  subst C;rw[<-F];exact⟨t,⟨N0 p,k,m,by simp only[s];exact u,by simp only[s];exact v⟩,x.mono (λy _ E=>vi q y E)⟩
theorem mU(ya:Int)(w:World):aC 31 #[i6 ya] w (bf (i6 (af ya)) w):=by
 refine cH (S:=z8) (n:=6) func31 (ab.none w _) ?_;refine z6 14 (dz 5 8704) [2] [vV,vV] [] [.code [1,1]] [] [] w.z ?_;refine B1 [] [i6 (jC (mv ya 0) 1099511627776)] [] ?_;intro b a;exact⟨rfl,a.x2⟩
variable (x:am)(pb:Nat)(w:World)(k:Int)
theorem i7(c:A2 w pb 98 (am.cells x)):aC 15 #[pt pb 0] w (bf (bO_ x.busy) w):=by
 refine cH (S:=z8) (n:=7) func15 (ab.start (bk:=[⟨pb,98,false,am.cells x⟩]) (wn:=[]) (λb a=>by obtain rfl:=aG.1 a;exact c) (λb a _=>by obtain rfl:=aG.1 a;cases ‹_›) z1 z1) ?_;refine z6 15 (dz 6 5016911872) [2] [] [(pb,43,1)] [.code [1,1]] [⟨pb,98,false,am.cells x⟩] [] w.z ?_;refine B1 [] [bO_ x.busy] [] ?_;intro e d;exact⟨rfl,d.x2⟩
theorem Uf:Out.prune [2,3,4] (fu prog 17 w z8 (aj (aa (al f20) [1,0])) (aj (aa (al f20) [1,0])).toList ⟨[(0,pt pb 0),(2,i6 0),(3,sT ⟨#[]⟩),(4,i6 0)],[⟨pb,98,false,am.cells x⟩],[],w.z⟩ [(false,.op y2),(false,.op y2),(false,.op y2),(false,.op (oA 0 70 1)),(false,.op y2),(false,.op y2),(false,.op y2),(false,.op (oA 0 71 1)),(false,.op y2),(false,.op y2),(false,.op y2),(false,.op (oA 0 72 1)),(false,.op y2),(false,.op y2),(false,.op y2)])=some ⟨[],aX [(pb,70,1),(pb,71,1),(pb,72,1)],⟨[(2,i6 x.er),(3,sT x.dt),(4,i6 x.ed)],[⟨pb,98,false,am.cells x⟩],[],w.z⟩⟩:=v7
theorem Dw(e:A2 w pb 98 (am.cells x)):aC 20 #[pt pb 0] w (bf (.tuple #[i6 x.er,sT x.dt,i6 x.ed]) w):=by
 refine cH (S:=z8) (n:=17) func20 (ab.start (bk:=[⟨pb,98,false,am.cells x⟩]) (wn:=[]) (λd a=>by obtain rfl:=aG.1 a;exact e) (λd a _=>by obtain rfl:=aG.1 a;cases ‹_›) z1 z1) ?_;refine Aq 10 (dz 3 0) [0,2,3,4] [] [] [.code [1,0],.code [1,1]] ⟨[(0,pt pb 0),(2,i6 0),(3,sT ⟨#[]⟩),(4,i6 0)],[⟨pb,98,false,am.cells x⟩],[],w.z⟩ ?_;refine dm _ _ v7 v7 v7 (Uf x pb w) trivial λb c=>?_;replace c:w.z<=b:=c;refine z6 3 [] [2,3,4] [] [] [.code [1,1]] [⟨pb,98,false,am.cells x⟩] [] b ?_;refine B1 [] [i6 x.er,sT x.dt,i6 x.ed] [] ?_;intro g f;exact⟨rfl,f.x2⟩
theorem Ug:Out.prune [4] (fu prog 16 w z8 (aj (aa (al f81) [1,0])) (aj (aa (al f81) [1,0])).toList ⟨[(0,pt pb 0),(1,i6 k),(4,i6 0)],[⟨pb,98,false,am.cells x⟩],[],w.z⟩ [(false,.op y2),(false,.op y2),(false,.op y2),(false,.op (oA 0 0 2)),(false,.op y2),(false,.op y2),(false,.op y2),(false,.op y2),(false,.op (oA 0 47 1)),(false,.op y2),(false,.call (i6 ((k+x.sn)%x.N))),(false,.op y2)])=some ⟨[∀a,fU w z8 [⟨pb,98,false,am.cells x⟩] [] w.z a->aC 77 #[.agg #[i6 x.N,i6 x.S],i6 x.sn,i6 k] a (bf (i6 ((k+x.sn)%x.N)) a)],aX [(pb,0,2),(pb,47,1)],⟨[(4,i6 ((k+x.sn)%x.N))],[⟨pb,98,false,am.cells x⟩],[],w.z⟩⟩:=v7
theorem qa(h:3<=x.N∧x.N<=6∧1<=x.S∧x.S<=8)(hs:0<=x.sn∧x.sn<x.S)(i:0<=k∧k<x.N)(w:World)(g:A2 w pb 98 (am.cells x)):aC 81 #[pt pb 0,i6 k] w (bf (i6 ((k+x.sn)%x.N)) w):=by
 refine cH (S:=z8) (n:=16) func81 (ab.start (bk:=[⟨pb,98,false,am.cells x⟩]) (wn:=[]) (λf a=>by obtain rfl:=aG.1 a;exact g) (λf a _=>by obtain rfl:=aG.1 a;cases ‹_›) z1 z1) ?_;refine Aq 8 [y2] [0,1,4] [] [] [.code [1,0],.code [1,1]] ⟨[(0,pt pb 0),(1,i6 k),(4,i6 0)],[⟨pb,98,false,am.cells x⟩],[],w.z⟩ ?_;refine dm _ _ v7 v7 v7 (Ug x pb w k) ⟨(λc b=>su x.N x.S x.sn k h ⟨yq,yq,yq,yq⟩ c),trivial⟩ λd e=>?_;replace e:w.z<=d:=e;refine z6 3 [] [4] [] [] [.code [1,1]] [⟨pb,98,false,am.cells x⟩] [] d ?_;refine B1 [] [i6 ((k+x.sn)%x.N)] [] ?_;intro c b;exact⟨rfl,b.x2⟩
theorem Uh:Out.prune [4] (fu prog 16 w z8 (aj (aa (al f46) [1,0])) (aj (aa (al f46) [1,0])).toList ⟨[(0,pt pb 0),(1,i6 k),(4,i6 0)],[⟨pb,98,false,am.cells x⟩],[],w.z⟩ [(false,.op y2),(false,.op y2),(false,.op y2),(false,.op (oA 0 0 2)),(false,.op y2),(false,.op y2),(false,.op y2),(false,.op y2),(false,.op (oA 0 47 1)),(false,.op y2),(false,.call (i6 ((k+x.N-x.sn%x.N)%x.N))),(false,.op y2)])=some ⟨[∀a,fU w z8 [⟨pb,98,false,am.cells x⟩] [] w.z a->aC 78 #[.agg #[i6 x.N,i6 x.S],i6 x.sn,i6 k] a (bf (i6 ((k+x.N-x.sn%x.N)%x.N)) a)],aX [(pb,0,2),(pb,47,1)],⟨[(4,i6 ((k+x.N-x.sn%x.N)%x.N))],[⟨pb,98,false,am.cells x⟩],[],w.z⟩⟩:=v7
theorem lM(h:3<=x.N∧x.N<=6∧1<=x.S∧x.S<=8)(hs:0<=x.sn∧x.sn<x.S)(i:0<=k∧k<x.N)(w:World)(g:A2 w pb 98 (am.cells x)):aC 46 #[pt pb 0,i6 k] w (bf (i6 ((k+x.N-x.sn%x.N)%x.N)) w):=by
 refine cH (S:=z8) (n:=16) func46 (ab.start (bk:=[⟨pb,98,false,am.cells x⟩]) (wn:=[]) (λf a=>by obtain rfl:=aG.1 a;exact g) (λf a _=>by obtain rfl:=aG.1 a;cases ‹_›) z1 z1) ?_;refine Aq 8 [y2] [0,1,4] [] [] [.code [1,0],.code [1,1]] ⟨[(0,pt pb 0),(1,i6 k),(4,i6 0)],[⟨pb,98,false,am.cells x⟩],[],w.z⟩ ?_;refine dm _ _ v7 v7 v7 (Uh x pb w k) ⟨(λc b=>xr x.N x.S x.sn k h ⟨yq,yq,yq,yq⟩ c),trivial⟩ λd e=>?_;replace e:w.z<=d:=e;refine z6 3 [] [4] [] [] [.code [1,1]] [⟨pb,98,false,am.cells x⟩] [] d ?_;refine B1 [] [i6 ((k+x.N-x.sn%x.N)%x.N)] [] ?_;intro c b;exact⟨rfl,b.x2⟩
theorem Ui:Out.prune [4] (fu prog 16 w z8 (aj (aa (al f46) [1,0])) (aj (aa (al f46) [1,0])).toList ⟨[(0,pt pb 0),(1,i6 (-1)),(4,i6 0)],[⟨pb,98,false,am.cells x⟩],[],w.z⟩ [(false,.op y2),(false,.op y2),(false,.op y2),(false,.op (oA 0 0 2)),(false,.op y2),(false,.op y2),(false,.op y2),(false,.op y2),(false,.op (oA 0 47 1)),(false,.op y2),(false,.call (i6 (-1))),(false,.op y2)])=some ⟨[∀a,fU w z8 [⟨pb,98,false,am.cells x⟩] [] w.z a->aC 78 #[.agg #[i6 x.N,i6 x.S],i6 x.sn,i6 (-1)] a (bf (i6 (-1)) a)],aX [(pb,0,2),(pb,47,1)],⟨[(4,i6 (-1))],[⟨pb,98,false,am.cells x⟩],[],w.z⟩⟩:=v7
theorem mV(h:3<=x.N∧x.N<=6∧1<=x.S∧x.S<=8)(hs:0<=x.sn∧x.sn<x.S)(w:World)(g:A2 w pb 98 (am.cells x)):aC 46 #[pt pb 0,i6 (-1)] w (bf (i6 (-1)) w):=by
 refine cH (S:=z8) (n:=16) func46 (ab.start (bk:=[⟨pb,98,false,am.cells x⟩]) (wn:=[]) (λf a=>by obtain rfl:=aG.1 a;exact g) (λf a _=>by obtain rfl:=aG.1 a;cases ‹_›) z1 z1) ?_;refine Aq 8 [y2] [0,1,4] [] [] [.code [1,0],.code [1,1]] ⟨[(0,pt pb 0),(1,i6 (-1)),(4,i6 0)],[⟨pb,98,false,am.cells x⟩],[],w.z⟩ ?_;refine dm _ _ v7 v7 v7 (Ui x pb w) ⟨(λc b=>sI x.N x.S x.sn (-1) h ⟨yq,yq,yq⟩ c),trivial⟩ λd e=>?_;replace e:w.z<=d:=e;refine z6 3 [] [4] [] [] [.code [1,1]] [⟨pb,98,false,am.cells x⟩] [] d ?_;refine B1 [] [i6 (-1)] [] ?_;intro c b;exact⟨rfl,b.x2⟩
theorem LV(x:am)(c:CM)(a v8:Nat)(m:Fn)(k l:Array Value)(w:World)(o:A2 w a 98 (am.cells x))(q:bO 124 141 w v8 x.cb c):aC 53 #[pt a 0,.func m k l] w (λh i=>h=Jx∧A2 i a 98 (am.cells {x with nx:=.func m k l,lg:=false})∧(∀g,bO 124 141 i g x.cb {c with zL:=[]})∧au (λb=>b=a∨b=x.cb) w i):=by
 refine cH (S:=(λb=>b=a)) (n:=18) Tryz.func53 (ab.start (bk:=[bh a x]) (wn:=[]) (λp e=>by obtain rfl:=aG.1 e;exact o) (λp e _=>by obtain rfl:=aG.1 e;rfl) z1 z1) ?_;have D:a≠x.cb:=λh=>absurd (bS (h▸aw o) q.zq) (by decide);refine z6 9 (dz 4 270565376) [0,1,7] [] [(a,2,1)] [.ops [0] [4],.code [1]] [bh a x] [] w.z ?_;refine Ip (w:=w) (S':=(λb=>b=a∨b=x.cb)) (Y:=Unit) (λ_=>.tuple #[]) (λ_=>[bh a x]) (λ_ t=>∀g,bO 124 141 t g x.cb {c with zL:=[]}) (v7:_=some (79,[pt x.cb 0],some 8,[])) tI (λA d=>?_) (λE s B r=>?_)
 ·have C:=d.wide (S':=(λb=>b=a∨b=x.cb)) (λ_ j=>.inl j);refine(mJ (q.y4 (es:=[98]) d.x2 (λb f=>by subst f;exact⟨98,z1,aw o⟩) rfl rfl)).mono λh i z=>?_;obtain⟨u,v,y⟩:=z;exact⟨(),u,v,C.A3 (λ_ j=>j) y (λb f=>.inl (.inr f)) (λp e f=>by obtain rfl:=aG.1 e;exact D f)⟩
 refine Aq 17 (dz 11 0x13208000013108000000) [] [] [(a,49,1),(a,50,1)] [] ⟨[],[bh a {x with nx:=.func m k l,lg:=false}],[],s.z⟩ ?_;refine bN [] (v7:_=some ([],aX [])) ?_;intro A d;exact⟨rfl,d.at_ 0 rfl,λg=>(B g).y4 d.x2 (ag r) rfl rfl,(ab.A0 r d).x2⟩
theorem Ak(x:am)(c:CM)(a v8:Nat)(w:World)(k:A2 w a 98 (am.cells x))(m:bO 124 141 w v8 x.cb c):aC 53 #[pt a 0,.nilFunc] w (λh i=>h=Jx∧A2 i a 98 (am.cells {x with nx:=.nilFunc,lg:=false})∧(∀g,bO 124 141 i g x.cb {c with zL:=[]})∧au (λb=>b=a∨b=x.cb) w i):=by
 refine cH (S:=(λb=>b=a)) (n:=18) Tryz.func53 (ab.start (bk:=[bh a x]) (wn:=[]) (λl e=>by obtain rfl:=aG.1 e;exact k) (λl e _=>by obtain rfl:=aG.1 e;rfl) z1 z1) ?_;have A:a≠x.cb:=λh=>absurd (bS (h▸aw k) m.zq) (by decide);refine z6 9 (dz 4 270565376) [0,1,7] [] [(a,2,1)] [.ops [0] [4],.code [1]] [bh a x] [] w.z ?_;refine Ip (w:=w) (S':=(λb=>b=a∨b=x.cb)) (Y:=Unit) (λ_=>.tuple #[]) (λ_=>[bh a x]) (λ_ q=>∀g,bO 124 141 q g x.cb {c with zL:=[]}) (v7:_=some (79,[pt x.cb 0],some 8,[])) tI (λv d=>?_) (λB p y o=>?_)
 ·have z:=d.wide (S':=(λb=>b=a∨b=x.cb)) (λ_ j=>.inl j);refine(mJ (m.y4 (es:=[98]) d.x2 (λb f=>by subst f;exact⟨98,z1,aw k⟩) rfl rfl)).mono λh i u=>?_;obtain⟨r,s,t⟩:=u;exact⟨(),r,s,z.A3 (λ_ j=>j) t (λb f=>.inl (.inr f)) (λl e f=>by obtain rfl:=aG.1 e;exact A f)⟩
 refine Aq 17 (dz 11 0x13208000013108000000) [] [] [(a,49,1),(a,50,1)] [] ⟨[],[bh a {x with nx:=.nilFunc,lg:=false}],[],p.z⟩ ?_;refine bN [] (v7:_=some ([],aX [])) ?_;intro v d;exact⟨rfl,d.at_ 0 rfl,λg=>(y g).y4 d.x2 (ag o) rfl rfl,(ab.A0 o d).x2⟩
section
variable (x:am)(c:CM)(pb v8:Nat)(ya:Int)(w:World)(a:Int)(q:ck)(A:aY)(ca:Nat)(L:List ar)(g:Nat)
def lR:av:=[i6 q.kind,i6 x.sn,i6 q.BV,i6 q.seq,i6 q.mask,i6 q.node,i6 q.oe,i6 q.os,sT q.block]
def fT:av:=([i6 c.Ar,i6 a,i6 (c.last+1),bO_ false,i6 q.kind,i6 x.sn,i6 q.BV,i6 q.seq,i6 q.mask,i6 q.node,i6 q.oe,i6 q.os,sT q.block,i6 0,i6 0,i6 0]++ka)
def m6:av:=rp 3 (i6 0)++[bO_ false]++rp 8 (i6 0)++[sT ⟨#[]⟩]++rp 3 (i6 0)++[bO_ false]++rp 3 (i6 0)++[sT ⟨#[]⟩,bO_ false]++rp 3 (i6 0)++[sT ⟨#[]⟩]
@[simp] def Gq:ax:=[bh pb {x with ak:=(yt A L.length ca)},⟨w.z,59,true,lR x q⟩]
@[simp] def kg:ax:=[bh pb {x with ak:=(yt A L.length ca)},⟨w.z,59,true,lR x q⟩,⟨g,65,true,fT x c a q⟩]
@[simp] def Gr(b:aY)(d:Nat):ax:=[bh pb {x with ak:=(yt b (L.length+1) d)},⟨w.z,59,true,lR x q⟩,⟨g,65,true,fT x c a q⟩]
def Tj:Exit->Act->aI:=bodyPost prog f55 (λf b=>∃d e,f=Jx∧A2 b pb 98 (am.cells {x with ak:=yt d (L.length+1) e})∧bO 124 141 b v8 x.cb (d6 c ya a {q with Al:=x.sn})∧ah b x.lb 65 26 d (L.length+1) e (aJ c.Ar (L++[(⟨a,c.last+1,{q with Al:=x.sn},af ya,af ya⟩:ar)]))∧au (be [141] v8 x.lb pb x.cb w) w b)
def Sy:bu:=[(0,pt pb 0),(1,i6 ya),(2,i6 a),(7,pt w.z 0)]
def Jp(d:bi):List (Option Value):=[some (pt pb 0),some (pt pb 0),some (pt pb 2),some (pt x.cb 0),some (i6 ya),some (i6 a),some (aE (lR x q)),some (.tuple #[aE (fT x c a q),bO_ true]),some (.tuple #[aE (fT x c a q),bO_ true]),some (aE (fT x c a q)),some (bO_ true),some (pt (d.getD 0) 0),some (.tuple #[]),some (bO_ true)]
def Jq(d:bi)(k:Nat):Bool:=(fL 14 [(11,d.isSome)])[k]?.getD true
def AG(d:bi):List (ax):=[Gq x pb w q A ca L,Gq x pb w q A ca L,[bh pb {x with ak:=(yt A L.length ca)},⟨w.z,59,true,lR x q⟩,⟨d.getD 0,65,true,fT x c a q⟩]]
abbrev AH(x:am)(c:CM)(v8:Nat)(ya:Int)(w:World)(a:Int)(q:ck)(A:aY)(ca:Nat)(L:List ar)(f:Nat)(d:bi)(b:World):Prop:=match f with|0=>(bO 124 141 b v8 x.cb c∧ah b x.lb 65 26 A L.length ca (aJ c.Ar L))∧(∀e,d=some e->(w.z+1)<=e∧A2 b e 65 (m6))|1=>(bO 124 141 b v8 x.cb (d6 c ya a {q with Al:=x.sn})∧ah b x.lb 65 26 A L.length ca (aJ c.Ar L))∧(∀e,d=some e->(w.z+1)<=e∧A2 b e 65 (m6))|2=>((bO 124 141 b v8 x.cb (d6 c ya a {q with Al:=x.sn})∧ah b x.lb 65 26 A L.length ca (aJ c.Ar L))∧w.z+1<=d.getD 0)∧True|_=>True
def ql(b:Nat):Prop:=cY prog f55 [1,1,0] 38 [] (Tj x c pb v8 ya w a q L) [y6 15] (Sy pb ya w a) (V7 14 [7,12]) 2 (Jp x c pb ya a q) Jq w (be [141] v8 x.lb pb x.cb w) (AG x c pb w a q A ca L) (w.z+1) (AH x c v8 ya w a q A ca L) b
def Sz:bu:=[(0,pt pb 0),(8,pt g 0)]
def Jr(d:Option Nat×(aO)):List (Option Value):=[some (pt pb 0),some (pt pb 0),some (pt pb 0),some (pt pb 69),some (yt A L.length ca),some (aE (fT x c a q)),some (yt (ae (d.1.getD 0)) 1 1),some (yt d.2.1 (L.length+1) d.2.2),some (pt pb 0),some (pt pb 69),some (.tuple #[])]
def Js(d:Option Nat×(aO))(k:Nat):Bool:=(fL 11 [(6,d.1.isSome)])[k]?.getD true
def AI(d:Option Nat×(aO)):List (ax):=[kg x c pb w a q A ca L g,kg x c pb w a q A ca L g,[bh pb {x with ak:=(yt d.2.1 (L.length+1) d.2.2)},⟨w.z,59,true,lR x q⟩,⟨g,65,true,fT x c a q⟩]]
abbrev AJ(x:am)(c:CM)(v8:Nat)(ya:Int)(h:World)(a:Int)(q:ck)(A:aY)(ca:Nat)(L:List ar)(g:Nat)(i:Nat)(d:Option Nat×(aO))(b:World):Prop:=match i with|0=>(bO 124 141 b v8 x.cb (d6 c ya a {q with Al:=x.sn})∧ah b x.lb 65 26 A L.length ca (aJ c.Ar L))∧(∀f,d.1=some f->h.z<=f∧A2 b f 65 (fT x c a q))|1=>(bO 124 141 b v8 x.cb (d6 c ya a {q with Al:=x.sn})∧ah b x.lb 65 26 d.2.1 (L.length+1) d.2.2 (aJ c.Ar (L++[(⟨a,c.last+1,{q with Al:=x.sn},af ya,af ya⟩:ar)]))∧∀e,dg d.2.1 e->e≠g)∧True|2=>(bO 124 141 b v8 x.cb (d6 c ya a {q with Al:=x.sn})∧ah b x.lb 65 26 d.2.1 (L.length+1) d.2.2 (aJ c.Ar (L++[(⟨a,c.last+1,{q with Al:=x.sn},af ya,af ya⟩:ar)]))∧∀e,dg d.2.1 e->e≠g)∧True|_=>True
def qm(b:World)(a:Int)(q:ck)(A:aY)(ca:Nat)(L:List ar)(g:Nat)(e:Nat):Prop:=cY prog f55 [1,1,1,1,0] 38 [] (Tj x c pb v8 ya w a q L) [] (Sz pb g) (V7 11 [7,10]) 2 (Jr x c pb a q A ca L) Js b (λd=>ao (kg x c pb w a q A ca L g) d∨dg A d) (AI x c pb w a q A ca L g) b.z (AJ x c v8 ya b a q A ca L g) e
end
theorem SA(x:am)(c:CM)(h v8:Nat)(ya e:Int)(q:ck)(A:aY)(ca:Nat)(L:List ar)(cn:c.zL.length<8∧c.last<1099511627776∧0<=e∧e<202)(c0:L.length<=50)(w:World)(ak:A2 w h 98 (am.cells {x with ak:=yt A L.length ca}))(a5:bO 124 141 w v8 x.cb c)(M:ah w x.lb 65 26 A L.length ca (aJ c.Ar L))(cl:v8<=w.z)(cm:x.lb<=w.z):aC 55 #[pt h 0,i6 ya,i6 e,.agg #[i6 q.kind,i6 q.Al,i6 q.BV,i6 q.seq,i6 q.mask,i6 q.node,i6 q.oe,i6 q.os,sT q.block]] w (λz E=>∃Y a4,z=Jx∧A2 E h 98 (am.cells {x with ak:=yt Y (L.length+1) a4})∧bO 124 141 E v8 x.cb (d6 c ya e {q with Al:=x.sn})∧ah E x.lb 65 26 Y (L.length+1) a4 (aJ c.Ar (L++[(⟨e,c.last+1,{q with Al:=x.sn},af ya,af ya⟩:ar)]))∧au (be [141] v8 x.lb h x.cb w) w E):=by
 refine cH (S:=(λj=>j=h)) (n:=38) func55 (ab.start (bk:=[bh h {x with ak:=yt A L.length ca}]) (wn:=[]) (λy b=>by obtain rfl:=aG.1 b;exact ak) (λy b _=>by obtain rfl:=aG.1 b;rfl) z1 z1) ?_;have bd:h≠x.cb:=λz=>absurd (bS (z▸aw ak) a5.zq) (by decide);have c3:=ak.lt;have a3:=aw ak;refine Aq 18 (dz 8 0x101180012f0800000) [0,1,2,7] [] [(h,47,1),(w.z,1,1)] [y6 14,y6 15] ⟨[(0,pt h 0),(1,i6 ya),(2,i6 e),(7,pt w.z 0)],Gq x h w q A ca L,[],w.z+1⟩ ?_;have bs:eh w (be [141] v8 x.lb h x.cb w) (AG x c h w e q A ca L) (AH x c v8 ya w e q A ca L):=by
  intro D d v E bk b m a u
  match D,b,a with
  |0,b,a=>
   obtain rfl:=ap b;refine⟨⟨a.1.1.y4 u (ag m) rfl rfl,a.1.2.kU u m⟩,λp t=>⟨(a.2 p t).1,(a.2 p t).2.x2 u (λ⟨y,b,H,r⟩=>?_)⟩⟩;have K:=(a.2 p t).1;simp at b;rcases b with rfl|rfl<;>simp at H r<;>omega
  |1,b,a=>
   obtain rfl:=ap b;refine⟨⟨a.1.1.y4 u (ag m) rfl rfl,a.1.2.kU u m⟩,λp t=>⟨(a.2 p t).1,(a.2 p t).2.x2 u (λ⟨y,b,H,r⟩=>?_)⟩⟩;have K:=(a.2 p t).1;simp at b;rcases b with rfl|rfl<;>simp at H r<;>omega
  |2,b,a=>
   obtain rfl:=ap b;refine⟨⟨⟨a.1.1.1.y4 u (ag m) rfl rfl,a.1.1.2.x2 u (λj o ⟨y,b,H,r⟩=>?_)⟩,a.1.2⟩,trivial⟩;have V:=M.own j o;have G:=a.1.1.2.ty j o;have K:=a.1.2;simp at b;rcases b with rfl|rfl|rfl
   ·exact eo G r (aw (m.at_ 0 rfl)) rfl
   all_goals (dsimp only at r;omega)
  |D+3,b,a=>exact trivial
 have cA:ql x c h v8 ya w e q A ca L 7:=WO (s:=0) (f:=91) (args:=λd=>[pt x.cb 0,i6 ya,i6 e,aE (lR x q)]) (ob:=λd=>[]) (λ(d:bi)(_:Unit)=>d) (λd=>.tuple #[aE (fT x c e q),bO_ true]) (λd=>trivial) (λd v bk b m a X=>by
  obtain rfl:=ap b;refine(FI ya e {q with Al:=x.sn} a.1.1 (az cl m.x2.size) cn).mono λz E b2=>?_;obtain⟨Q,ad,N⟩:=b2;refine⟨(),Q,rfl,⟨⟨ad,a.1.2.x2 N (λj o B=>?_)⟩,λp t=>⟨(a.2 p t).1,(a.2 p t).2.x2 N (λB=>?_)⟩⟩,m.A3 (λ_ F=>F) N (λj o=>?_) (λy b o=>?_),N.size⟩
  ·rcases B with rfl|⟨_,B⟩
   ·exact absurd (bS (a.1.2.ty _ o) a.1.1.zq) (by decide)
   ·exact aN rfl (a.1.2.ty _ o) B
  ·rcases B with r|⟨_,B⟩
   ·exact absurd (bS (aw (a.2 p t).2) (r▸a.1.1.zq)) (by decide)
   ·exact aN rfl (aw (a.2 p t).2) B
  ·rcases o with rfl|⟨a0,b0⟩
   ·exact .inl (.inr (.inl rfl))
   ·exact zk m.x2 a0 b0 rfl
  ·have a9:=aw (m.zq y b);rcases o with r|⟨_,B⟩
   ·exact absurd (bS (r▸a9) a.1.1.zq) (by simp at b;rcases b with rfl|rfl<;>simp)
   ·exact aN (by simp at b;rcases b with rfl|rfl<;>rfl) a9 B)
 have cK:ql x c h v8 ya w e q A ca L 11:=W1 1 65 (m6) (λ_ g=>some g) (λg=>pt g 0) (λD d v E bk J b m a u an aq=>by
  have I:=bs D d v E bk b m a u
  match D,b,a,I,J with
  |0,b,a,I,J=>exact⟨I.1,(λp t=>by obtain rfl:=ap t;exact⟨an,aq⟩)⟩
  |1,b,a,I,J=>exact⟨I.1,(λp t=>by obtain rfl:=ap t;exact⟨an,aq⟩)⟩
  |D+2,b,a,I,J=>exact absurd J yq)
 have cL:ql x c h v8 ya w e q A ca L 12:=V8 (s:=1) (x:=λd=>Instr.storeAt 65 (pt (d.getD 0) 0) (aE (fT x c e q))) (λ(d:bi)(_:Unit)=>d) (λd v bk b m a X=>by
  obtain rfl:=ap b;obtain⟨p,rfl⟩:∃p,d=some p:=cV.1 (X 11 (aS (i:=0) v7) (d9 (k:=8) v7));obtain⟨bg,T⟩:=a.2 p rfl;have Q:=jB (P:=prog) v 65 p 0 65 _ (aE (fT x c e q)) v7 T (by show 0+26<=26;omega) (aU rfl);have R:=f9 v p (((m6):av).take 0++(aE (fT x c e q):Value).cells.toList++((m6):av).drop (0+26)).toArray;have a2:=gZ T (((m6):av).take 0++(aE (fT x c e q):Value).cells.toList++((m6):av).drop (0+26));refine⟨(),_,Q,rfl,⟨⟨⟨a.1.1.x2 R (λz=>?_) (λj o _ B=>?_),a.1.2.x2 R (λj o z=>?_)⟩,bg⟩,trivial⟩,m.Wc (g:=p) R a2 yq (λy b z=>?_),bC (iY _ _ _).symm⟩
  ·exact absurd (bS (z▸a.1.1.zq) (aw T)) (by decide)
  ·subst o;exact absurd (bS B (aw T)) (by decide)
  ·have V:=(M.own j o).2;omega
  ·simp at b;rcases b with rfl|rfl
   all_goals (dsimp only at z;omega))
 have cq:∀U∈(f5 2 [0,1,2,4,5,8,9,10,13]++[rY 3 2 0 2 1 h,rY 6 2 1 0 9 w.z]:List (fG (bi))),ql x c h v8 ya w e q A ca L U.i:=bp _ bs (λd=>v7) v7 (λd b3=>v7);have cp:∀W,W<14->ql x c h v8 ya w e q A ca L W:=f6 (l:=[7,11,12]) v7 cq ⟨cA,cK,cL,trivial⟩;refine bD (Δ:=bi) (be [141] v8 x.lb h x.cb w) (Jp x c h ya e q) Jq (AG x c h w e q A ca L) (AH x c v8 ya w e q A ca L) [0,8,9] (λd=>[(0,pt h 0),(8,pt (d.getD 0) 0),(9,bO_ true)]) (λd=>[bh h {x with ak:=(yt A L.length ca)},⟨w.z,59,true,lR x q⟩,⟨d.getD 0,65,true,fT x c e q⟩]) none (λ_ F=>.inl F) v7 v7 v7 (λv m=>⟨⟨a5.x2 m.x2.drew bd.symm (λj o _ B=>absurd (bS (o▸B) a3) (by decide)),M.x2 m.x2.drew (λj o z=>absurd (bS (M.ty j o) (z▸a3)) (by decide))⟩,λ_ F=>by cases F⟩) v7 cp (λd=>v7) (λd=>v7) (λd C bl cb c4 O=>?_);obtain⟨g,rfl⟩:∃g,d=some g:=cV.1 (bl 11 (Nat.le_of_ble_eq_true v7) (d9 (k:=8) v7));obtain⟨⟨⟨b8,b6⟩,bb⟩,_⟩:=cb;replace bb:w.z+1<=g:=bb;replace O:ab w (be [141] v8 x.lb h x.cb w) (kg x c h w e q A ca L g) [] C.z C:=O;change aF _ _ _ _ C (ao (kg x c h w e q A ca L g)) _ [y6 15] ⟨[(0,pt h 0),(8,pt g 0),(9,bO_ true)],kg x c h w e q A ca L g,[],C.z⟩;have c2:g<C.z:=(O.zq _ (aS (i:=2) rfl)).lt;refine Aq 8 [y2,FN] [0,8] [tT] [] [y6 62] ⟨[(0,pt h 0),(8,pt g 0)],kg x c h w e q A ca L g,[],C.z⟩ ?_;have b7:∀j,dg A j->j≠g:=λj o=>by have V:=(M.own j o).2;omega
 have a1:∀j,dg A j->¬ao (kg x c h w e q A ca L g) j:=by
  intro j o ⟨y,b,H,r⟩;have V:=(M.own j o).2;have G:=M.ty j o;simp at b;rcases b with rfl|rfl|rfl
  ·exact eo G r a3 rfl
  all_goals (dsimp only at r;omega)
 have bt:eh C (λj=>ao (kg x c h w e q A ca L g) j∨dg A j) (AI x c h w e q A ca L g) (AJ x c v8 ya C e q A ca L g):=by
  intro D d v E bk b m a u
  match D,b,a with
  |0,b,a=>
   obtain rfl:=ap b;refine⟨⟨a.1.1.y4 u (ag m) rfl rfl,a.1.2.x2 u a1⟩,λp t=>⟨(a.2 p t).1,(a.2 p t).2.x2 u (λ⟨y,b,H,r⟩=>?_)⟩⟩;have K:=(a.2 p t).1;have c1:=O.x2.size;simp at b;rcases b with rfl|rfl|rfl
   ·have b5:=aw (a.2 p t).2;exact eo b5 r (aw (m.at_ 0 rfl)) rfl
   all_goals (dsimp only at r;omega)
  |1,b,a=>
   obtain rfl:=ap b;refine⟨⟨a.1.1.y4 u (ag m) rfl rfl,a.1.2.1.x2 u (λj o ⟨y,b,H,r⟩=>?_),a.1.2.2⟩,trivial⟩;have G:=a.1.2.1.ty j o;have K:=a.1.2.2 j o;simp at b;rcases b with rfl|rfl|rfl
   ·exact eo G r (aw (m.at_ 0 rfl)) rfl
   ·exact eo G r (aw (m.at_ 1 rfl)) rfl
   ·exact K r.symm
  |2,b,a=>
   obtain rfl:=ap b;refine⟨⟨a.1.1.y4 u (ag m) rfl rfl,a.1.2.1.x2 u (λj o ⟨y,b,H,r⟩=>?_),a.1.2.2⟩,trivial⟩;have G:=a.1.2.1.ty j o;have K:=a.1.2.2 j o;simp at b;rcases b with rfl|rfl|rfl
   ·exact eo G r (aw (m.at_ 0 rfl)) rfl
   ·exact eo G r (aw (m.at_ 1 rfl)) rfl
   ·exact K r.symm
  |D+3,b,a=>exact trivial
 have cB:qm x c h v8 ya w C e q A ca L g 6:=W1 0 65 (fT x c e q) (λd g=>(some g,d.2)) (λg=>yt (ae g) 1 1) (λD d v E bk J b m a u an aq=>by
  have I:=bt D d v E bk b m a u
  match D,b,a,I,J with
  |0,b,a,I,J=>exact⟨I.1,(λp t=>by obtain rfl:=ap t;exact⟨an,aq⟩)⟩
  |D+1,b,a,I,J=>exact absurd J yq)
 have cC:qm x c h v8 ya w C e q A ca L g 7:=Xa (s:=0) (x:=λd=>Builtin.append_ #[50,50] 50 #[yt A L.length ca,yt (ae (d.1.getD 0)) 1 1]) (λ(d:Option Nat×(aO))(U:aO)=>(d.1,U)) (λd=>yt d.2.1 (L.length+1) d.2.2) (λd v bk b m a X=>by
  obtain rfl:=ap b;obtain⟨a6,cU,D⟩:=d;obtain⟨p,rfl⟩:∃p,a6=some p:=cV.1 (X 6 (aS (i:=1) v7) (d9 (k:=34) v7));obtain⟨bg,T⟩:=a.2 p rfl;obtain⟨Y,b4,E,Q,ad,N,a0⟩:=ce (P:=prog) v x.lb 50 50 65 (aE (m6)) 26 232 A L.length ca (aJ c.Ar L) ⟨p,0,none⟩ 1 1 (fT x c e q) v7 v7 v7 (by decide) a.1.2 rfl (λcP cR b1=>by rw[bY,bG];exact T.at_ b1) (aU rfl) yq (by decide) (az cm (az O.x2.size m.x2.size));rw[show aJ c.Ar L++((fT x c e q):av)=aJ c.Ar (L++[(⟨e,c.last+1,{q with Al:=x.sn},af ya,af ya⟩:ar)])from xf c.Ar L ⟨e,c.last+1,{q with Al:=x.sn},af ya,af ya⟩]at ad;refine⟨(Y,b4),E,Q,rfl,⟨⟨a.1.1.y4 N (bW a.1.2) rfl rfl,ad,λj o=>(a0 j o).elim (b7 j) (λF=>?_)⟩,trivial⟩,m.A3 (λ_ F=>F) N (λj o=>?_) (λy b o=>a1 _ o ⟨y,b,?_,rfl⟩),N.size⟩
  ·have V:=(m.zq _ (aS (i:=2) rfl)).lt;dsimp only at V;omega
  ·exact .inl (.inr o)
  ·simp at b;rcases b with rfl|rfl|rfl<;>rfl)
 have cO:qm x c h v8 ya w C e q A ca L g 10:=V8 (s:=1) (x:=λd=>Instr.storeAt 50 (pt h 69) (yt d.2.1 (L.length+1) d.2.2)) (λ(d:Option Nat×(aO))(_:Unit)=>d) (λd v bk b m a X=>by
  obtain rfl:=ap b;have Q:=jB (P:=prog) v 50 h 69 98 _ (yt d.2.1 (L.length+1) d.2.2) v7 (m.at_ 0 rfl) (by show 69+1<=73;omega) (aU rfl);have R:=f9 v h ((am.cells {x with ak:=yt A L.length ca}).take 69++(.slice d.2.1 (L.length+1) d.2.2:Value).cells.toList++(am.cells {x with ak:=yt A L.length ca}).drop (69+1)).toArray;have a2:=gZ (m.at_ 0 rfl) ((am.cells {x with ak:=yt A L.length ca}).take 69++(.slice d.2.1 (L.length+1) d.2.2:Value).cells.toList++(am.cells {x with ak:=yt A L.length ca}).drop (69+1));have a8:=aw (m.at_ 0 rfl);refine⟨(),_,Q,rfl,⟨⟨a.1.1.x2 R (λz=>bd z.symm) (λj o _ B=>eo B o.symm a8 rfl),a.1.2.1.x2 R (λj o z=>eo (a.1.2.1.ty j o) z.symm a8 rfl),a.1.2.2⟩,trivial⟩,(m.PA 0 rfl rfl R a2).2,bC (iY _ _ _).symm⟩)
 have cs:∀U∈(f5 2 [0,1,2,3,8,9]++[rY 4 1 0 69 1 h,rY 5 2 2 0 26 g]:List (fG (Option Nat×(aO)))),qm x c h v8 ya w C e q A ca L g U.i:=bp _ bt (λd=>v7) v7 (λd b3=>v7);have cr:∀W,W<11->qm x c h v8 ya w C e q A ca L g W:=f6 (l:=[6,7,10]) v7 cs ⟨cB,cC,cO,trivial⟩;refine bD (Δ:=Option Nat×(aO)) (λj=>ao (kg x c h w e q A ca L g) j∨dg A j) (Jr x c h e q A ca L) Js (AI x c h w e q A ca L g) (AJ x c v8 ya C e q A ca L g) [] (λd=>[]) (λd=>[bh h {x with ak:=(yt d.2.1 (L.length+1) d.2.2)},⟨w.z,59,true,lR x q⟩,⟨g,65,true,fT x c e q⟩]) (none,(none,0)) (λ_ F=>.inl F) v7 v7 v7 (λv m=>⟨⟨b8.y4 m.x2.drew (ag O) rfl rfl,b6.x2 m.x2.drew a1⟩,λ_ F=>by cases F⟩) v7 cr (λd=>v7) (λd=>v7) (λd aV bl cf c5 aR=>?_);obtain⟨a6,Z,ac⟩:=d;obtain⟨⟨b9,a7,co⟩,_⟩:=cf;change aF _ _ _ _ aV (ao (Gr x c h w e q L g Z ac)) _ [] ⟨[],Gr x c h w e q L g Z ac,[],aV.z⟩;refine Aq 3 [] [] [] [] [] ⟨[],Gr x c h w e q L g Z ac,[],aV.z⟩ ?_;refine bN [] (v7:_=some ([],aX [])) ?_;intro v m;refine⟨Z,ac,rfl,m.at_ 0 rfl,b9.y4 m.x2 (ag aR) rfl rfl,a7.x2 m.x2 (λj o ⟨y,b,H,r⟩=>?_),((O.Wb aR (λj o=>?_)).A0 m).x2⟩
 ·have G:=a7.ty j o;have K:=co j o;simp at b;rcases b with rfl|rfl|rfl
  ·exact eo G r (aw (aR.at_ 0 rfl)) rfl
  ·exact eo G r (aw (aR.at_ 1 rfl)) rfl
  ·exact K r.symm
 ·rcases o with⟨y,b,H,rfl⟩|o
  ·exact O.own y b H
  ·exact .inl (.inr (.inr (.inr ⟨(M.own j o).1,M.ty j o⟩)))
end Go.Proofs.YtcmpkkapkdlfhaaGreat
