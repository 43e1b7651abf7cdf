import Derived.Test.YtcmpkkapkdlfhaaGreatSettle17e
namespace Go.Proofs.YtcmpkkapkdlfhaaGreat
open Go.RowKit Tryz
set_option maxHeartbeats 4000000
set_option maxRecDepth 100000
section
variable (x:am)(pb:Nat)(ya:Int)(a:Value)(_:Unit)
@[simp] def rA:ax:=[bh pb {x with nx:=.nilFunc,lg:=false,db:=false,ak:=a}]
@[simp] def rB:ax:=[⟨pb,98,true,am.cells {x with lv:=Wo x.lv (Int.toNat x.sn) (⟨true,x.ep,x.ou,0,x.en⟩),nx:=.nilFunc,lg:=false,db:=false,ak:=a}⟩]
def SF:bu:=[(0,pt pb 0),(1,i6 ya),(4,pt pb 44)]
def JD(_:Unit):List (Option Value):=[some (pt pb 0),some (pt pb 44),some (pt pb 44),some (pt pb 47),some (i6 x.sn),some (pt pb 44),some (pt pb 44),some (pt pb 52),some (i6 x.ep),some (pt pb 44),some (pt pb 44),some (pt pb 53),some (i6 x.ou),some (pt pb 44),some (pt pb 44),some (pt pb 51),some (i6 x.en),some (.agg #[bO_ true,i6 x.ep,i6 x.ou,i6 0,i6 x.en]),some (pt pb 0),some (pt pb 3),some (pt pb (3+(Int.toNat x.sn)*5)),some (.tuple #[])]
def JE(_:Unit)(k:Nat):Bool:=(fL 22 [])[k]?.getD true
def Ba(_:Unit):List (ax):=[rA x pb a,rB x pb a]
abbrev Bb(x:am)(c:CM)(v8:Nat)(a:Value)(L:List ar)(d:Nat)(_:Unit)(b:World):Prop:=match d with|0=>bq b v8 x.lb x.cb ({c with zL:=[]}) L a|1=>bq b v8 x.lb x.cb ({c with zL:=[]}) L a|_=>True
def Bc(c:CM)(pb:Nat)(v8:Nat)(ya:Int)(w:World)(b:World)(a:Value)(L:List ar)(E:aI)(g:Nat):Prop:=cY prog f142 [1,1,0] 75 [] (bodyPost prog f142 (λf e=>f=Jx∧E e∧au (be [141,178] v8 x.lb pb x.cb w) w e)) [y6 15] (SF pb ya) (V7 22 [21]) 1 (JD x pb) JE b (λd=>(ao (rA x pb a)) d∨(be [141,178] v8 x.lb pb x.cb b) d) (Ba x pb a) b.z (Bb x c v8 a L) g
end
theorem Gd(x:am)(c:CM)(L:List ar)(a:Nat)(v8:Nat)(E:aI)(W:∀w g,E w->au z8 w g->E g)(ya:Int)(bl:3<=x.N∧x.N<=6∧1<=x.S∧x.S<=8)(hs:0<=x.sn∧x.sn<x.S)(a5:∀e,aP e v8 a ({x with lv:=Wo x.lv (Int.toNat x.sn) ⟨true,x.ep,x.ou,0,x.en⟩,nx:=.nilFunc,lg:=false,db:=false}) ({c with zL:=[]}) L->v8<=e.z->aC 32 #[pt a 0,i6 ya] e (λr g=>r=Jx∧E g∧au (be [141,178] v8 x.lb a x.cb e) e g))(w:World)(Z:aP w v8 a ({x with db:=false}) c L)(N:v8<=w.z):aC 142 #[pt a 0,i6 ya] w (λr g=>r=Jx∧E g∧au (be [141,178] v8 x.lb a x.cb w) w g):=by
 obtain⟨v,J,X⟩:=Z;have a0:=aw J;refine cH (S:=(λi=>i=a)) (n:=75) func142 (ab.D1 J) ?_;refine z6 6 [y2] [0,1,5] [] [] [.ops [0] [1],.code [1]] [bh a {x with db:=false,ak:=v}] [] w.z ?_;refine Ip (w:=w) (S':=bL [141,178] v8 x a w) (Y:=Value) (λb=>.tuple #[]) (λb=>rA x a b) (λb B=>bq B v8 x.lb x.cb ({c with zL:=[]}) L b) (v7:_=some (53,[pt a 0,.nilFunc],some 6,[])) tI (λe d=>?_) (λb m a3 z=>?_)
 ·have o:=(d.wide (S':=bL [141,178] v8 x a w) (λ_ j=>.inl j));have F:=(X.y4 (es:=[98]) d.x2 (λi u=>by subst u;exact⟨98,z1,a0⟩) rfl rfl rfl);have y:aP e v8 a ({x with db:=false,ak:=v}) c L:=⟨_,d.at_ 0 rfl,F⟩;refine(xt y).mono λr g H=>?_;obtain⟨G,⟨ak,aq,a8⟩,C⟩:=H;have a2:=y.T' (es:=[]);exact⟨ak,G,a8,o.HS C (bv o.x2 rfl) aq (bQ d a2 rfl)⟩
 have a1:=a3;refine Aq 12 (dz 4 0) [0,1,4] [] [] [y6 14,y6 15] ⟨[(0,pt a 0),(1,i6 ya),(4,pt a 44)],rA x a b,[],m.z⟩ ?_;have bd:eh m (λi=>(ao (rA x a b)) i∨(bL [141,178] v8 x a m) i) (Ba x a b) (Bb x c v8 b L):=by
  intro I h e g T f d k K
  match I,f,k with
  |0,f,k=>
   obtain rfl:=ap f;exact(k.kU K d)
  |1,f,k=>
   obtain rfl:=ap f;exact(k.kU K d)
  |I+2,f,k=>exact trivial
 have bg:Bc x c a v8 ya w m b L E 21:=V8 (s:=0) (x:=λh=>Instr.storeAt 88 (pt a (3+(Int.toNat x.sn)*5)) (.agg #[bO_ true,i6 x.ep,i6 x.ou,i6 0,i6 x.en])) (λ(h:Unit)(_:Unit)=>h) (λh e T f d k b2=>by
  obtain rfl:=ap f;obtain⟨g,V,an,Q,a7⟩:=cG (P:=prog) (t:=88) (v:=.agg #[bO_ true,i6 x.ep,i6 x.ou,i6 0,i6 x.en]) v7 (d.at_ 0 rfl) rfl (by show(3+(Int.toNat x.sn)*5)+5<=73;omega) (aU rfl) (D8 ({x with nx:=.nilFunc,lg:=false,db:=false,ak:=b}) yq (⟨true,x.ep,x.ou,0,x.en⟩));exact⟨(),g,V,rfl,(k.y4 (es:=[98]) Q (λi u=>by subst u;exact⟨98,z1,aw (d.at_ 0 rfl)⟩) rfl rfl rfl),(d.PA 0 rfl rfl Q an).2,bC a7.symm⟩)
 have bb:∀U∈(f5 1 [0,1,2,3,5,6,7,9,10,11,13,14,15,17,18,19]++[rY 4 1 0 47 1 a,rY 8 1 0 52 1 a,rY 12 1 0 53 1 a,rY 16 1 0 51 1 a,⟨20,1,HA,λ_=>[oE ((0:Int)<=x.sn∧x.sn<((8:Nat):Int))],λ_=>[]⟩]:List (fG (Unit))),Bc x c a v8 ya w m b L E U.i:=bp _ bd (λh=>v7) v7 (λh bs=>v7);have a9:∀M,M<22->Bc x c a v8 ya w m b L E M:=f6 (l:=[21]) v7 bb ⟨bg,trivial⟩;refine bD (Δ:=Unit) (λi=>(ao (rA x a b)) i∨(bL [141,178] v8 x a m) i) (JD x a) JE (Ba x a b) (Bb x c v8 b L) [0,1,4] (λh=>[(0,pt a 0),(1,i6 ya),(4,pt a 44)]) (λh=>rB x a b) () (λ_ j=>.inl j) v7 v7 v7 (λe d=>a1.y4 d.x2.drew (ag z) rfl rfl rfl) v7 a9 (λh=>v7) (λh=>v7) (λh p b0 a4 b1 q=>?_);replace q:=z.Wb q (λi u=>u.elim (λ⟨A,f,ad,ac⟩=>ac▸z.own A f ad) (λj=>bv z.x2 rfl i j));have D:=a4;replace D:bq p v8 x.lb x.cb ({c with zL:=[]}) L b:=D;replace q:ab w (bL [141,178] v8 x a w) (rB x a b) [] p.z p:=q;change aF _ _ _ _ p (ao (rB x a b)) _ [y6 15] ⟨[(0,pt a 0),(1,i6 ya),(4,pt a 44)],rB x a b,[],p.z⟩;refine z6 16 (dz 7 325091328) [72,73] [fF] [(a,54,1)] [.ops (Ac 31) [2]] (rB x a b) [] p.z ?_;refine Ip (w:=w) (S':=bL [141,178] v8 x a w) (Y:=Unit) (λ_=>.tuple #[]) (λ_=>[]) (λ_ B=>E B) (v7:_=some (32,[pt a 0,i6 ya],some 74,[])) tI (λe d=>?_) (λbt R aR a6=>?_)
 ·have o:=(ab.A0 q d);have O:v8<=e.z:=az N o.x2.size;have F:=(D.kT d q);have y:aP e v8 a ({x with lv:=Wo x.lv (Int.toNat x.sn) (⟨true,x.ep,x.ou,0,x.en⟩),nx:=.nilFunc,lg:=false,db:=false,ak:=v}) ({c with zL:=[]}) L:=⟨_,d.at_ 0 rfl,F⟩;refine(a5 e y O).mono λr g H=>?_;obtain⟨G,aV,C⟩:=H;exact⟨(),G,aV,o.none_.A3 (λ_ j=>j) C (bv o.x2 rfl) (λA f=>by cases f)⟩
 refine Aq 4 [] [] [] [] [] ⟨[],[],[],R.z⟩ ?_;refine bN [] (v7:_=some ([],aX [])) ?_;intro e d;exact⟨rfl,W _ _ aR (d.x2.mono (λbk _ j=>by obtain⟨A,f,_⟩:=j;cases f)),(ab.A0 a6 d).x2⟩
section
variable (x:am)(pb:Nat)(ya:Int)(d:Value)(n a b:Nat)
@[simp] def o5:ax:=[bh pb {x with nx:=.func (.func 140) #[pt pb 0] #[],lg:=false,kn:=yt (ae a) n n,rc:=yt (ae b) n n,ak:=d}]
@[simp] def Pu(v0:Value)(a:Nat)(b:Nat):ax:=[bh pb {x with nx:=.func (.func 140) #[pt pb 0] #[],lg:=false,kn:=yt (ae a) n n,rc:=yt (ae b) n n,Wh:=false,ak:=v0}]
theorem Ux(c:World)(d:Value)(n:Nat)(a:Nat)(b:Nat):Out.prune [0,1,4,5,6] (fp prog 78 c (ao (o5 x pb d n a b)) (aj (aa (al f126) (Ac 14))).toList ⟨[(0,pt pb 0),(1,i6 ya),(4,pt pb 44)],o5 x pb d n a b,[],c.z⟩ [.op y2,.op y2,.op y2,.op (oA 0 47 1),.op y2,.op y2,.op y2,.op (oA 0 52 1),.op y2,.op y2,.op y2,.op (oA 0 57 1),.op y2,.op y2,.op y2,.op (oA 0 58 1),.call (.tuple #[z7,z7]),.op y2,.op y2,.op y2,.op y2,.op y2])=some ⟨[∀e,fU c (ao (o5 x pb d n a b)) (o5 x pb d n a b) [] c.z e->aC 141 #[i6 x.sn,i6 x.ep,yt (ae a) n n,yt (ae b) n n] e (bf (.tuple #[z7,z7]) e)],aX [(pb,47,1),(pb,52,1),(pb,57,1),(pb,58,1)],⟨[(0,pt pb 0),(1,i6 ya),(4,pt pb 44),(5,z7),(6,z7)],o5 x pb d n a b,[],c.z⟩⟩:=v7
def VA(c:CM)(pb:Nat)(v8:Nat)(ya:Int)(L:List ar)(n:Nat)(a:Nat)(b:Nat)(R:List aZ)(e:List Bool)(m:Nat)(st:St)(d:World):Prop:=
 ∃(v0:Value)(z:Nat),m=0∧bq d v8 x.lb x.cb ({c with zL:=[]}) L v0∧ah d v8 4 1 (ae a) n n (ai ez e)∧ah d v8 61 10 (ae b) n n (ai aZ.cells R)∧st=⟨[(0,pt pb 0),(1,i6 ya),(4,pt pb 44),(5,z7),(6,z7),(39,z7),(40,i6 0),(41,i6 0)],Pu x pb n v0 a b,[],z⟩
end
theorem rk(x:am)(c:CM)(L:List ar)(a:Nat)(v8:Nat)(E:aI)(X:∀w g,E w->au z8 w g->E g)(n:Nat)(k:List Bool)(R:List aZ)(d e:Nat)(ya:Int)(b2:0<n∧n<=6)(aV:k.length=n)(a6:0<(fE k n).length)(a2:R.length=n)(a3:∀U∈R,U.op=false)(a5:∀f,aP f v8 a ({x with nx:=.func (.func 140) #[pt a 0] #[],lg:=false,Wh:=false,kn:=yt (ae d) n n,rc:=yt (ae e) n n}) ({c with zL:=[]}) L->v8<=f.z->aC 142 #[pt a 0,i6 ya] f (λl g=>l=Jx∧E g∧au (be [141,178] v8 x.lb a x.cb f) f g))(w:World)(ac:aP w v8 a ({x with kn:=yt (ae d) n n,rc:=(yt (ae e) n n)}) c L)(a9:ah w v8 4 1 (ae d) n n (ai ez k))(bb:ah w v8 61 10 (ae e) n n (ai aZ.cells R))(K:v8<=w.z):aC 126 #[pt a 0,i6 ya] w (λl g=>l=Jx∧E g∧au (be [141,178] v8 x.lb a x.cb w) w g):=by
 obtain⟨o,I,Z⟩:=ac;have A:=aw I;refine cH (S:=(λs=>s=a)) (n:=78) func126 (ab.D1 I) ?_;refine z6 8 (dz 3 0) [0,1,9,11] [] [] [.ops [0] [3],.code [1]] [bh a {x with kn:=yt (ae d) n n,rc:=yt (ae e) n n,ak:=o}] [] w.z ?_;refine Ip (w:=w) (S':=bL [141,178] v8 x a w) (Y:=Value) (λh=>.tuple #[]) (λh=>o5 x a h n d e) (λh p=>bq p v8 x.lb x.cb ({c with zL:=[]}) L h∧ah p v8 4 1 (ae d) n n (ai ez k)∧ah p v8 61 10 (ae e) n n (ai aZ.cells R)) (v7:_=some (53,[pt a 0,.func (.func 140) #[pt a 0] #[]],some 12,[])) tI (λf b=>?_) (λh v a4 i=>?_)
 ·have j:=(b.wide (S':=bL [141,178] v8 x a w) (λ_ m=>.inl m));have B:=(Z.y4 (es:=[98]) b.x2 (λs q=>by subst q;exact⟨98,z1,A⟩) rfl rfl rfl);have O:=(a9.y4 (es:=[98]) b.x2 (λs q=>by subst q;exact⟨98,z1,A⟩) rfl);have P:=(bb.y4 (es:=[98]) b.x2 (λs q=>by subst q;exact⟨98,z1,A⟩) rfl);have t:aP f v8 a ({x with kn:=yt (ae d) n n,rc:=yt (ae e) n n,ak:=o}) c L:=⟨_,b.at_ 0 rfl,B⟩;refine(fR (.func 140) #[pt a 0] #[] t).mono λl g F=>?_;obtain⟨D,⟨ak,an,a8⟩,r⟩:=F;have C:=t.T' (es:=[]);exact⟨ak,D,⟨a8,O.y4 r C rfl,P.y4 r C rfl⟩,j.HS r (bv j.x2 rfl) an (bQ b C rfl)⟩
 obtain⟨a0,G,H⟩:=a4;refine Aq 12 (dz 4 0) [0,1,4] [] [] [y6 14,y6 15] ⟨[(0,pt a 0),(1,i6 ya),(4,pt a 44)],o5 x a h n d e,[],v.z⟩ ?_;refine C' _ _ v7 v7 v7 (Ux x a ya v h n d e) ⟨(λf b=>sK x.sn x.ep n k R d e n n yq aV a6 a2 a3 f ((G.y4 b.2.x2 (ag i) rfl).own d ⟨_,rfl,rfl⟩).2 (λT o z=>by rw[bG];exact it (G.y4 b.2.x2 (ag i) rfl) z) ((H.y4 b.2.x2 (ag i) rfl).own e ⟨_,rfl,rfl⟩).2 (λT o z=>by rw[bG];exact it (H.y4 b.2.x2 (ag i) rfl) z)),trivial⟩ λJ N=>?_;replace N:v.z<=J:=N;refine Aq 18 (dz 7 330334208) [0,1,4,5,6,39,40,41] [] [(a,59,1)] [y6 250,.zq 0,y6 63] ⟨[(0,pt a 0),(1,i6 ya),(4,pt a 44),(5,z7),(6,z7),(39,z7),(40,i6 0),(41,i6 0)],[bh a {x with nx:=.func (.func 140) #[pt a 0] #[],lg:=false,kn:=.slice (ae d) n n,rc:=.slice (ae e) n n,Wh:=false,ak:=h}],[],J⟩ ?_;refine bm (w:=w) (S':=be [141,178] v8 x.lb a x.cb w) (VA x c a v8 ya L n d e R k) 0 v7 (λb0 b=>⟨⟨h,_,rfl,a0.kT b i,G.kT b i,H.kT b i,rfl⟩,ab.A0 i b⟩) ?_;rintro bs _ V ⟨ad,bt,b4,a1,bd,bg,rfl⟩ u bk b1;refine z6 20 (dz 8 1048576) [75,76] [fF,tT] [] [.ops (Ac 254) [2]] (Pu x a n ad d e) [] V.z ?_;refine Ip (w:=w) (S':=be [141,178] v8 x.lb a x.cb w) (Y:=Unit) (λ_=>.tuple #[]) (λ_=>[]) (λ_ p=>E p) (v7:_=some (142,[pt a 0,i6 ya],some 77,[])) tI (λf b=>?_) (λb3 W aq a7=>?_)
 ·have j:=(ab.A0 u b);have M:v8<=f.z:=az K j.x2.size;have B:=(a1.kT b u);have t:aP f v8 a ({x with nx:=.func (.func 140) #[pt a 0] #[],lg:=false,kn:=yt (ae d) n n,rc:=yt (ae e) n n,Wh:=false,ak:=o}) ({c with zL:=[]}) L:=⟨_,b.at_ 0 rfl,B⟩;refine(a5 f t M).mono λl g F=>?_;obtain⟨D,aR,r⟩:=F;exact⟨(),D,aR,j.none_.A3 (λ_ m=>m) r (bv j.x2 rfl) (λQ y=>by cases y)⟩
 refine Aq 4 [] [] [] [] [] ⟨[],[],[],W.z⟩ ?_;refine bN [] (v7:_=some ([],aX [])) ?_;intro f b;exact⟨rfl,X _ _ aq (b.x2.mono (λbl _ m=>by obtain⟨Q,y,_⟩:=m;cases y)),(ab.A0 a7 b).x2⟩
section
variable (x:am)(pb:Nat)(ya:Int)(w:World)(v:Value)(n i a b:Nat)(d e:Int)(q:ck)(r:aZ)(_:Unit)
def zN:av:=[bO_ true,i6 r.Bf,i6 r.de,i6 r.ds,sT r.block,bO_ r.op,i6 r.ie,i6 r.is,i6 r.mask,sT r.A9]
def Uj:av:=(q.cells)
def Uk:av:=[i6 1,i6 d,i6 e,bO_ true,i6 r.Bf,i6 r.de,i6 r.ds,sT r.block,bO_ r.op,i6 r.ie,i6 r.is,i6 r.mask,sT r.A9]
@[simp] def iO:ax:=[bh pb {x with db:=false,kn:=yt (ae a) n n,rc:=yt (ae b) n n,ak:=v},⟨w.z,59,true,Uj q⟩,⟨w.z+1,63,true,Uk d e r⟩]
def Si:bu:=[(0,pt pb 0),(1,i6 ya),(9,pt (w.z+1) 0),(10,i6 (i:Int))]
def I0(_:Unit):List (Option Value):=[some (pt pb 0),some (pt pb 0),some (pt pb 44),some (pt pb 57),some (yt (ae a) n n),some (i6 (i:Int)),some (pt pb 0),some (pt pb 0),some (pt pb 44),some (pt pb 58),some (yt (ae b) n n),some (i6 (i:Int)),some (pt (w.z+1) 3),some (aE (zN r)),some (pt a (0+i*1)),some (.tuple #[]),some (pt b (0+i*10)),some (.tuple #[])]
def I1(_:Unit)(k:Nat):Bool:=(fL 18 [])[k]?.getD true
def zO(_:Unit):List (ax):=[iO x pb w v n a b d e q r,iO x pb w v n a b d e q r,iO x pb w v n a b d e q r]
abbrev zP(x:am)(c:CM)(v8:Nat)(v:Value)(L:List ar)(n:Nat)(i:Nat)(a:Nat)(b:Nat)(e:List Bool)(f:List aZ)(r:aZ)(g:Nat)(_:Unit)(d:World):Prop:=match g with|0=>bq d v8 x.lb x.cb c L v∧ah d v8 4 1 (ae a) n n (ai ez e)∧ah d v8 61 10 (ae b) n n (ai aZ.cells f)|1=>bq d v8 x.lb x.cb c L v∧ah d v8 4 1 (ae a) n n (ai ez (e.set i true))∧ah d v8 61 10 (ae b) n n (ai aZ.cells f)|2=>bq d v8 x.lb x.cb c L v∧ah d v8 4 1 (ae a) n n (ai ez (e.set i true))∧ah d v8 61 10 (ae b) n n (ai aZ.cells (f.set i {r with used:=true}))|_=>True
def tr(c:CM)(pb:Nat)(v8:Nat)(ya:Int)(w:World)(v:Value)(L:List ar)(n:Nat)(i:Nat)(E:aI)(a:Nat)(b:Nat)(g:List Bool)(h:List aZ)(d:Int)(e:Int)(q:ck)(r:aZ)(z4:Nat)(j:Nat):Prop:=cY prog f114 [1,1,1,0] 44 [] (bodyPost prog f114 (λk f=>k=Jx∧E f∧au (be [141,4,61,178] v8 x.lb pb x.cb w) w f)) [y6 31] (Si pb ya w i) (V7 18 [15,17]) 2 (I0 pb w n i a b r) I1 w (be [141,4,61,178] v8 x.lb pb x.cb w) (zO x pb w v n a b d e q r) z4 (zP x c v8 v L n i a b g h r) j
end
theorem zy(x:am)(c:CM)(L:List ar)(a:Nat)(v8:Nat)(E:aI)(V:∀w p,E w->au z8 w p->E p)(n i:Nat)(u:List Bool)(y:List aZ)(d e:Nat)(ya H j k:Int)(q:ck)(r:aZ)(cs:x.N=(n:Int))(aR:3<=x.N∧x.N<=6∧1<=x.S∧x.S<=8)(hs:0<=x.sn∧x.sn<x.S)(cL:i<n)(b6:0<=H∧H<x.N)(b7:(H+x.N-x.sn%x.N)%x.N=(i:Int))(a5:u.length=n)(bs:y.length=n)(cl:c.zL.length≠0->∀h,aP h v8 a ({x with db:=false,kn:=yt (ae d) n n,rc:=(yt (ae e) n n)}) c L->ah h v8 4 1 (ae d) n n (ai ez (u.set i true))->ah h v8 61 10 (ae e) n n (ai aZ.cells (y.set i {r with used:=true}))->E h)(ad:c.zL.length=0->0<(fE (u.set i true) n).length∧(∀a8∈(y.set i {r with used:=true}),a8.op=false)∧∀h,aP h v8 a ({x with lv:=Wo x.lv (Int.toNat x.sn) ⟨true,x.ep,x.ou,0,x.en⟩,nx:=.nilFunc,lg:=false,db:=false,Wh:=false,kn:=yt (ae d) n n,rc:=yt (ae e) n n}) ({c with zL:=[]}) L->v8<=h.z->aC 32 #[pt a 0,i6 ya] h (λN p=>N=Jx∧E p∧au (be [141,178] v8 x.lb a x.cb h) h p))(w:World)(a7:aP w v8 a ({x with db:=false,kn:=yt (ae d) n n,rc:=(yt (ae e) n n)}) c L)(X:ah w v8 4 1 (ae d) n n (ai ez u))(Z:ah w v8 61 10 (ae e) n n (ai aZ.cells y))(b2:v8<=w.z):aC 114 #[pt a 0,i6 ya,i6 H,.agg #[i6 q.kind,i6 q.Al,i6 q.BV,i6 q.seq,i6 q.mask,i6 q.node,i6 q.oe,i6 q.os,sT q.block],.agg #[i6 1,i6 j,i6 k,bO_ true,i6 r.Bf,i6 r.de,i6 r.ds,sT r.block,bO_ r.op,i6 r.ie,i6 r.is,i6 r.mask,sT r.A9]] w (λN p=>N=Jx∧E p∧au (be [141,4,61,178] v8 x.lb a x.cb w) w p):=by
 obtain⟨v,aq,a6⟩:=a7;have W:=aw aq;refine cH (S:=(λC=>C=a)) (n:=44) func114 (ab.D1 aq) ?_;have cC:=iM (f:=ez) (z:=1) (λ_=>rfl) u;refine z6 15 (dz 6 0xd002800000) [0,1,2,9,11,12,13,14] [] [(w.z+1,0,13)] [.ops (Ac 12) [4],y6 13,.code [1,1]] (iO x a w v n d e j k q r) [] (w.z+2) ?_;refine DV (bO_ false) _ _ (some 15) [] tI rfl (λh b=>qb a ya H j k r h) λbb cO=>?_;refine z6 10 (dz 3 0) [0,1,9,16,17] [fF] [] [.ops (Ac 14) [2,3],y6 15] (iO x a w v n d e j k q r) [] bb ?_;refine DV (i6 (i:Int)) 46 [pt a 0,i6 H] (some 18) [] tI rfl (λh b=>by rw[<-b7];exact lM ({x with db:=false,kn:=yt (ae d) n n,rc:=yt (ae e) n n,ak:=v}) a H aR hs b6 h (b.at_ 0 rfl)) λK cP=>?_;refine Aq 6 [y2] [0,1,9,10] [] [] [y6 30,y6 31] ⟨[(0,pt a 0),(1,i6 ya),(9,pt (w.z+1) 0),(10,i6 (i:Int))],iO x a w v n d e j k q r,[],K⟩ ?_;have co:eh w (be [141,4,61,178] v8 x.lb a x.cb w) (zO x a w v n d e j k q r) (zP x c v8 v L n i d e u y r):=by
  intro an o h p ak m b g F
  match an,m,g with
  |0,m,g=>
   obtain rfl:=ap m;exact⟨g.1.kU F b,g.2.1.kU F b,g.2.2.kU F b⟩
  |1,m,g=>
   obtain rfl:=ap m;exact⟨g.1.kU F b,g.2.1.kU F b,g.2.2.kU F b⟩
  |2,m,g=>
   obtain rfl:=ap m;exact⟨g.1.kU F b,g.2.1.kU F b,g.2.2.kU F b⟩
  |an+3,m,g=>exact trivial
 have cp:tr x c a v8 ya w v L n i E d e u y j k q r K 15:=V8 (s:=0) (x:=λo=>Instr.storeAt 4 (pt d (0+i*1)) (bO_ true)) (λ(o:Unit)(_:Unit)=>o) (λo h ak m b g cf=>by
  obtain rfl:=ap m;obtain⟨p,T,J,I,U⟩:=fj (P:=prog) (t:=4) (v:=bO_ true) (0+i*1) 1 g.2.1 rfl yq v7 (aU rfl);rw[show(0+i*1)=i*1 by omega,show(bO_ true:Value).cells.toList=ez true from rfl,gF (f:=ez) (z:=1) (λ_=>rfl) yq]at J;exact⟨(),p,T,rfl,⟨g.1.y4 I (bW g.2.1) rfl rfl rfl,J,g.2.2.y4 I (bW g.2.1) rfl⟩,b.A3 (λ_ D=>D) I (λC A=>.inl (.inr (.inr (.inl ⟨(X.own C A).1,4,by decide,X.ty C A⟩)))) (bI b (bW g.2.1) rfl),bC U.symm⟩)
 have cq:tr x c a v8 ya w v L n i E d e u y j k q r K 17:=V8 (s:=1) (x:=λo=>Instr.storeAt 61 (pt e (0+i*10)) (aE (zN r))) (λ(o:Unit)(_:Unit)=>o) (λo h ak m b g cf=>by
  obtain rfl:=ap m;obtain⟨p,T,J,I,U⟩:=fj (P:=prog) (t:=61) (v:=aE (zN r)) (0+i*10) 10 g.2.2 rfl yq v7 (aU rfl);rw[show(0+i*10)=i*10 by omega,show(aE (zN r):Value).cells.toList=aZ.cells {r with used:=true}from rfl,gF (f:=aZ.cells) (z:=10) (λ_=>rfl) yq]at J;exact⟨(),p,T,rfl,⟨g.1.y4 I (bW g.2.2) rfl rfl rfl,g.2.1.y4 I (bW g.2.2) rfl,J⟩,b.A3 (λ_ D=>D) I (λC A=>.inl (.inr (.inr (.inl ⟨(Z.own C A).1,61,by decide,Z.ty C A⟩)))) (bI b (bW g.2.2) rfl),bC U.symm⟩)
 have cn:∀a4∈(f5 2 [0,1,2,3,5,6,7,8,9,11,12]++[rY 4 2 0 57 1 a,rY 10 2 0 58 1 a,⟨13,2,oA 2 3 10,λ_=>[],λ_=>[(w.z+1,3,10)]⟩,⟨14,2,HA,λ_=>[oE ((0:Int)<=(i:Int)∧(i:Int)<((n:Nat):Int))],λ_=>[]⟩,⟨16,2,HA,λ_=>[oE ((0:Int)<=(i:Int)∧(i:Int)<((n:Nat):Int))],λ_=>[]⟩]:List (fG (Unit))),tr x c a v8 ya w v L n i E d e u y j k q r K a4.i:=bp _ co (λo=>v7) v7 (λo cA=>v7);have cm:∀aV,aV<18->tr x c a v8 ya w v L n i E d e u y j k q r K aV:=f6 (l:=[15,17]) v7 cn ⟨cp,cq,trivial⟩;refine bD (Δ:=Unit) (bL [141,4,61,178] v8 x a w) (I0 a w n i d e r) I1 (zO x a w v n d e j k q r) (zP x c v8 v L n i d e u y r) [0,1] (λo=>[(0,pt a 0),(1,i6 ya)]) (λo=>iO x a w v n d e j k q r) () (λ_ D=>.inl D) v7 v7 v7 (λh b=>⟨(a6.y4 (es:=[98]) b.x2.drew (λC A=>by subst A;exact⟨98,z1,W⟩) rfl rfl rfl),(X.y4 (es:=[98]) b.x2.drew (λC A=>by subst A;exact⟨98,z1,W⟩) rfl),(Z.y4 (es:=[98]) b.x2.drew (λC A=>by subst A;exact⟨98,z1,W⟩) rfl)⟩) v7 cm (λo=>v7) (λo=>v7) (λo G cU b0 c0 B=>?_);obtain⟨M,Q,R⟩:=b0;replace M:bq G v8 x.lb x.cb c L v:=M;replace Q:ah G v8 4 1 (ae d) n n (ai ez (u.set i true)):=Q;replace R:ah G v8 61 10 (ae e) n n (ai aZ.cells (y.set i {r with used:=true})):=R;replace B:ab w (bL [141,4,61,178] v8 x a w) (iO x a w v n d e j k q r) [] G.z G:=B;change aF _ _ _ _ G (ao (iO x a w v n d e j k q r)) _ [y6 31] ⟨[(0,pt a 0),(1,i6 ya)],iO x a w v n d e j k q r,[],G.z⟩;refine Aq 9 (dz 4 270565376) [0,1,38] [] [(a,2,1)] [.ops (Ac 62) [4,5],y6 63] ⟨[(0,pt a 0),(1,i6 ya),(38,pt x.cb 0)],iO x a w v n d e j k q r,[],G.z⟩ ?_;refine DV (i6 (c.zL.length:Int)) _ _ (some 39) [] tI rfl (λh b=>i5 (M.kT b B).1) λa0 cR=>?_;by_cases O:c.zL.length=0
 rotate_left
 ·skip;refine Aq 7 (dz 2 0) [] [oE (((c.zL.length:Int)==0)=false) (bZ yq)] [] [] ⟨[],iO x a w v n d e j k q r,[],a0⟩ ?_;refine bN [] (v7:_=some ([],aX [])) ?_;intro h b;exact⟨rfl,cl O _ ⟨_,b.at_ 0 rfl,M.kT b B⟩ (Q.kT b B) (R.kT b B),(ab.A0 B b).x2⟩
 refine z6 9 (dz 4 16) [41,42] [oE (((c.zL.length:Int)==0)=true) (dc yq)] [] [.ops (Ac 126) [2]] (iO x a w v n d e j k q r) [] a0 ?_;refine Ip (w:=w) (S':=bL [141,4,61,178] v8 x a w) (Y:=Unit) (λ_=>.tuple #[]) (λ_=>[]) (λ_ a3=>E a3) (v7:_=some (126,[pt a 0,i6 ya],some 43,[])) tI (λh b=>?_) (λcB a2 bg b8=>?_)
 ·have ac:=(ab.A0 B b);have b3:v8<=h.z:=az b2 ac.x2.size;have bl:=(M.kT b B);have ca:=(Q.kT b B);have cb:=(R.kT b B);have bt:aP h v8 a ({x with db:=false,kn:=yt (ae d) n n,rc:=yt (ae e) n n,ak:=v}) c L:=⟨_,b.at_ 0 rfl,bl⟩;refine(rk {x with db:=false} c L a v8 E V n (u.set i true) (y.set i {r with used:=true}) d e ya yq (by simp[a5]) (ad O).1 (by simp[bs]) (ad O).2.1 (λa9 b1 b4=>Gd {x with db:=false,nx:=.func (.func 140) #[pt a 0] #[],lg:=false,Wh:=false,kn:=yt (ae d) n n,rc:=yt (ae e) n n} {c with zL:=[]} L a v8 E V ya aR hs (ad O).2.2 a9 b1 b4) h bt ca cb b3).mono λN p b9=>?_;obtain⟨b5,bk,bd⟩:=b9;exact⟨(),b5,bk,ac.none_.A3 (λ_ D=>D) bd (bv ac.x2 rfl) (λa1 m=>by cases m)⟩
 refine Aq 4 [] [] [] [] [] ⟨[],[],[],a2.z⟩ ?_;refine bN [] (v7:_=some ([],aX [])) ?_;intro h b;exact⟨rfl,V _ _ bg (b.x2.mono (λcr _ D=>by obtain⟨a1,m,_⟩:=D;cases m)),(ab.A0 b8 b).x2⟩
def Be.R0(k:Be)(m:Nat):aZ:=k.s0.HJ m k.sn
def Be.fr(k:Be)(e:Int)(m:Nat):aZ:={ k.R0 m with Bf:=e}
structure cZ(k:Be):Prop extends oO k where
 live:∀m,m<k.n->(m:Int)≠k.zl->∃F d q B,k.R0 m=⟨true,F,d,q,B,false,0,0,0,⟨#[]⟩⟩∧(0<=F∧F<=k.E1)∧(0<=d∧d<=16777215)∧(0<=q∧q<=16777215)∧B.size=16
 gone:∀m,m<k.n->(m:Int)=k.zl->∃F,k.R0 m=⟨false,F,0,0,⟨#[]⟩,false,0,0,0,⟨#[]⟩⟩∧0<=F∧F<=k.E1
 Y3:k.zl<k.n
 YJ:k.E1<=1000000
 hzz:k.z<0∨k.zl<0
 Wl:k.cn<k.n-1
 Yk:0<=k.ed∧k.ed<1000000
def Xm(k:Be)(b:Int):Prop:=(b=k.z∨b=k.zl)∧0<=b
def Rf(k:Be)(e:Int)(m:Nat)(r:aZ):Prop:=∃a,(0<=a∧a<=e)∧r=k.fr a m
def Rb(k:Be)(e o:Int)(m:Nat)(r:aZ):Prop:=(((m:Int)=o∨(m:Int)=k.z)∧Rf k e m r)∨(¬((m:Int)=o∨(m:Int)=k.z)∧r=k.fr e m)
def Lp(k:Be)(e o:Int)(l:cQ):Prop:=∃a,l=⟨e,k.Ar,a,o⟩
variable {k:Be}{e o:Int}{m:Nat}{r:aZ}
theorem Rb.rf(he:0<=e)(h:Rb k e o m r):Rf k e m r:=by
 rcases h with⟨_,h⟩|⟨_,h⟩
 ·exact h
 ·exact⟨e,⟨he,cS _⟩,h⟩
theorem Rf.mono{a:Int}(he:e<=a)(h:Rf k e m r):Rf k a m r:=by
 obtain⟨b,c,d⟩:=h;exact⟨b,⟨c.1,yq⟩,d⟩
theorem Oj(j:cZ k)(hm:m<k.n)(l:(m:Int)≠k.zl){f:Int}(i:0<=f∧f<=16777215):Ya k.E1 (k.fr f m):=by
 obtain⟨n,b,c,a,d,o,e,g,h⟩:=j.live m hm l;exact⟨f,b,c,a,i,e,g,h,.inl (by unfold Be.fr;rw[d])⟩
theorem zu(a:cZ k)(he:k.E1<=e∧e<=16777215):ra k (Rf k e):=λ_ m r c d ⟨f,g,b⟩=>by
 have:=a.WH
 subst b
 exact⟨Oj a c d yq,λ_=>⟨k.E1,yq,rfl⟩⟩
theorem mL(c:cZ k)(he:k.E1<=e∧e<=16777215):ra k (Rb k e o):=λl m r d f g=>by
 have:=c.WH
 rcases g with⟨b,a⟩|⟨b,rfl⟩
 ·obtain⟨h,i⟩:=zu c he l m r d f a
  exact⟨h,λj=>.inl ⟨b,i j⟩⟩
 ·refine⟨Oj c d f yq,λa=>.inr ⟨b,?_⟩⟩
  have a:e<=k.E1:=a
  show k.fr k.E1 m=k.fr e m
  rw[show k.E1=e by omega]
theorem FT(c:cZ k)(hm:m<k.n)(he:0<=e∧e<=16777215):jJ ⟨1,e,0,k.fr e m⟩:=by
 by_cases d:(m:Int)=k.zl
 ·obtain⟨g,b,j⟩:=c.gone m hm d;have a:k.fr e m=⟨false,e,0,0,⟨#[]⟩,false,0,0,0,⟨#[]⟩⟩:=by unfold Be.fr;rw[b]
  rw[a];exact j4 he yq (by simp[okB,XJ,xh,Ob,he];rfl)
 ·obtain⟨g,h,i,f,b,j,l,n,o⟩:=c.live m hm d;have a:k.fr e m=⟨true,e,h,i,f,false,0,0,0,⟨#[]⟩⟩:=by unfold Be.fr;rw[b]
  rw[a];exact j4 he yq (II he l n o)
theorem vv(b:cZ k)(hm:m<k.n)(he:1<=e∧e<=16777215){o:ar}(n:o.q=eC (k.sn:Int) e)(h:Rf k e m r):n7 o r (k.fr e m) ⟨1,e,0,k.fr e m⟩:=by
 obtain⟨i,l,rfl⟩:=h;have p:(0:Int)<=(k.sn:Int)∧(k.sn:Int)<=7:=by have:=b.Wi;have:=b.hS;omega
 by_cases q:(m:Int)=k.zl
 ·obtain⟨s,c,t⟩:=b.gone m hm q;have a:∀e,k.fr e m=⟨false,e,0,0,⟨#[]⟩,false,0,0,0,⟨#[]⟩⟩:=λe=>by unfold Be.fr;rw[c]
  intro d;rw[n,a,a];exact zw i k.sn e yq p he l.2 d
 ·obtain⟨s,g,j,f,c,t,u,v,w⟩:=b.live m hm q;have a:∀e,k.fr e m=⟨true,e,g,j,f,false,0,0,0,⟨#[]⟩⟩:=λe=>by unfold Be.fr;rw[c]
  intro d;rw[n,a,a];exact sm i g j k.sn e f yq u v w p he l.2 d
def Nw(k:Be)(g:S2)(N:HB->Prop)(t ta zv e o:Int)(x:am)(c:CM)(L:List ar)(W:World):Prop:=
 (∃a,N a∧a.zv=zv∧a.t=t∧a.ta=ta∧c=⟨k.Ar,a.last,a.A1⟩∧L=a.A1∧a.is k x a.A1 W∧(∀m r,m<k.n->Rb k e o m r->a.F a.A1 m r)∧∀b,Lp k e o b->a.K a.A1 b) ∨
 (k.kd=3∧L=[]∧c=⟨k.Ar,zv,[]⟩∧x.busy=false∧(∀d,bO 124 141 W d k.cb c)∧g.X x c∧(∀m r,m<k.n->Rb k e o m r->g.R m r)∧∀b,Lp k e o b->g.L b)
def oP(k:Be)(g:S2)(N:HB->Prop)(t ta zv e o sq:Int):Prop:=∀(x:am)(b:Int)(a:Nat)(c:CM)(W:World),Xl k x->x.ep=e->x.ou=o->x.lv k.sn=⟨true,e,o,sq,b⟩->0<=b∧b<=1000000->x.db=false->c.Ar=k.Ar->c.last=zv->aP W k.B0 k.pb {x with lb:=a} c []->k.B0<=W.z->k.B0<=a ->
 aC 32 #[pt k.pb 0,i6 ta] W (λj d=>j=Jx∧(∃f i h,f.cb=k.cb∧aP d k.B0 k.pb {f with lb:=a} i h∧Nw k g N t ta zv e o f i h d)∧au (be [141,178] k.B0 a k.pb k.cb W) W d)
def YK(k:Be)(fn:Nat)(t ta zv e c b O:Int)(q:ck)(d:cQ->Prop):HB:=⟨t,ta,zv,e,c,fn,[(100,q)],false,λa _ _=>a.db=false∧0<=a.en∧a.en<=t,Rf k k.E1,Rf k k.E1,d,Lp k b O,λ_=>⟨1,b,O,fI⟩⟩
def Xn(k:Be)(t ta zv O:Int):HB:=YK k 54 t ta zv 0 (-1) k.E1 O ⟨8,(k.sn:Int),0,0,0,0,0,0,⟨#[]⟩⟩ (λc=>∃a b,c=⟨k.E1-1,a,b,O⟩∧(a=0∨a=k.Ar))
def XD(k:Be)(t ta zv b:Int):HB:=YK k 95 t ta zv k.E1 (-1) (k.E1+1) b (kQ (k.sn:Int) k.E1 b) (Lp k k.E1 (-1))
def fe(l:List ar)(m:Int):Bool:=l.any (λo=>o.to==m)
theorem go{l:List ar}{m:Int}:fe l m=true↔dM l m:=by simp[fe,dM]
theorem Ok{n s i:Nat}(a:0<n):((i:Int)+(n:Int)-(s:Int)%(n:Int))%(n:Int)=(((i+n-s%n)%n:Nat):Int):=by
 have b:=Nat.mod_lt s a;have e:(s:Int)%(n:Int)=((s%n:Nat):Int):=by simp
 rw[e,show(i:Int)+(n:Int)-((s%n:Nat):Int)=((i+n-s%n:Nat):Int)by omega];simp
theorem Ly(c:List Bool){a b:Nat}(h:a<=b):(fE c a).length<=(fE c b).length:=by
 induction h with
 |refl=>exact bT _
 |step h d=>
  refine az d ?_;unfold fE;rw[List.range_succ,List.filter_append,bM];omega
def Wm(k:Be)(t ta zv e o:Int):HB:=⟨t,ta,zv,e,o,114,dK k.n o (k.sn:Int) e,decide (0<=k.zl∧k.zl≠o),λa j d=>(a.db=false∧0<=a.en∧a.en<=t)∧(∃g h f c,a.kn=yt (ae g) k.n k.n∧a.rc=yt (ae h) k.n k.n∧List.length f=k.n∧List.length c=k.n∧(∀r∈c,aZ.op r=false)∧ah d k.B0 4 1 (ae g) k.n k.n (ai ez f)∧ah d k.B0 61 10 (ae h) k.n k.n (ai aZ.cells c))∧∀b,Xm k b->b≠o->dM j b,Rf k e,Rb k e o,Lp k e o,Lp k e o,λi=>⟨1,e,0,k.fr e i.to.toNat⟩⟩
theorem jK{t ta zv:Int}{a:ar}(h:a∈(Wm k t ta zv e o).A1):(∃b:Nat,b<k.n∧a.to=(b:Int))∧a.to≠o∧a.q=eC (k.sn:Int) e:=by
 have f:=(HB.mem h).2.2.2.2;obtain⟨d,g,c⟩:=aT.1 f;have j:=gp g;have l:d=a.to:=congrArg Prod.fst c;have i:eC (k.sn:Int) e=a.q:=congrArg Prod.snd c;exact⟨⟨a.to.toNat,yq,yq⟩,yq,i.symm⟩
variable {k:Be}{g:S2}{N:HB->Prop}
theorem T8{t ta zv e o:Int}{a:Nat}{x:am}{c d:Nat}{zL:List ar}{W:World}(h:Xl k x)(j:a=k.n)(i:x.db=false∧0<=x.en∧x.en<=t)(l:∀b,Xm k b->b≠o->dM zL b)(f:ah W k.B0 4 1 (ae c) a a (ai ez (List.replicate a false)))(g:ah W k.B0 61 10 (ae d) a a (ai aZ.cells (List.replicate a fI))) :
  (Wm k t ta zv e o).is k {x with nx:=.func (.func 114) #[pt k.pb 0] #[],lg:=false,ep:=e,ou:=o,kn:=yt (ae c) a a,rc:=yt (ae d) a a} zL W:=by
 subst j;exact⟨⟨h.1,h.2,h.3,h.4,h.5,h.6,h.7,h.8,h.9,h.10⟩,rfl,rfl,rfl,i,⟨c,d,_,_,rfl,rfl,nD,nD,λn m=>by rw[List.eq_of_mem_replicate m];rfl,f,g⟩,l⟩
theorem oQ{t zv:Int}{n:Nat}{o sn e b:Int}(p:0<=b∧b<(n:Int))(j:b≠o):dM (bc t zv (dK n o sn e)) b:=by
 have a:(b,eC sn e)∈dK n o sn e:=aT.2 ⟨b,dR.2 ⟨aT.2 ⟨b.toNat,bn.2 yq,yq⟩,by simpa using j⟩,rfl⟩;generalize dK n o sn e=c at a
 induction c generalizing zv with
 |nil=>cases a
 |cons d m h=>
  obtain⟨k,l⟩:=d;rw[bc];rcases bj.1 a with a|a
  ·exact⟨_,A4,(congrArg Prod.fst a).symm⟩
  ·obtain⟨i,f,g⟩:=h (zv:=zv+1) a;exact⟨i,cz _ f,g⟩
theorem sE{q:ck}{t zv:Int}{a:ar}(h:a∈bc t zv [(100,q)]):a.to=100∧a.q=q:=by
 have c:=(nN h).2.2.2.2;have b:=aG.1 c;exact⟨congrArg Prod.fst b,congrArg Prod.snd b⟩
theorem Ol{b:Int}(a:cZ k)(h:Xm k b):0<=b∧b<(k.n:Int):=by
 have:=a.hz;have:=a.Y3;rcases h with⟨rfl|rfl,h⟩<;>exact⟨h,by assumption⟩
theorem FR{p:HB}{A:List ar}{m:Nat}{r:aZ}(b:p.pre m r)(c:p.post m r):p.F A m r:=by
 by_cases a:dM A m
 ·exact .inl ⟨a,b⟩
 ·exact .inr ⟨a,c⟩
theorem DE{p:HB}{A:List ar}{l:cQ}(b:p.X4 l)(c:p.WA l):p.K A l:=by
 by_cases a:dM A 100
 ·exact .inl ⟨a,b⟩
 ·exact .inr ⟨a,c⟩
theorem Lz{t ta zv e o:Int}{m:Nat}{r:aZ}(hm:m<k.n)(h:Rf k e m r):(Wm k t ta zv e o).F (Wm k t ta zv e o).A1 m r:=by
 by_cases a:(m:Int)=o
 ·exact FR h (.inl ⟨.inl a,h⟩)
 ·exact .inl ⟨oQ ⟨yq,yq⟩ a,h⟩
theorem IS(i:cZ k){o:Nat}{t ta zv e aq b O:Int}{q:ck}{M:cQ->Prop}(a1:o=54∨o=95)(Z:k.E1<=b∧b<=16777215)(bg:-1<=O∧O<6)(J1:(0<=ta∧ta<=t∧t<=ta+1∧t<=1000000)∧0<=zv∧zv<=1000000000)(ac:N (Wm k t t (zv+1) b O))
  (a7:∃s n m:Int,q=⟨s,(k.sn:Int),n,0,0,m,0,0,⟨#[]⟩⟩∧∀x:bK,x.S=k.S->M (x.NN k.sn)->∃f K,Lp k b O ⟨b,f,K,O⟩∧oN x k.sn t k.Ar s n m b f K O)
  (a6:∀(d:am)(c:CM)(w:World),d.N=(k.n:Int)->0<=c.last∧c.last+6<1099511627776->aP w k.B0 k.pb d c []->k.B0<=w.z->aC o #[pt k.pb 0,i6 t,i6 100,.agg q.cells.toArray,.agg (dw.cells ⟨1,b,O,fI⟩).toArray] w (λB l=>∃p r,B=Jx∧aP l k.B0 k.pb ({d with nx:=.func (.func 114) #[pt k.pb 0] #[],lg:=false,ep:=b,ou:=O,kn:=yt (ae p) k.n k.n,rc:=yt (ae r) k.n k.n}) (HX c t (dK k.n O d.sn b)) ([]++bc t c.last (dK k.n O d.sn b))∧ah l k.B0 4 1 (ae p) k.n k.n (ai ez (List.replicate k.n false))∧ah l k.B0 61 10 (ae r) k.n k.n (ai aZ.cells (List.replicate k.n fI))∧au (be [141] k.B0 d.lb k.pb d.cb w) w l)) :
  Stp k g N (YK k o t ta zv e aq b O q M):=by
 have bk:=i.hn;have bl:=i.hz;have bt:=i.WH;refine⟨⟨(by decide:0<1),(by decide:1<=6)⟩,List.pairwise_singleton _ _,λv h=>.inr (sE h).1,J1,?_,λ_ _ _ _ _ a _ _=>a,λ_ _ _ _ _ a=>a,λ_ _=>j4 yq yq rfl,λv h A J b1=>?_,λv h _=>?_,⟨zu i yq,zu i yq⟩,λ_ _ _ a=>a,λa=>Bool.noConfusion a,λv h b2 d u S P Q a8 a2 H aV b0=>?_,λ⟨v,y,f⟩=>?_⟩
 ·rcases a1 with rfl|rfl
  ·exact .inl rfl
  ·exact .inr (.inr (.inr (.inr (.inl rfl))))
 ·have:=(sE h).1;omega
 ·obtain⟨s,n,m,y,f⟩:=a7;exact⟨s,n,m,b,O,(sE h).2.trans y,rfl,f⟩
 ·obtain⟨L,a4⟩:=sE h;have a3:S++P=[]:=List.eq_nil_iff_forall_not_mem.2 λan f=>by
   obtain⟨E,bs,F,z⟩:=a8 an f;exact E (by rw[<-z,(sE F).1,L])
  rw[a3]at H ⊢;obtain⟨j,_,E,F,z⟩:=a2;rw[L,a4];refine(a6 {d with lb:=u} _ Q j.N (by show 0<=zv+1∧zv+1+6<_;omega) H aV).mono λB l ⟨p,r,T,C,U,V,D⟩=>?_;have a5:({d with lb:=u}:am).sn=(k.sn:Int):=j.sn;have a0:({d with lb:=u}:am).cb=k.cb:=j.cb;have W:dK k.n O ({d with lb:=u}:am).sn b=dK k.n O (k.sn:Int) b:=by rw[a5]
  rw[W]at C;rw[a0]at D;refine⟨T,⟨{d with nx:=.func (.func 114) #[pt k.pb 0] #[],lg:=false,ep:=b,ou:=O,kn:=yt (ae p) k.n k.n,rc:=yt (ae r) k.n k.n},_,_,j.cb,C,.inr (.inl ⟨Wm k t t (zv+1) b O,ac,rfl,rfl,rfl,rfl,rfl,T8 j rfl z (λa9 ad aR=>oQ (Ol i ad) aR) U V,.inl rfl,λA R J ak=>?_,λbb I=>DE I I⟩)⟩,D.mono λbd _ a=>?_⟩
  ·have X:Rf k k.E1 A R:=ak.elim id (λa=>a.2);exact Lz J (X.mono Z.1)
  ·rcases a with a|a|⟨a,e,G,Y⟩|a
   ·exact .inl a
   ·exact .inr (.inl a)
   ·exact .inr (.inr (.inl ⟨a,e,by simp at G ⊢;exact .inl G,Y⟩))
   ·exact .inr (.inr (.inr a))
 ·have:=(sE y).1;omega
theorem zr(a:cZ k){t ta zv O:Int}(o:-1<=O∧O<6)(J1:(0<=ta∧ta<=t∧t<=ta+1∧t<=1000000)∧0<=zv∧zv<=1000000000)(n:N (Wm k t t (zv+1) k.E1 O)):Stp k g N (Xn k t ta zv O):=by
 have r:=a.WH;have s:=a.hn;refine IS a (.inl rfl) ⟨cS _,r.2⟩ o J1 n ⟨8,0,0,rfl,λi d ⟨e,f,b,c⟩=>⟨k.Ar,t+30,⟨_,rfl⟩,?_⟩⟩ (λl h j b c p q=>zx l h [] k.pb k.B0 k.n t 100 k.E1 O _ fI yq b yq yq c z1 j p q);have m:=LC i k.sn t k.Ar (k.E1-1) e f O (by rw[d];exact a.Wi) (by rw[d];exact a.hS.2) b yq yq c;rwa [show k.E1-1+1=k.E1 by omega]at m
theorem RX(a:cZ k){t ta zv b:Int}(p:0<=b∧b<(k.n:Int))(J1:(0<=ta∧ta<=t∧t<=ta+1∧t<=1000000)∧0<=zv∧zv<=1000000000)(m:N (Wm k t t (zv+1) (k.E1+1) b)):Stp k g N (XD k t ta zv b):=by
 have r:=a.WH;have s:=a.YJ;have q:=a.hn;exact IS a (.inr rfl) ⟨yq,yq⟩ yq J1 m ⟨9,k.E1,b,rfl,λh d ⟨e,c⟩=>⟨k.Ar,t+30,⟨_,rfl⟩,RY h k.sn t k.Ar k.E1 e b (by rw[d];exact a.Wi) (by rw[d];exact a.hS.2) c yq yq yq⟩⟩ (λj f i c l n o=>FU j f [] k.pb k.B0 k.n t 100 (k.E1+1) b _ fI yq c yq yq l z1 i n o)
variable {k:Be}{g:S2}{N:HB->Prop}
theorem nO{α:Type}{L:List (Int×α)}(h:(L.map (·.1)).Nodup):L.Pairwise (λa b=>a.1≠b.1):=List.pairwise_map.1 h
theorem jL(n:Nat)(o:Int):(eu n o).Nodup:=by
 unfold eu;refine List.Pairwise.filter _ (List.pairwise_map.2 ((List.nodup_range (n:=n)).imp λa b=>a yq))
theorem dM.rest{f:ar}{e R:List ar}{b:Int}(h:dM (e++f::R) b)(g:b≠f.to):dM (e++R) b:=by
 obtain⟨d,a,c⟩:=h;rcases dG.1 a with a|a
 ·exact⟨d,cE _ a,c⟩
 ·rcases bj.1 a with rfl|a
  ·exact absurd c.symm g
  ·exact⟨d,d5 _ a,c⟩
theorem Om{t zv b:Int}{x:am}{zL:List ar}{W:World}(h:Xl k x)(a:x.db=false)(he:x.ep=k.E1)(c:0<=t):(XD k t t zv b).is k {x with ou:=-1,nx:=.func (.func 95) #[pt k.pb 0] #[],lg:=false,en:=t} zL W:=
 ⟨⟨h.1,h.2,h.3,h.4,h.5,h.6,h.7,h.8,h.9,h.10⟩,rfl,he,rfl,a,c,cS _⟩
theorem Td{t zv b:Int}{A:List ar}{m:Nat}{r:aZ}(h:Rf k k.E1 m r):(XD k t t zv b).F A m r:=FR h h
theorem Te{t zv b:Int}{l:cQ}(h:Lp k k.E1 (-1) l):(XD k t t zv b).K (XD k t t zv b).A1 l:=.inl ⟨⟨_,A4,rfl⟩,h⟩
theorem eI{es f:List TypeId}{v8 lb d c:Nat}{w:World}(h:es.all f.contains=true):∀b,be es v8 lb d c w b->be f v8 lb d c w b:=by
 rintro b (a|a|⟨a,e,g,i⟩|a)
 ·exact .inl a
 ·exact .inr (.inl a)
 ·exact .inr (.inr (.inl ⟨a,e,by have:=bE.1 h e (by simpa using g);simpa using this,i⟩))
 ·exact .inr (.inr (.inr a))
theorem Nx.J7{n:Nat}(q:∀f,N f->∃e,e+1=n∧ci k g e f){p:HB}(r:∀j s,n3 k.B0 (p.T j s)){R:List ar}{lb:Nat}{w d:World}(h:∃a c b,a.cb=k.cb∧aP w k.B0 k.pb {a with lb:=lb} c b∧Nx k g N p R a c b w)(i:au z8 w d):∃a c b,a.cb=k.cb∧aP d k.B0 k.pb {a with lb:=lb} c b∧Nx k g N p R a c b d:=by
 obtain⟨a,c,b,l,m,o⟩:=h;exact⟨a,c,b,l,m.J7 i,(Nx.Bw q r).J7 o i⟩
theorem Nw.nx{p:HB}{t e o:Int}{x:am}{c:CM}{L:List ar}{W:World}(h:Nw k g N t t p.last e o x c L W)(v:p.t=t)(B:p.brk=false)(w:∀b d,p.post b d->Rb k e o b d)(u:∀a,p.WA a->Lp k e o a):Nx k g N p [] x c L W:=by
 rcases h with⟨y,f,i,j,l,m,n,q,z,A⟩|⟨_,f,i,j,l,m,n,q⟩
 ·refine .inr (.inl ⟨y,f,i,j.trans v.symm,l.trans v.symm,m,n,q,.inl rfl,λb d r s=>z b d r (w b d (s.resolve_right λh=>?_)),λa h=>A a (u a h)⟩);rw[B]at h;exact Bool.noConfusion h.1
 ·exact .inr (.inr ⟨rfl,f,i,j,l,m,λb d r s=>n b d r (w b d s),λa h=>q a (u a h)⟩)
theorem DF{t zv:Int}{lb:Nat}{x:am}{c:CM}{b:Int}(g:Xl k x)(he:x.ep=k.E1)(i:x.ou=-1)(h:c.Ar=k.Ar)(d:c.last=zv)(j:0<=t∧t<=1000000) :
  ({x with lb:=lb,ou:=-1}:am)={x with lb:=lb}∧d6 {c with zL:=[]} t 100 (kQ ({x with lb:=lb}:am).sn ({x with lb:=lb}:am).ep b)=⟨k.Ar,(XD k t t zv b).last,(XD k t t zv b).A1⟩∧([]:List ar)++[⟨100,c.last+1,kQ ({x with lb:=lb}:am).sn ({x with lb:=lb}:am).ep b,af t,af t⟩]=(XD k t t zv b).A1:=by
 have e:({x with lb:=lb}:am).sn=(k.sn:Int):=g.sn;have f:({x with lb:=lb}:am).ep=k.E1:=he;have a:=eH (n:=t) yq;rw[e,f,a];refine⟨by rw[<-i],?_,?_⟩
 ·unfold d6;rw[h,d,a];rfl
 ·rw[d];rfl
theorem zp(v:cZ k){n:Nat}(cP:∀R,N R->∃h,h+1=n∧ci k g h R){t ta zv e o:Int}(he:k.E1<=e∧e<=1000001)(d1:-1<=o∧o<(k.n:Int))(J1:(0<=ta∧ta<=t∧t<=ta+1∧t<=1000000)∧0<=zv∧zv<=1000000000)
  (a9:∀b,Xm k b->b≠o->o=-1∧e=k.E1∧∀an,0<=an∧an<=1000000->N (XD k an an (Wm k t ta zv e o).last b))
  (ds:0<=k.zl->k.zl≠o->k.Qn=true) (cA:(∀b,Xm k b->b=o)->oP k g N t t (Wm k t ta zv e o).last e o 0):Stp k g N (Wm k t ta zv e o):=by
 have d0:=v.hn;have ea:=v.WH;have en:(dK k.n o (k.sn:Int) e).length<=k.n:=vw ..;have dv:=v.hS;have ed:=v.Wi;have cl:∀b,Xm k b->b=k.z∨b=k.zl:=λb r=>r.1;refine⟨⟨?_,by show(dK k.n o (k.sn:Int) e).length<=6;omega⟩,nO ?_,λl w=>?_,J1,.inr (.inl rfl),λa dd cq F co f U M=>?_,λa aV cs Q cB f=>?_,λl w=>?_,λl w I ak c4=>?_,λl w eg=>?_,⟨zu v ⟨he.1,yq⟩,mL v ⟨he.1,yq⟩⟩,λI A ak f=>.inl ⟨.inr ak,f⟩,λr=>?_,λl w ec a lb S P Q dt c1 ad b6 c3=>?_,λcL H a lb cm d G O ⟨_,_,M⟩=>?_⟩
 ·show 0<(dK k.n o (k.sn:Int) e).length
  have j:∃b:Int,(0<=b∧b<(k.n:Int))∧b≠o:=by
   by_cases D:o=0
   ·exact⟨1,yq,yq⟩
   ·exact⟨0,yq,yq⟩
  obtain⟨b,j,p⟩:=j;obtain⟨l,q,_⟩:=oQ (t:=0) (zv:=0) (sn:=(k.sn:Int)) (e:=e) j p;have m:=List.length_pos_of_mem q;rwa [dL]at m
 ·show((dK k.n o (k.sn:Int) e).map (·.1)).Nodup
  unfold dK;rw[List.map_map];exact(List.map_id _).symm▸jL k.n o
 ·obtain⟨⟨h,j,p⟩,_⟩:=jK w;exact .inl yq
 ·obtain⟨D,⟨B,C,J,T,j,p,q,m,y,i,u⟩,z⟩:=f;exact⟨D,⟨B,C,J,T,j,p,q,m,y,im i U M rfl,im u U M rfl⟩,z⟩
 ·obtain⟨D,j,p⟩:=f;refine⟨D,j,λb r X=>?_⟩;obtain⟨l,q,m⟩:=p b r X;obtain rfl:=aG.1 q;exact⟨cs,A4,cB.trans m⟩
 ·obtain⟨⟨h,j,p⟩,_⟩:=jK w;exact FT v yq yq
 ·obtain⟨_,p,q⟩:=jK w;refine⟨by rw[q];rfl,λA s=>⟨k.fr e I,?_,?_⟩⟩
  ·by_cases m:(I:Int)=k.z
   ·exact .inl ⟨.inr m,e,⟨yq,cS _⟩,rfl⟩
   ·exact .inr ⟨λf=>f.elim yq m,rfl⟩
  ·have m:l.to.toNat=I:=by omega
   show n7 l A (k.fr e I) ⟨1,e,0,k.fr e l.to.toNat⟩
   rw[m];exact vv v c4 yq q s
 ·obtain⟨⟨h,j,p⟩,_⟩:=jK w;omega
 ·obtain⟨y,i⟩:=gV r;refine⟨ds y i,λl w=>?_⟩;obtain⟨⟨h,j,p⟩,q,m⟩:=jK w;obtain⟨u,z,_⟩:=a9 k.zl ⟨.inr rfl,y⟩ i;exact⟨by rw[m,z],yq,yq,u⟩
 ·obtain⟨⟨h,bl,ca⟩,da,eb⟩:=jK w;obtain⟨d,c6,G,O,⟨a6,a7⟩,⟨B,C,J,T,b7,b9,b1,b3,b4,c7,c9⟩,b5⟩:=c1;have c2:l.to.toNat=h:=by omega
  have db:(Wm k t ta zv e o).sy l=⟨1,e,0,k.fr e h⟩:=by show(⟨1,e,0,k.fr e l.to.toNat⟩:dw)=_;rw[c2]
  rw[db];have c0:(Wm k t ta zv e o).last=zv+((dK k.n o (k.sn:Int) e).length:Int):=rfl;by_cases a8:(h:Int)=k.zl
  ·obtain⟨j,p,q⟩:=a9 k.zl ⟨.inr rfl,yq⟩ (by rw[<-a8,<-ca];exact da);subst j p;obtain⟨cn,m,y⟩:=v.gone h bl a8;have a2:k.fr k.E1 h=⟨false,k.E1,0,0,⟨#[]⟩,false,0,0,0,⟨#[]⟩⟩:=by unfold Be.fr;rw[m]
   rw[a2];obtain⟨a3,a4,a5⟩:=DF (t:=t) (lb:=lb) (c:=⟨k.Ar,(Wm k t ta zv k.E1 (-1)).last,S++P⟩) (b:=k.zl) d G O rfl rfl yq;have E:=ri {a with lb:=lb} ⟨k.Ar,(Wm k t ta zv k.E1 (-1)).last,S++P⟩ [] k.pb k.B0 t l.to k.E1 0 l.q ⟨false,k.E1,0,0,⟨#[]⟩,false,0,0,0,⟨#[]⟩⟩ (by show(Wm k t ta zv k.E1 (-1)).last<_;omega) z1 Q (by rw[a3];exact ad) b6;rw[show l.to=k.zl by omega]at E ⊢;rw[a4,a5]at E;refine E.mono λa1 F ⟨K,L,x⟩=>⟨K,⟨{a with ou:=-1,nx:=.func (.func 95) #[pt k.pb 0] #[],lg:=false,en:=t},_,_,d.cb,L,.inr (.inl ⟨_,q t yq,rfl,rfl,rfl,rfl,rfl,Om d a6 G yq,.inr ⟨?_,λbt i=>?_⟩,λI A ak s=>Td ?_,λcp V=>Te V⟩)⟩,by have Y:({a with lb:=lb}:am).cb=k.cb:=d.cb;rw[Y]at x;exact x.mono λa0 _ f=>eI rfl a0 f⟩
   ·exact dc ⟨yq,yq⟩
   ·have:=(dt bt i).1;omega
   ·rcases s with s|⟨_,s⟩
    ·exact Rb.rf yq s
    ·exact s
  ·obtain⟨cn,aV,R,bb,j,p,q,m,y⟩:=v.live h bl a8;have a2:k.fr e h=⟨true,e,aV,R,bb,false,0,0,0,⟨#[]⟩⟩:=by unfold Be.fr;rw[j]
   rw[a2];have bs:({a with lb:=lb,db:=false,kn:=yt (ae B) k.n k.n,rc:=yt (ae C) k.n k.n}:am)={a with lb:=lb}:=by rw[<-a6,<-b7,<-b9]
   have aR:({a with lb:=lb}:am).N=(k.n:Int):=d.N;have cb:({a with lb:=lb}:am).S=(k.S:Int):=d.S;have cf:({a with lb:=lb}:am).sn=(k.sn:Int):=d.sn;have Y:({a with lb:=lb}:am).cb=k.cb:=d.cb;have df:(h+k.n-k.sn%k.n)%k.n<k.n:=Nat.mod_lt _ yq;have E:=zy {a with lb:=lb} ⟨k.Ar,(Wm k t ta zv e o).last,S++P⟩ [] k.pb k.B0 (λF=>∃W ac Z,W.cb=k.cb∧aP F k.B0 k.pb {W with lb:=lb} ac Z∧Nx k g N (Wm k t ta zv e o) (S++P) W ac Z F) (λd3 d4 i u=>Nx.J7 cP (λa dd cq F co f U M=>by
     obtain⟨D,⟨B,C,J,T,j,p,q,m,y,i,u⟩,z⟩:=f;exact⟨D,⟨B,C,J,T,j,p,q,m,y,im i U M rfl,im u U M rfl⟩,z⟩) i u)
    k.n ((h+k.n-k.sn%k.n)%k.n) J T B C t l.to e 0 l.q ⟨true,e,aV,R,bb,false,0,0,0,⟨#[]⟩⟩ aR (by rw[aR,cb];omega) (by rw[cf,cb];omega) df (by rw[aR];omega) (by rw[aR,cf,ca];exact Ok yq) b1 b3
    (λc5 b0 aq cO cR=>⟨a,_,_,d.cb,by rw[bs]at aq;exact aq,.inl ⟨rfl,λf=>c5 (by rw[f];rfl),rfl,d,c6,G,O,⟨a6,a7⟩,⟨B,C,_,_,b7,b9,by rw[List.length_set];exact b1,by rw[List.length_set];exact b3,λA s=>?_,cO,cR⟩,λb r X=>(b5 b r X).rest ?_⟩⟩)
    (λD=>⟨?_,λA s=>?_,λb0 aq cU=>?_⟩) Q (by rw[bs];exact ad) c7 c9 b6
   ·refine E.mono λa1 F ⟨K,L,x⟩=>⟨K,L,?_⟩;rw[Y]at x;exact x.mono λa0 _ f=>eI rfl a0 f
   ·rcases List.mem_or_eq_of_mem_set s with i|rfl
    ·exact b4 A i
    ·rfl
   ·rcases cl b r with rfl|rfl<;>omega
   ·have i:(J.set ((h+k.n-k.sn%k.n)%k.n) true)[(h+k.n-k.sn%k.n)%k.n]?=some true:=List.getElem?_set_self yq;have u:=FV i;have z:(fE (J.set ((h+k.n-k.sn%k.n)%k.n) true) ((h+k.n-k.sn%k.n)%k.n+1)).length>0:=by rw[u];simp
    exact cD z (Ly _ yq)
   ·rcases List.mem_or_eq_of_mem_set s with i|rfl
    ·exact b4 A i
    ·rfl
   ·have b2:S++P=[]:=List.eq_nil_of_length_eq_zero D;have b8:∀b,Xm k b->b=o:=λb r=>Decidable.byContradiction λX=>by
     obtain⟨bt,i,_⟩:=(b5 b r X).rest (by rcases cl b r with rfl|rfl<;>omega);rw[b2]at i;cases i
    rw[b2];have cK:=cA b8 {a with lv:=Wo a.lv (Int.toNat a.sn) ⟨true,a.ep,a.ou,0,a.en⟩,nx:=.nilFunc,lg:=false,db:=false,Wh:=false,kn:=yt (ae B) k.n k.n,rc:=yt (ae C) k.n k.n} a.en lb _ b0 ⟨d.1,d.2,d.3,d.4,d.5,d.6,d.7,d.8,d.9,λbd bk=>?_⟩ G O ?_ ⟨a7.1,Int.le_trans a7.2 yq⟩ rfl rfl rfl aq cU c3
    ·refine cK.mono λa1 F ⟨K,⟨W,ac,Z,L,x,cr⟩,bg⟩=>⟨K,⟨W,ac,Z,L,x,cr.nx rfl (bZ λf=>?_) (λ_ _ f=>f) (λ_ f=>f)⟩,?_⟩
     ·exact f.2 (b8 _ ⟨.inr rfl,f.1⟩)
     ·have de:({a with lb:=lb}:am).cb=k.cb:=d.cb;rw[<-de]at bg;exact bg
    ·show Wo a.lv (Int.toNat a.sn) _ bd=_
     rw[d.sn,cJ,Wo,ay bk];exact d.lv bd bk
    ·show Wo a.lv (Int.toNat a.sn) ⟨true,a.ep,a.ou,0,a.en⟩ k.sn=_
     rw[d.sn,cJ,kR,G,O];rfl
 ·replace cm:ta+8<=H∧H<=1000000:=cm;obtain⟨l,j,p⟩:=cL;obtain⟨⟨h,q,m⟩,y,_⟩:=jK j;obtain⟨i,u,z⟩:=a9 k.z ⟨.inl rfl,yq⟩ yq;subst i u;refine⟨XD k H H (Wm k t ta zv k.E1 (-1)).last k.z,{a with ou:=-1,nx:=.func (.func 95) #[pt k.pb 0] #[],lg:=false,en:=H},z H yq,rfl,rfl,rfl,λI A ak s=>Td (Rb.rf yq s),λcp V=>Te V,λdu=>?_,d.cb,λc Q cC V ad r=>?_⟩
  ·exact Om d M.1.1 G yq
  ·obtain⟨a3,a4,a5⟩:=DF (t:=H) (lb:=lb) (c:=c) (b:=k.z) d G O cC V yq;have c0:(Wm k t ta zv k.E1 (-1)).last=zv+((dK k.n (-1) (k.sn:Int) k.E1).length:Int):=rfl;have E:=xZ {a with lb:=lb} c [] k.pb k.B0 H k.z yq z1 Q (by rw[a3];exact ad) r;rw[a4,a5]at E;refine E.mono λa1 F ⟨K,L,x⟩=>⟨K,L,?_⟩;have Y:({a with lb:=lb}:am).cb=k.cb:=d.cb;rw[Y]at x;exact x
theorem wX{w:World}{g o i:Nat}{L:ct}{s:ByteArray}(d:∀(a:Nat)(b:Value),(ba L)[a]?=some b->w.cell? ⟨g,o+a,none⟩=some b)(hs:L[i]?=some s) :
  ∀(a:Nat)(b:Value),[Value.string s][a]?=some b->w.cell? ⟨g,o+i*1+a,none⟩=some b:=by
 intro a b c
 match a,c with
 |0,c=>
  simp only[List.getElem?_cons_zero,aB]at c;subst c;rw[Nat.mul_one,Nat.add_zero];exact d i _ (by simp[ba,hs])
 |a+1,c=>simp at c
def Q8:aH:=[1,1,0,1,0,0,1,1,0,0,1,1,0,0,1,1,0,0,1]
def VM(s:ByteArray)(L:ct)(b:Nat)(d:Nat)(cp:Nat)(c:Nat)(w:World)  (m:Nat) (st:St) (a:World):Prop:=
 ∃(i:Nat)(X:bB)(z:Nat),m+i=L.length∧X=eF (aK s) (L.take i)∧X.length=16∧u4 X∧FB a w.z 5 X∧st=⟨[(4,sT ⟨#[]⟩),(5,yt (ae w.z) 16 c),(11,yt (some ⟨b,d,none⟩) L.length cp),(12,i6 ((L.length:Nat):Int)),(13,i6 (i:Int))],[],[],z⟩
def VN(L:ct)(d:Nat)(e:Nat)(cp:Nat)(i:Nat)(c:Nat)(t:ByteArray)(X:bB)(w:World)  (m:Nat) (st:St) (b:World):Prop:=
 ∃(a:Nat)(z:Nat),m+a=16∧FB b w.z 5 (kt a X (aK t))∧st=⟨[(4,sT ⟨#[]⟩),(5,yt (ae w.z) 16 c),(7,sT t),(11,yt (some ⟨d,e,none⟩) L.length cp),(12,i6 ((L.length:Nat):Int)),(13,i6 (i:Int)),(18,i6 16),(19,i6 (a:Int))],[],[],z⟩
variable (s:ByteArray)(L:ct)(e:Nat)
theorem S5(b:Nat)(cp:Nat)(i:Nat)(j:Nat)(c:Nat)(t:ByteArray)(X:bB)(w:World)(a:World):Out.prune [4,5,7,11,12,13,18,19,29,30] (fp prog 35 a (ao []) ((aj (aa (al f122) Q8)).toList.take 9) ⟨[(4,sT ⟨#[]⟩),(5,yt (ae w.z) 16 c),(7,sT t),(8,i6 (j:Int)),(11,yt (some ⟨e,b,none⟩) L.length cp),(12,i6 ((L.length:Nat):Int)),(13,i6 (i:Int)),(18,i6 16),(19,i6 (j:Int))],[],[⟨w.z,0+j*1,[u6 (X[j]?.getD 0)]⟩],a.z⟩ [.op y2,.op y2,.op HA,.op ⟨false,0,[⟨true,0,0,1⟩]⟩,.op y2,.op y2,.op HA,.op HA,.op HA])=some ⟨[(0:Int)<=(j:Int)∧(j:Int)<((16:Nat):Int),(0:Int)<=(j:Int)∧(j:Int)<((t).size:Int),(0:Int)<=(X[j]?.getD 0)∧(0:Int)<=(ee t (Int.toNat (j:Int)))∧(X[j]?.getD 0)<=IntKind.max .u8∧(ee t (Int.toNat (j:Int)))<=IntKind.max .u8,(0:Int)<=(j:Int)∧(j:Int)<((16:Nat):Int)],aX [(w.z,0+j*1,1)],⟨[(4,sT ⟨#[]⟩),(5,yt (ae w.z) 16 c),(7,sT t),(11,yt (some ⟨e,b,none⟩) L.length cp),(12,i6 ((L.length:Nat):Int)),(13,i6 (i:Int)),(18,i6 16),(19,i6 (j:Int)),(29,u6 (jo (X[j]?.getD 0) (ee t (Int.toNat (j:Int))))),(30,pt w.z (0+j*1))],[],[⟨w.z,0+j*1,[u6 (X[j]?.getD 0)]⟩],a.z⟩⟩:=v7
theorem qC(T:s.size=16)(L:ct)(ak:∀c∈L,c.size=16)(bg:L.length<=100)(e j cp:Nat)(w:World)(Q:e<w.z)(an:∀(a:Nat)(p:Value),(ba L)[a]?=some p->w.cell? ⟨e,j+a,none⟩=some p):aC 122 #[sT s,yt (some ⟨e,j,none⟩) L.length cp] w (bf (sT (bX (eF (aK s) L))) w):=by
 refine cH (S:=z8) (n:=35) func122 (ab.none w _) ?_;refine Aq 10 (dz 2 0) [1,4,9] [] [] [.ops [1,0] [1,2],.code [1,1]] ⟨[(1,yt (some ⟨e,j,none⟩) L.length cp),(4,sT ⟨#[]⟩),(9,sT s)],[],[],w.z⟩ ?_;refine qI (w:=w) (S':=λ_=>False) (dst:=some 10) (x:=convert 9 34 (sT s)) (λg=>yt (ae w.z) 16 g) (λ_ V=>FB V w.z 5 (aK s)) (λg=>[(10,yt (ae w.z) 16 g),(1,yt (some ⟨e,j,none⟩) L.length cp),(4,sT ⟨#[]⟩),(9,sT s)]) v7 v7 (λ_=>rfl) (λo d=>?_) (λg Z a1 a4=>?_)
 ·obtain⟨g,F,v,r,ac⟩:=pR (P:=prog) o 9 34 5 s v7 v7 v7;rw[d.size,T]at v;rw[d.size]at r;exact⟨g,F,v,r,(d.same ac).2⟩
 refine Aq 13 (dz 4 0) [4,5,11,12,13] [] [] [y6 58,.zq 0,y6 15] ⟨[(4,sT ⟨#[]⟩),(5,.slice (ae w.z) 16 g),(11,.slice (some ⟨e,j,none⟩) L.length cp),(12,i6 ((L.length:Nat):Int)),(13,i6 0)],[],[],Z.z⟩ ?_;refine bm (w:=w) (S':=λ_=>False) (VM s L e j cp g w) L.length v7 (λY d=>⟨⟨0,aK s,_,yq,rfl,by rw[dr,T],dY s,a1.x2 d.x2 (λ⟨_,b,_⟩=>by cases b),rfl⟩,ab.A0 a4 d⟩) ?_;rintro W _ A ⟨i,h,X,bk,M,l,H,O,rfl⟩ z u ad;by_cases v:i<L.length
 rotate_left
 ·skip;refine Aq 13 (dz 3 0) [4,33] [dF (((i:Int):Int)<((L.length:Nat):Int))] [] [.ops (Ac 30) [1,2],y6 31] ⟨[(4,sT ⟨#[]⟩),(33,yt (ae w.z) 16 g)],[],[],A.z⟩ ?_;refine fy (dst:=some 34) (x:=convert 34 9 (yt (ae w.z) 16 g)) (sT (bX h)) v7 v7 rfl (λo d=>?_) ?_
  ·exact sh (P:=prog) o 34 9 5 _ _ _ 5 h v7 v7 v7 (O.x2 d.x2 (λ⟨_,b,_⟩=>by cases b)) l H
  refine z6 5 [y2] [4] [] [] [y6 31] [] [] A.z ?_;refine B1 [] [sT (bX h)] [] ?_;intro o d;refine⟨?_,(ab.A0 z d).x2⟩;rw[M,eX yq];rfl
 obtain⟨c,E⟩:∃c,L[i]?=some c:=⟨_,cx v⟩;have a8:=ak c (aS E);have t:(aK c).length=16:=by rw[dr,a8]
 refine aD [⟨e,j+i*1,[sT c]⟩] (λ_ J k=>?_) ?_
 ·simp only[bj,cv,or_false]at k;subst k;exact⟨(λ⟨_,b,_⟩=>by cases b),cD Q z.x2.size,λa p aq=>dl z.x2 Q (wX an E a p aq)⟩
 refine Aq 25 [y2,FN,HA,⟨false,0,[⟨true,0,0,1⟩]⟩,y2,y2,y2,y2] [4,5,7,11,12,13,18,19] [dT (((i:Int):Int)<((L.length:Nat):Int)),oE ((0:Int)<=(i:Int)∧(i:Int)<((L.length:Nat):Int))] [(e,j+i*1,1)] [y6 14950,.zq 2,.zq 1,y6 935,.inv u,.zq 0,y6 15] ⟨[(4,sT ⟨#[]⟩),(5,.slice (ae w.z) 16 g),(7,sT c),(11,.slice (some ⟨e,j,none⟩) L.length cp),(12,i6 ((L.length:Nat):Int)),(13,i6 (i:Int)),(18,i6 16),(19,i6 0)],[],[⟨e,j+i*1,[sT c]⟩],A.z⟩ ?_;refine aD [] (λ_ _ b=>by cases b) ?_;refine bm (w:=w) (S':=λ_=>False) (VN L e j cp i g c h w) 16 v7 (λY d=>⟨⟨0,_,rfl,by rw[yj];exact O.x2 d.x2 (λ⟨_,b,_⟩=>by cases b),rfl⟩,ab.A0 z d⟩) ?_;rintro aR _ q ⟨a,X,bl,y,rfl⟩ R K a3;by_cases r:a<16
 rotate_left
 ·skip;refine Aq 15 (dz 4 512) [4,5,11,12,13] [dF (((a:Int):Int)<16),JL ((i:Int)+1)] [] [.inv u,.zq 0,y6 15] ⟨[(4,sT ⟨#[]⟩),(5,yt (ae w.z) 16 g),(11,yt (some ⟨e,j,none⟩) L.length cp),(12,i6 ((L.length:Nat):Int)),(13,i6 ((i:Int)+1))],[],[],q.z⟩ ?_;rw[<-aW i];have a7:a=16:=by omega
  subst a7;intro C G D d;exact ad (W-1) _ C G yq ⟨i+1,fQ h (aK c),_,yq,by rw[HP _ _ E,M],by rw[iZ (l.trans t.symm),l],kL H (dY c),by have b:=y.x2 d.x2 (λ⟨_,b,_⟩=>by cases b);rwa [EB l t]at b,rfl⟩ D (ab.A0 R d)
 have bb:=HQ H a;have bd:=qS c (Int.toNat (a:Int));refine aD [⟨w.z,0+a*1,[u6 (h[a]?.getD 0)]⟩] (λ_ J k=>?_) ?_
 ·simp only[bj,cv,or_false]at k;subst k;refine⟨(λ⟨_,b,_⟩=>by cases b),y.lt,λI p m=>?_⟩
  match I,m with
  |0,m=>
   simp only[List.getElem?_cons_zero,aB]at m;subst m;show q.cell? ⟨w.z,0+a*1+0,none⟩=_;rw[bG,Nat.mul_one,Nat.add_zero];exact y.cell (Q9 l t r)
  |I+1,m=>simp at m
 refine Aq 17 (dz 4 16) [4,5,7,8,11,12,13,18,19] [dT (((a:Int):Int)<16)] [] [.code Q8,.zq 3,y6 239207,.inv K,.zq 2,.zq 1,y6 935,.inv u,.zq 0,y6 15] ⟨[(4,sT ⟨#[]⟩),(5,yt (ae w.z) 16 g),(7,sT c),(8,i6 (a:Int)),(11,yt (some ⟨e,j,none⟩) L.length cp),(12,i6 ((L.length:Nat):Int)),(13,i6 (i:Int)),(18,i6 16),(19,i6 (a:Int))],[],[⟨w.z,0+a*1,[u6 (h[a]?.getD 0)]⟩],q.z⟩ ?_;refine eT (f:=1) (ls:=bA 10 511) 9 _ _ v7 v7 v7 v7 (S5 L e j cp i a g c h w q) ⟨⟨yq,yq⟩,⟨yq,yq⟩,NB yq yq,⟨yq,yq⟩,trivial⟩ λa6 U=>?_;replace U:q.z<=a6:=U;refine aD [] (λ_ _ b=>by cases b) ?_;refine oK (i:=9) (w:=w) (S':=λ_=>False) (ls':=bA 10 1023) (x:=Instr.storeAt 5 (pt w.z (0+a*1)) (.int .u8 (jo (h[a]?.getD 0) (ee c (Int.toNat (a:Int)))))) (λB=>FB B w.z 5 (kt (a+1) h (aK c))) v7 v7 v7 v7 (λo d=>?_) (λB a2 a5=>?_)
 ·obtain⟨F,aV,N,a0,a9⟩:=u9 (P:=prog) o 5 w.z (0+a*1) 5 (kt a h (aK c)) (jo (h[a]?.getD 0) (ee c (Int.toNat (a:Int)))) v7 (y.x2 d.x2 (λ⟨_,b,_⟩=>by cases b)) (by rw[EC l t yq];omega);rw[show(kt a h (aK c)).set (0+a*1) (jo (h[a]?.getD 0) (ee c (Int.toNat (a:Int))))=kt (a+1) h (aK c)from by rw[bG,Nat.mul_one,cJ,qR];exact ED l t r]at N;exact⟨F,aV,N,(ab.A0 R d).A3 (λ_ b=>b) a0 (λJ k=>.inr (bC k.symm)) (λ_ b=>by cases b)⟩
 refine cd v7 ?_;refine Aq 8 (dz 2 2) [4,5,7,11,12,13,18,19] [JL ((a:Int)+1)] [] [.inv K,.zq 2,.zq 1,y6 935,.inv u,.zq 0,y6 15] ⟨[(4,sT ⟨#[]⟩),(5,yt (ae w.z) 16 g),(7,sT c),(11,yt (some ⟨e,j,none⟩) L.length cp),(12,i6 ((L.length:Nat):Int)),(13,i6 (i:Int)),(18,i6 16),(19,i6 ((a:Int)+1))],[],[],B.z⟩ ?_;rw[<-aW a];intro C G D d;exact a3 (aR-1) _ C G yq ⟨a+1,_,yq,a2.x2 d.x2 (λ⟨_,b,_⟩=>by cases b),rfl⟩ D (ab.A0 a5 d)
theorem Ma(a b d:ByteArray)(e:a.size=16)(j:b.size=16)(k:d.size=16)(w:World):aC 110 #[sT a,sT b,sT d] w (bf (.tuple #[sT (bX (fQ (fQ (aK a) (aK b)) (aK d))),i6 0]) w):=by
 refine cH (S:=z8) (n:=25) func110 (ab.none w _) ?_;refine z6 32 (dz 19 0x40000000000000) [6,7,20,23] (rE 6 (oE (((b.size:Int)!=(a.size:Int))=false) (c8.2 (by rw[j,e])))++[oE (((d.size:Int)!=(a.size:Int))=false) (c8.2 (by rw[k,e]))]) [] [.ops (Ac 14) [4,5,6],y6 15] [⟨w.z,9,true,[sT b,sT d]⟩] [] (w.z+1) ?_;refine DV (sT (bX (eF (aK a) [b,d]))) _ _ (some 24) [] tI rfl (λg c=>qC a e [b,d] (by intro m f;simp at f;rcases f with rfl|rfl<;>assumption) z1 w.z 0 2 g (c.at_ 0 rfl).lt (λl o h=>by rw[bG];exact(c.at_ 0 rfl).at_ h)) λi p=>?_;refine z6 6 (dz 2 0) [6,7] [] [] [y6 15] [⟨w.z,9,true,[sT b,sT d]⟩] [] i ?_;refine B1 [] [sT (bX (eF (aK a) [b,d])),i6 0] [] ?_;intro g c;exact⟨rfl,c.x2⟩
def VO(s:ByteArray)(L:ct)(e:Nat)(a:Nat)(cp:Nat)  (m:Nat) (st:St):Prop:=
 ∃(i:Nat)(z:Nat),m+i=L.length∧st=⟨[(0,sT s),(1,yt (some ⟨e,a,none⟩) L.length cp),(4,sT ⟨#[]⟩),(5,i6 0),(8,yt (some ⟨e,a,none⟩) L.length cp),(9,i6 ((L.length:Nat):Int)),(10,i6 (i:Int))],[],[],z⟩
theorem sw(r:s.size=16)(L:ct)(l:∀c∈L,c.size=16)(z:L.length<=100)(e b cp:Nat)(w:World)(j:e<w.z)(m:∀(d:Nat)(f:Value),(ba L)[d]?=some f->w.cell? ⟨e,b+d,none⟩=some f):aC 109 #[sT s,yt (some ⟨e,b,none⟩) L.length cp] w (bf (.tuple #[sT (bX (eF (aK s) L)),i6 0]) w):=by
 refine cH (S:=z8) (n:=23) func109 (ab.none w _) ?_;refine Aq 16 (dz 5 0) [0,1,4,5,8,9,10] [] [] [y6 26,.zq 0,.code [1,1]] ⟨[(0,sT s),(1,.slice (some ⟨e,b,none⟩) L.length cp),(4,sT ⟨#[]⟩),(5,i6 0),(8,.slice (some ⟨e,b,none⟩) L.length cp),(9,i6 ((L.length:Nat):Int)),(10,i6 0)],[],[],w.z⟩ ?_;refine ge (VO s L e b cp) L.length v7 ⟨0,_,yq,rfl⟩ ?_;rintro u _ ⟨a,k,C,rfl⟩ t x;by_cases v:a<L.length
 rotate_left
 ·skip;refine z6 14 (dz 4 0) [4,5,20,21] [dF (((a:Int):Int)<((L.length:Nat):Int))] [] [.ops (Ac 14) [2,3,4],y6 15] [] [] k ?_;refine DV (sT (bX (eF (aK s) L))) _ _ (some 22) [] tI rfl (λq g=>qC s r L l z e b cp q (cD j g.x2.size) (λd f i=>dl g.x2 j (m d f i))) λy D=>?_;refine z6 6 (dz 2 0) [4,5] [] [] [y6 15] [] [] y ?_;refine B1 [] [sT (bX (eF (aK s) L)),i6 0] [] ?_;intro q g;exact⟨rfl,g.x2⟩
 obtain⟨c,o⟩:∃c,L[a]?=some c:=⟨_,cx v⟩;have A:=l c (aS o);refine aD [⟨e,b+a*1,[sT c]⟩] (λ_ B p=>?_) ?_
 ·simp only[bj,cv,or_false]at p;subst p;exact⟨λh=>h,j,λd f i=>wX m o d f i⟩
 refine Aq 33 [y2,FN,HA,⟨false,0,[⟨true,0,0,1⟩]⟩,y2,y2,y2,y2,y2,y2,y2,HA,y2] [0,1,4,5,8,9,10] [dT (((a:Int):Int)<((L.length:Nat):Int)),oE ((0:Int)<=(a:Int)∧(a:Int)<((L.length:Nat):Int)),oE (((c.size:Int)!=(s.size:Int))=false) (c8.2 (by rw[A,r])),JL ((a:Int)+1)] [(e,b+a*1,1)] [.inv t,.zq 0,.code [1,1]] ⟨[(0,sT s),(1,yt (some ⟨e,b,none⟩) L.length cp),(4,sT ⟨#[]⟩),(5,i6 0),(8,yt (some ⟨e,b,none⟩) L.length cp),(9,i6 ((L.length:Nat):Int)),(10,i6 ((a:Int)+1))],[],[⟨e,b+a*1,[sT c]⟩],k⟩ ?_;refine aD [] (λ_ _ h=>by cases h) ?_;exact x (u-1) _ yq ⟨a+1,_,yq,by rw[<-aW a]⟩
theorem Va(cp:Nat)(w:World):Out.prune [2,3] (fu prog 15 w z8 (aj (aa (al f121) (Ac 14))) (aj (aa (al f121) (Ac 14))).toList ⟨[(0,yt (ae e) (L.length+1) cp),(2,sT ⟨#[]⟩),(3,i6 0)],[],[⟨e,0,[sT s]⟩],w.z⟩ [(false,.op y2),(false,.op HA),(false,.op ⟨false,0,[⟨true,0,0,1⟩]⟩),(false,.op y2),(false,.op HA),(false,.call (.tuple #[sT (bX (eF (aK s) L)),i6 0])),(false,.op y2),(false,.op y2),(false,.op y2),(false,.op y2)])=some ⟨[(0:Int)<=0∧0<(((L.length+1):Nat):Int),((0:Int)<=(1:Int)∧(1:Int)<=(((L.length+1):Nat):Int))∧1<cp,∀a,fU w z8 [] [⟨e,0,[sT s]⟩] w.z a->aC 109 #[sT s,yt (some ⟨e,1,none⟩) ((L.length+1)-1) (cp-1)] a (bf (.tuple #[sT (bX (eF (aK s) L)),i6 0]) a)],aX [(e,0,1)],⟨[(2,sT (bX (eF (aK s) L))),(3,i6 0)],[],[⟨e,0,[sT s]⟩],w.z⟩⟩:=v7
theorem IX(r:s.size=16)(L:ct)(o:∀m∈L,m.size=16)(q:0<L.length∧L.length<=100)(e cp:Nat)(W3:L.length+1<=cp)(w:World)(f:e<w.z)(h:∀(a:Nat)(b:Value),(ba (s::L))[a]?=some b->w.cell? ⟨e,0+a,none⟩=some b):aC 121 #[yt (ae e) (L.length+1) cp] w (bf (.tuple #[sT (bX (eF (aK s) L)),i6 0]) w):=by
 refine cH (S:=z8) (n:=15) func121 (ab.none w _) ?_;refine aD [⟨e,0,[sT s]⟩] (λ_ t p=>?_) ?_
 ·obtain rfl:=aG.1 p;refine⟨λl=>l,f,λa b c=>?_⟩
  match a,c with
  |0,c=>cases c;exact h 0 _ rfl
 refine Aq 18 (dz 6 0) [0,2,3] [oE (((((L.length+1):Nat):Int)==0)=false) (cw.2 yq)] [] [y6 14,y6 15] ⟨[(0,yt (ae e) (L.length+1) cp),(2,sT ⟨#[]⟩),(3,i6 0)],[],[⟨e,0,[sT s]⟩],w.z⟩ ?_;refine dm _ _ v7 v7 v7 (Va s L e cp w) ⟨⟨yq,yq⟩,⟨yq,yq⟩,(λi d=>sw s r L o q.2 e 1 (cp-1) i (cD f d.2.x2.size) (λa b c=>by have g:=dl d.2.x2 f (h (a+1) b (by simpa[ba]using c));rw[bG]at g;rw[Nat.add_comm 1 a];exact g)),trivial⟩ λj k=>?_;replace k:w.z<=j:=k;refine z6 3 [] [2,3] [] [] [y6 15] [] [⟨e,0,[sT s]⟩] j ?_;refine B1 [] [sT (bX (eF (aK s) L)),i6 0] [] ?_;intro i d;exact⟨rfl,d.x2⟩
theorem sL(a:aY)(cp:Nat)(w:World):aC 108 #[yt a 0 cp,i6 0] w (bf (bO_ true) w):=by
 refine cH (S:=z8) (n:=21) func108 (ab.none w _) ?_;refine Aq 25 (dz 9 0) [4,11,12,13] [oE (((0:Int)!=0)=false) (c8.2 rfl)] [] [y6 58,.zq 0,y6 15] ⟨[(4,.bool false),(11,.slice a 0 cp),(12,i6 (0:Int)),(13,i6 0)],[],[],w.z⟩ ?_;refine ge (λb d=>b=0∧d=⟨[(4,.bool false),(11,.slice a 0 cp),(12,i6 (0:Int)),(13,i6 0)],[],[],w.z⟩) 0 v7 ⟨rfl,rfl⟩ ?_;rintro b _ ⟨rfl,rfl⟩ e f;refine z6 14 (dz 3 0) [4] [dF ((0:Int)<(0:Int))] [] [y6 31] [] [] w.z ?_;refine B1 [] [.bool true] [] ?_;intro g c;exact⟨rfl,c.x2⟩
@[simp] def wu(N:Int)(S:Int)(w:World):ax:=[⟨w.z,23,true,[i6 N,i6 S]⟩]
variable (N S c o:Int)
theorem LD(C:3<=N∧N<=6∧1<=S∧S<=8)(h:0<=c∧c<N-1)(E:-1<=o∧o<=N-1)(s:ByteArray)(R:ct)(r:s.size=16)(q:∀v∈R,v.size=16)(X:o=c)(V:0<R.length∧R.length<=6)(hlen:(bF N c o).length=R.length+1)(d cp:Nat)(w:World)(J:R.length+1<=cp)(j:d<w.z)(l:∀(b:Nat)(g:Value),(ba (s::R))[b]?=some g->w.cell? ⟨d,0+b,none⟩=some g):aC 107 #[.agg #[i6 N,i6 S],i6 c,i6 o,yt (ae d) (R.length+1) cp] w (bf (.tuple #[sT (bX (eF (aK s) R)),i6 0]) w):=by
 refine cH (S:=z8) (n:=39) func107 (ab.none w _) ?_;refine z6 14 (dz 6 536903680) [1,2,3,8,9,14,15,16] [] [(w.z,0,2)] [.ops [1,0] [3,4,5,6,7,8,9,10],.code [1,1]] (wu N S w) [] (w.z+1) ?_;refine Ip (w:=w) (S':=z8) (Y:=(aO)×(aO)) (λe=>.tuple #[yt e.1.1 (R.length+1) e.1.2,yt e.2.1 ((cT N c o).length) e.2.2,i6 0]) (λe=>wu N S w) (λe P=>True) (v7:_=some (49,[.agg #[i6 N,i6 S],i6 c,i6 o],some 17,[])) tI (λk a=>?_) (λe y W f=>?_)
 ·have p:=m9 N S c o C h E k;rw[hlen]at p;refine p.mono λM Q F=>?_;obtain⟨t,u,z,A,B,_,_,D⟩:=F;exact⟨((t,u),(z,A)),B,trivial,a.A3 (λ_ h=>h) D (λ_ h=>h.elim) (λ_ _ h=>h)⟩
 obtain⟨⟨K,T⟩,L,U⟩:=e;refine z6 25 (dz 13 0) [1,2,3,8,9,24,26] [fF] [] [.ops (Ac 60) [3,4],y6 61,y6 31] (wu N S w) [] y.z ?_;refine DV (.bool true) _ _ (some 27) [] tI rfl (λk a=>j5 (s::R) d cp (by intro x m;rcases bj.1 m with rfl|m;exact r;exact q x m) (by simp;omega) k (cD j (f.A0 a).x2.size) (λb g i=>dl (f.A0 a).x2 j (l b g i))) λH Z=>?_;refine aD [⟨d,0,[sT s]⟩] (λ_ O G=>?_) ?_
 ·obtain rfl:=aG.1 G;refine⟨λh=>absurd (oM f h) (Nat.not_le.2 j),cD j f.x2.size,λb g i=>dl f.x2 j ?_⟩
  match b,i with
  |0,i=>cases i;exact l 0 _ rfl
 refine z6 18 (dz 7 1048576) [3,8,9,32] [fF,oE ((o==c)=true) (dC.2 yq)] [] [.ops (Ac 500) [1,2,3,4,5],y6 501,y6 63] (wu N S w) [⟨d,0,[sT s]⟩] H ?_;refine DV (.tuple #[sT (bX (eF (aK s) R)),i6 0]) _ _ (some 33) [] tI rfl (λk a=>IX s r R q yq d cp J k (cD j (f.A0 a).x2.size) (λb g i=>dl (f.A0 a).x2 j (l b g i))) λI ac=>?_;refine z6 8 (dz 4 0) [3,8,9] [] [] [y6 501,y6 63] (wu N S w) [⟨d,0,[sT s]⟩] I ?_;refine B1 [] [sT (bX (eF (aK s) R)),i6 0] [] ?_;intro k a;exact⟨rfl,(f.A0 a).x2⟩
@[simp] def BB(N:Int)(S:Int)(w:World):ax:=[⟨w.z,23,true,[i6 N,i6 S]⟩]
theorem LE(A:3<=N∧N<=6∧1<=S∧S<=8)(h:0<=c∧c<N-1)(C:-1<=o∧o<=N-1)(s:ByteArray)(R:ct)(H:s.size=16)(G:∀t∈R,t.size=16)(V:o≠c)(T:R.length<=6)(hlen:(bF N c o).length=R.length+1)(b cp:Nat)(w:World)(j:b<w.z)(p:∀(d:Nat)(g:Value),(ba (s::R))[d]?=some g->w.cell? ⟨b,0+d,none⟩=some g):aC 107 #[.agg #[i6 N,i6 S],i6 c,i6 o,yt (ae b) (R.length+1) cp] w (bf (.tuple #[sT s,i6 0]) w):=by
 refine cH (S:=z8) (n:=39) func107 (ab.none w _) ?_;refine z6 14 (dz 6 536903680) [1,2,3,8,9,14,15,16] [] [(w.z,0,2)] [.ops [1,0] [3,4,5,6,7,8,9,10],.code [1,1]] (BB N S w) [] (w.z+1) ?_;refine Ip (w:=w) (S':=z8) (Y:=(aO)×(aO)) (λa=>.tuple #[yt a.1.1 (R.length+1) a.1.2,yt a.2.1 ((cT N c o).length) a.2.2,i6 0]) (λa=>BB N S w) (λa M=>True) (v7:_=some (49,[.agg #[i6 N,i6 S],i6 c,i6 o],some 17,[])) tI (λk e=>?_) (λa v U f=>?_)
 ·have m:=m9 N S c o A h C k;rw[hlen]at m;refine m.mono λK O D=>?_;obtain⟨q,r,x,y,z,_,_,B⟩:=D;exact⟨((q,r),(x,y)),z,trivial,e.A3 (λ_ h=>h) B (λ_ h=>h.elim) (λ_ _ h=>h)⟩
 obtain⟨⟨I,P⟩,J,Q⟩:=a;refine z6 25 (dz 13 0) [1,2,3,8,9,24,26] [fF] [] [.ops (Ac 60) [3,4],y6 61,y6 31] (BB N S w) [] v.z ?_;refine DV (.bool true) _ _ (some 27) [] tI rfl (λk e=>j5 (s::R) b cp (by intro u l;rcases bj.1 l with rfl|l;exact H;exact G u l) (by simp;omega) k (cD j (f.A0 e).x2.size) (λd g i=>dl (f.A0 e).x2 j (p d g i))) λF W=>?_;refine aD [⟨b,0,[sT s]⟩] (λ_ L E=>?_) ?_
 ·obtain rfl:=aG.1 E;refine⟨λh=>absurd (oM f h) (Nat.not_le.2 j),cD j f.x2.size,λd g i=>dl f.x2 j ?_⟩
  match d,i with
  |0,i=>cases i;exact p 0 _ rfl
 refine z6 24 [y2,y2,y2,y2,y2,y2,y2,HA,⟨false,0,[⟨true,0,0,1⟩]⟩,y2,y2] [8,9] [fF,oE ((o==c)=false) (cw.2 yq),oE ((0:Int)<=0∧0<(((R.length+1):Nat):Int))] [(b,0,1)] [y6 127] (BB N S w) [⟨b,0,[sT s]⟩] F ?_;refine B1 [] [sT s,i6 0] [] ?_;intro k e;exact⟨rfl,(f.A0 e).x2⟩
@[simp] def BC(N:Int)(S:Int)(w:World):ax:=[⟨w.z,23,true,[i6 N,i6 S]⟩]
theorem F3(p:3<=N∧N<=6∧1<=S∧S<=8)(h:0<=c∧c<N-1)(y:-1<=o∧o<=N-1)(J:o=N-1)(hlen:(cN N c o).length=0)(d:ByteArray)(B:d.size=16)(l:aY)(cp:Nat)(w:World) :aC 86 #[.agg #[i6 N,i6 S],i6 c,i6 o,yt l 0 cp,sT d] w (λj f=>∃k,j=.returned (.tuple #[yt (ae k) 1 1,i6 0])∧ah f w.z 9 1 (ae k) 1 1 [sT (d)]∧au z8 w f):=by
 refine cH (S:=z8) (n:=77) func86 (ab.none w _) ?_;refine z6 14 (dz 6 536903680) [1,2,3,4,5,10,11,19,20,21] [] [(w.z,0,2)] [.ops [1,0] [3,4,5,6,7,8,9,10],.code [1,1]] (BC N S w) [] (w.z+1) ?_;refine Ip (w:=w) (S':=z8) (Y:=(aO)×(aO)) (λa=>.tuple #[yt a.1.1 0 a.1.2,yt a.2.1 ((dq N c o).length) a.2.2,i6 0]) (λa=>BC N S w) (λa E=>True) (v7:_=some (51,[.agg #[i6 N,i6 S],i6 c,i6 o],some 22,[])) tI (λe b=>?_) (λa s I i=>?_)
 ·have m:=iz N S c o p h y e;rw[hlen]at m;refine m.mono λj f z=>?_;obtain⟨q,r,t,u,v,_,_,x⟩:=z;exact⟨((q,r),(t,u)),v,trivial,b.A3 (λ_ h=>h) x (λ_ h=>h.elim) (λ_ _ h=>h)⟩
 obtain⟨⟨C,G⟩,D,H⟩:=a;refine z6 25 (dz 13 0) [1,2,3,4,5,10,11,14,29,31] [fF] [] [.ops (Ac 60) [3,4,5,6,7,8,9],y6 61,y6 31] (BC N S w) [] s.z ?_;refine DV (bO_ true) _ _ (some 32) [] tI rfl (λe b=>sL l cp e) λA L=>?_;refine z6 21 (dz 9 0x2000800400000) [1,3,4,10,11,14,39,41] [fF,fF,fF,fF,oE (((d.size:Int)!=16)=false) (c8.2 (by rw[B];rfl))] [(w.z,0,2)] [.ops (Ac 500) [1,2,3],y6 501,.zq 0,y6 63] (BC N S w) [] A ?_;refine DV (i6 (N-1)) _ _ (some 42) [] tI rfl (λe b=>eG N S p e) λg M=>?_;refine z6 14 (dz 7 256) [3,4,10,11,14] [oE ((o==(N-1))=true) (dC.2 yq)] [] [y6 2005,.zq 0,y6 63] [⟨w.z,23,true,[i6 N,i6 S]⟩,⟨g,9,true,[sT d]⟩] [] (g+1) ?_;refine B1 [] [yt (ae g) 1 1,i6 0] [] ?_;intro e b;have K:=i.x2.size;exact⟨_,rfl,fk yq (b.at_ 1 rfl) rfl z1,(i.A0 b).x2⟩
@[simp] def wv(N:Int)(S:Int)(w:World):ax:=[⟨w.z,23,true,[i6 N,i6 S]⟩]
theorem F4(u:3<=N∧N<=6∧1<=S∧S<=8)(h:0<=c∧c<N-1)(G:-1<=o∧o<=N-1)(V:o=c)(d:ByteArray)(x:d.size=16)(L:ct)(v:∀A∈L,A.size=16)(U:L.length<=6)(hlen:(cN N c o).length=L.length)(j cp:Nat)(w:World)(k:j<w.z)(t:∀(g:Nat)(i:Value),(ba L)[g]?=some i->w.cell? ⟨j,0+g,none⟩=some i):aC 86 #[.agg #[i6 N,i6 S],i6 c,i6 o,yt (ae j) L.length cp,sT d] w (λq m=>∃r,q=.returned (.tuple #[yt (ae r) 1 1,i6 0])∧ah m w.z 9 1 (ae r) 1 1 [sT (bX (eF (aK d) L))]∧au z8 w m):=by
 refine cH (S:=z8) (n:=77) func86 (ab.none w _) ?_;refine z6 14 (dz 6 536903680) [1,2,3,4,5,10,11,19,20,21] [] [(w.z,0,2)] [.ops [1,0] [3,4,5,6,7,8,9,10],.code [1,1]] (wv N S w) [] (w.z+1) ?_;refine Ip (w:=w) (S':=z8) (Y:=(aO)×(aO)) (λe=>.tuple #[yt e.1.1 L.length e.1.2,yt e.2.1 ((dq N c o).length) e.2.2,i6 0]) (λe=>wv N S w) (λe O=>True) (v7:_=some (51,[.agg #[i6 N,i6 S],i6 c,i6 o],some 22,[])) tI (λb a=>?_) (λe B T f=>?_)
 ·have s:=iz N S c o u h G b;rw[hlen]at s;refine s.mono λq m H=>?_;obtain⟨y,z,C,D,E,_,_,F⟩:=H;exact⟨((y,z),(C,D)),E,trivial,a.A3 (λ_ h=>h) F (λ_ h=>h.elim) (λ_ _ h=>h)⟩
 obtain⟨⟨K,Q⟩,M,R⟩:=e;refine z6 25 (dz 13 0) [1,2,3,4,5,10,11,14,29,31] [fF] [] [.ops (Ac 60) [3,4,5,6,7,8,9],y6 61,y6 31] (wv N S w) [] B.z ?_;refine DV (bO_ true) _ _ (some 32) [] tI rfl (λb a=>j5 L j cp v yq b (cD k (f.A0 a).x2.size) (λg i l=>dl (f.A0 a).x2 k (t g i l))) λI X=>?_;refine z6 21 (dz 9 0x2000800400000) [1,3,4,10,11,14,39,41] [fF,fF,fF,fF,oE (((d.size:Int)!=16)=false) (c8.2 (by rw[x];rfl))] [(w.z,0,2)] [.ops (Ac 500) [1,2,3],y6 501,.zq 0,y6 63] (wv N S w) [] I ?_;refine DV (i6 (N-1)) _ _ (some 42) [] tI rfl (λb a=>eG N S u b) λJ Z=>?_;refine z6 18 (dz 9 16777216) [3,4,10,11,14,50,51] [oE ((o==(N-1))=false) (cw.2 yq),oE ((o==c)=true) (dC.2 yq)] [] [.ops (Ac 8028) [2,3,4,5,6,7],y6 8029,.zq 0,y6 63] (wv N S w) [] J ?_;refine DV (.tuple #[sT (bX (eF (aK d) L)),i6 0]) _ _ (some 52) [] tI rfl (λb a=>sw d x L v yq j 0 cp b (cD k (f.A0 a).x2.size) (λg i l=>dl (f.A0 a).x2 k (t g i l))) λp ac=>?_;refine z6 24 (dz 12 0) [3,4,10,11,14] [fF] [] [y6 32119,.zq 0,y6 63] [⟨w.z,23,true,[i6 N,i6 S]⟩,⟨p,9,true,[sT (bX (eF (aK d) L))]⟩] [] (p+1) ?_;refine B1 [] [yt (ae p) 1 1,i6 0] [] ?_;intro b a;have W:=f.x2.size;exact⟨_,rfl,fk yq (a.at_ 1 rfl) rfl z1,(f.A0 a).x2⟩
@[simp] def kh(N:Int)(S:Int)(w:World):ax:=[⟨w.z,23,true,[i6 N,i6 S]⟩]
theorem UD(w:World)(s:ByteArray)(t:ByteArray)(d:ByteArray)(a:Nat)(cp:Nat)(e:World)(c:Nat):Out.prune [4,10,11,14,17] (fu prog 77 e (ao (kh N S w)) (aj (aa (al f86) (Ac 126))) (aj (aa (al f86) (Ac 126))).toList ⟨[(3,yt (ae a) 2 cp),(4,sT d),(10,z7),(11,i6 0),(14,i6 0)],kh N S w,[⟨a,0,[sT s,sT t]⟩],c⟩ [(false,.op y2),(false,.op HA),(false,.op ⟨false,0,[⟨true,0,1,1⟩]⟩),(false,.op y2),(false,.op HA),(false,.op ⟨false,0,[⟨true,0,0,1⟩]⟩),(false,.op y2),(false,.call (.tuple #[sT (bX (fQ (fQ (aK t) (aK s)) (aK d))),i6 0])),(false,.op y2),(false,.op y2),(false,.op y2),(false,.op y2),(false,.op y2)])=some ⟨[(0:Int)<=1∧1<((2:Nat):Int),(0:Int)<=0∧0<((2:Nat):Int),∀b,fU e (ao (kh N S w)) (kh N S w) [⟨a,0,[sT s,sT t]⟩] c b->aC 110 #[sT t,sT s,sT d] b (bf (.tuple #[sT (bX (fQ (fQ (aK t) (aK s)) (aK d))),i6 0]) b)],aX [(a,1,1),(a,0,1)],⟨[(4,sT d),(10,z7),(11,i6 0),(14,i6 0),(17,sT (bX (fQ (fQ (aK t) (aK s)) (aK d))))],kh N S w,[⟨a,0,[sT s,sT t]⟩],c⟩⟩:=v7
theorem F5(z:3<=N∧N<=6∧1<=S∧S<=8)(h:0<=c∧c<N-1)(J:-1<=o∧o<=N-1)(ak:o≠N-1)(ad:o≠c)(d:ByteArray)(C:d.size=16)(s t:ByteArray)(O:s.size=16)(P:t.size=16)(hlen:(cN N c o).length=2)(a cp:Nat)(w:World)(l:a<w.z)(p:∀(j:Nat)(k:Value),(ba [s,t])[j]?=some k->w.cell? ⟨a,0+j,none⟩=some k):aC 86 #[.agg #[i6 N,i6 S],i6 c,i6 o,yt (ae a) 2 cp,sT d] w (λu q=>∃v,u=.returned (.tuple #[yt (ae v) 2 2,i6 0])∧ah q w.z 9 1 (ae v) 2 2 [sT (d),sT (bX (fQ (fQ (aK t) (aK s)) (aK d)))]∧au z8 w q):=by
 refine cH (S:=z8) (n:=77) func86 (ab.none w _) ?_;refine z6 14 (dz 6 536903680) [1,2,3,4,5,10,11,19,20,21] [] [(w.z,0,2)] [.ops [1,0] [3,4,5,6,7,8,9,10],.code [1,1]] (kh N S w) [] (w.z+1) ?_;refine Ip (w:=w) (S':=z8) (Y:=(aO)×(aO)) (λf=>.tuple #[yt f.1.1 2 f.1.2,yt f.2.1 ((dq N c o).length) f.2.2,i6 0]) (λf=>kh N S w) (λf V=>True) (v7:_=some (51,[.agg #[i6 N,i6 S],i6 c,i6 o],some 22,[])) tI (λe b=>?_) (λf x ac g=>?_)
 ·have y:=iz N S c o z h J e;rw[hlen]at y;refine y.mono λu q K=>?_;obtain⟨D,E,F,G,H,_,_,I⟩:=K;exact⟨((D,E),(F,G)),H,trivial,b.A3 (λ_ h=>h) I (λ_ h=>h.elim) (λ_ _ h=>h)⟩
 obtain⟨⟨Q,X⟩,R,Z⟩:=f;refine z6 25 (dz 13 0) [1,2,3,4,5,10,11,14,29,31] [fF] [] [.ops (Ac 60) [3,4,5,6,7,8,9],y6 61,y6 31] (kh N S w) [] x.z ?_;refine DV (.bool true) _ _ (some 32) [] tI rfl (λe b=>j5 [s,t] a cp (by intro T A;simp at A;rcases A with rfl|rfl<;>assumption) z1 e (cD l (g.A0 b).x2.size) (λj k i=>dl (g.A0 b).x2 l (p j k i))) λM aq=>?_;refine aD [⟨a,0,[sT s,sT t]⟩] (λ_ U L=>?_) ?_
 ·obtain rfl:=aG.1 L;refine⟨λh=>absurd (oM g h) (Nat.not_le.2 l),cD l g.x2.size,λj k i=>dl g.x2 l ?_⟩
  match j,i with
  |0,i=>cases i;exact p 0 _ rfl
  |1,i=>cases i;exact p 1 _ rfl
 refine z6 21 (dz 9 0x2000800400000) [1,3,4,10,11,14,39,41] [fF,fF,fF,fF,oE (((d.size:Int)!=16)=false) (c8.2 (by rw[C];rfl))] [(w.z,0,2)] [.ops (Ac 500) [1,2,3],y6 501,.zq 0,y6 63] (kh N S w) [⟨a,0,[sT s,sT t]⟩] M ?_;refine DV (i6 (N-1)) _ _ (some 42) [] tI rfl (λe b=>eG N S z e) λr aR=>?_;refine Aq 17 (dz 7 0) [3,4,10,11,14] [oE ((o==(N-1))=false) (cw.2 yq),oE ((o==c)=false) (cw.2 yq)] [] [y6 126,y6 127] ⟨[(3,yt (ae a) 2 cp),(4,sT d),(10,z7),(11,i6 0),(14,i6 0)],kh N S w,[⟨a,0,[sT s,sT t]⟩],r⟩ ?_;refine dm _ _ v7 v7 v7 (UD N S w s t d a cp x r) ⟨⟨yq,yq⟩,⟨yq,yq⟩,(λe b=>Ma t s d P O C e),trivial⟩ λm B=>?_;replace B:r<=m:=B;refine z6 19 (dz 8 0) [10,11] [fF] [] [y6 511] [⟨w.z,23,true,[i6 N,i6 S]⟩,⟨m,9,true,[sT d,sT (bX (fQ (fQ (aK t) (aK s)) (aK d)))]⟩] [⟨a,0,[sT s,sT t]⟩] (m+1) ?_;refine B1 [] [yt (ae m) 2 2,i6 0] [] ?_;intro e b;have an:=g.x2.size;exact⟨_,rfl,fk yq (b.at_ 1 rfl) rfl z1,(g.A0 b).x2⟩
section
variable (x:am)(c:CM)(pb v8:Nat)(ya:Int)(L:List ar)(i:Nat)(e:Value)(R b:bB)(A B:aY)(k:Int)(d a f:Nat)(h:Value)
def AV:av:=[i6 2,i6 0,i6 x.ep]++rp 5 (i6 0)++[sT ⟨#[]⟩]
def Gw:av:=((AV x).set 0 (i6 3))
def Pg:cj:=(bA 12 2047)
def Ph:cj:=(bA 12 4095)
@[simp] def Pi:ax:=[bh pb {x with nx:=.func (.func 84) #[pt pb 0] #[],lg:=false,rd:=yt A R.length a,ak:=e}]
@[simp] def rz:ax:=[bh pb {x with nx:=.func (.func 84) #[pt pb 0] #[],lg:=false,rd:=yt (ae d) R.length a,ak:=e}]
@[simp] def m7:ax:=[bh pb {x with nx:=.func (.func 84) #[pt pb 0] #[],lg:=false,rd:=yt A R.length a,ak:=h}]
@[simp] def Pj(v1:Value)(R:bB)(A:aY)(a:Nat):ax:=[bh pb {x with nx:=.func (.func 84) #[pt pb 0] #[],lg:=false,rd:=yt A R.length a,ak:=v1}]
@[simp] def Pk(v5:Value)(R:bB)(d:Nat)(a:Nat):ax:=[bh pb {x with nx:=.func (.func 84) #[pt pb 0] #[],lg:=false,rd:=yt (ae d) R.length a,ak:=v5}]
@[simp] def Pm(v11:Value)(R:bB)(A:aY)(a:Nat):ax:=[bh pb {x with nx:=.func (.func 84) #[pt pb 0] #[],lg:=false,rd:=yt A R.length a,ak:=v11}]
def Vx(m:Nat)(st:St)(d:World):Prop:=
 ∃(i:Nat)(e:Value)(z:Nat),m+i=R.length∧i<=R.length∧bq d v8 x.lb x.cb (HX c ya (aQ 2 x.N x.sn x.ep (R.take i))) (L++bc ya c.last (aQ 2 x.N x.sn x.ep (R.take i))) e∧ah d v8 3 1 A R.length a (ai bo R)∧ah d v8 3 1 B b.length f (ai bo b)∧st=⟨[(0,pt pb 0),(1,i6 ya),(2,yt B b.length f),(18,yt A R.length a),(19,i6 ((R.length:Nat):Int)),(20,i6 (i:Int))],Pi x pb e R A a,[],z⟩
theorem Uu(c:World)(i:Nat)(e:Value)(R:bB)(b:bB)(B:aY)(k:Int)(d:Nat)(a:Nat)(f:Nat):Out.prune [0,1,2,18,19,20,24,25,28,34] (fp prog 56 c (ao (rz x pb e R d a)) ((aj (aa (al f50) (Ac 1689))).toList.take 11) ⟨[(0,pt pb 0),(1,i6 ya),(2,yt B b.length f),(7,i6 k),(18,yt (ae d) R.length a),(19,i6 ((R.length:Nat):Int)),(20,i6 (i:Int))],rz x pb e R d a,[⟨d,0+i*1,[i6 k]⟩],c.z⟩ [.op y2,.op y2,.op y2,.op y2,.call (i6 ((k+x.sn)%x.N)),.op y2,.op y2,.op y2,.op y2,.op (oA 0 52 1),.op y2])=some ⟨[∀g,fU c (ao (rz x pb e R d a)) (rz x pb e R d a) [⟨d,0+i*1,[i6 k]⟩] c.z g->aC 81 #[pt pb 0,i6 k] g (bf (i6 ((k+x.sn)%x.N)) g)],aX [(pb,52,1)],⟨[(0,pt pb 0),(1,i6 ya),(2,yt B b.length f),(18,yt (ae d) R.length a),(19,i6 ((R.length:Nat):Int)),(20,i6 (i:Int)),(24,pt pb 0),(25,i6 ya),(28,i6 ((k+x.sn)%x.N)),(34,aE (AV x))],rz x pb e R d a,[⟨d,0+i*1,[i6 k]⟩],c.z⟩⟩:=v7
def Vy(m:Nat)(st:St)(d:World):Prop:=
 ∃(i:Nat)(h:Value)(z:Nat),m+i=b.length∧i<=b.length∧bq d v8 x.lb x.cb (HX c ya ((aQ 2 x.N x.sn x.ep R)++(aQ 3 x.N x.sn x.ep (b.take i)))) (L++bc ya c.last ((aQ 2 x.N x.sn x.ep R)++(aQ 3 x.N x.sn x.ep (b.take i)))) h∧ah d v8 3 1 A R.length a (ai bo R)∧ah d v8 3 1 B b.length f (ai bo b)∧st=⟨[(0,pt pb 0),(1,i6 ya),(37,yt B b.length f),(38,i6 ((b.length:Nat):Int)),(39,i6 (i:Int))],m7 x pb R A a h,[],z⟩
theorem SB(d:World)(i:Nat)(R:bB)(b:bB)(A:aY)(k:Int)(c:Nat)(a:Nat)(f:Nat)(h:Value):Out.prune [0,1,37,38,39,43,44,47,53] (fp prog 56 d (ao (m7 x pb R A a h)) ((aj (aa (al f50) (Ac 1945))).toList.take 11) ⟨[(0,pt pb 0),(1,i6 ya),(9,i6 k),(37,yt (ae c) b.length f),(38,i6 ((b.length:Nat):Int)),(39,i6 (i:Int))],m7 x pb R A a h,[⟨c,0+i*1,[i6 k]⟩],d.z⟩ [.op y2,.op y2,.op y2,.op y2,.call (i6 ((k+x.sn)%x.N)),.op y2,.op y2,.op y2,.op y2,.op (oA 0 52 1),.op y2])=some ⟨[∀e,fU d (ao (m7 x pb R A a h)) (m7 x pb R A a h) [⟨c,0+i*1,[i6 k]⟩] d.z e->aC 81 #[pt pb 0,i6 k] e (bf (i6 ((k+x.sn)%x.N)) e)],aX [(pb,52,1)],⟨[(0,pt pb 0),(1,i6 ya),(37,yt (ae c) b.length f),(38,i6 ((b.length:Nat):Int)),(39,i6 (i:Int)),(43,pt pb 0),(44,i6 ya),(47,i6 ((k+x.sn)%x.N)),(53,aE (Gw x))],m7 x pb R A a h,[⟨c,0+i*1,[i6 k]⟩],d.z⟩⟩:=v7
end
theorem m8(x:am)(c:CM)(L:List ar)(b:Nat)(v8:Nat)(R a:bB)(A B:aY)(g h:Nat)(ya:Int)(bk:3<=x.N∧x.N<=6∧1<=x.S∧x.S<=8)(hs:0<=x.sn∧x.sn<x.S)(cA:∀e∈R,0<=e∧e<x.N)(cU:∀e∈a,0<=e∧e<x.N)(c7:R.length+a.length<=6)(a1:0<=ya∧ya<=1099511627776)(c9:0<=c.last∧c.last+6<1099511627776)(c6:L.length<=20)(w:World)(b8:aP w v8 b ({x with rd:=(yt A R.length g)}) c L)(cR:ah w v8 3 1 A R.length g (ai bo R))(cP:ah w v8 3 1 B a.length h (ai bo a))(bb:v8<=w.z):aC 50 #[pt b 0,i6 ya,yt B a.length h] w (λan M=>an=Jx∧aP M v8 b ({x with nx:=.func (.func 84) #[pt b 0] #[],lg:=false,rd:=yt A R.length g}) (HX c ya ((aQ 2 x.N x.sn x.ep R)++(aQ 3 x.N x.sn x.ep a))) (L++bc ya c.last ((aQ 2 x.N x.sn x.ep R)++(aQ 3 x.N x.sn x.ep a)))∧ah M v8 3 1 A R.length g (ai bo R)∧au (be [141] v8 x.lb b x.cb w) w M):=by
 obtain⟨v,bg,b7⟩:=b8;have a9:=aw bg;refine cH (S:=(λK=>K=b)) (n:=56) func50 (ab.D1 bg) ?_;refine z6 8 (dz 3 0) [0,1,2,10,12] [] [] [.ops [0] [3],.code [1]] [bh b {x with rd:=yt A R.length g,ak:=v}] [] w.z ?_;refine Ip (w:=w) (S':=bL [141] v8 x b w) (Y:=Value) (λD=>.tuple #[]) (λD=>Pj x b D R A g) (λD p=>bq p v8 x.lb x.cb ({c with zL:=[]}) L D∧ah p v8 3 1 A R.length g (ai bo R)∧ah p v8 3 1 B a.length h (ai bo a)) (v7:_=some (53,[pt b 0,.func (.func 84) #[pt b 0] #[]],some 13,[])) tI (λo d=>?_) (λD a3 cq aR=>?_)
 ·have u:=(d.wide (S':=bL [141] v8 x b w) (λ_ z=>.inl z));have V:=(b7.y4 (es:=[98]) d.x2 (λK r=>by subst r;exact⟨98,z1,a9⟩) rfl rfl rfl);have ad:=(cR.y4 (es:=[98]) d.x2 (λK r=>by subst r;exact⟨98,z1,a9⟩) rfl);have ac:=(cP.y4 (es:=[98]) d.x2 (λK r=>by subst r;exact⟨98,z1,a9⟩) rfl);have H:aP o v8 b ({x with rd:=yt A R.length g,ak:=v}) c L:=⟨_,d.at_ 0 rfl,V⟩;refine(fR (.func 84) #[pt b 0] #[] H).mono λan M X=>?_;obtain⟨W,⟨Q,U,Z⟩,s⟩:=X;have t:=H.T' (es:=[]);exact⟨Q,W,⟨Z,ad.y4 s t rfl,ac.y4 s t rfl⟩,u.HS s (bv u.x2 rfl) U (bQ d t rfl)⟩
 obtain⟨ca,c1,c0⟩:=cq;have cb:bq a3 v8 x.lb x.cb (HX c ya []) (L++bc ya c.last []) D:=by
  have m:({c with zL:=[]}:CM)=HX c ya []:=Aa c ya;have l:(L:List ar)=L++bc ya c.last []:=by simp[bc]
  rw[<-m,<-l];exact ca
 refine Aq 16 (dz 7 5302124544) [0,1,2,18,19,20] [] [(b,60,1)] [y6 26,.zq 0,.code [1,1]] ⟨[(0,pt b 0),(1,i6 ya),(2,yt B a.length h),(18,yt A R.length g),(19,i6 ((R.length:Nat):Int)),(20,i6 0)],Pj x b D R A g,[],a3.z⟩ ?_;have cf:bq a3 v8 x.lb x.cb (HX c ya (aQ 2 x.N x.sn x.ep (R.take 0))) (L++bc ya c.last (aQ 2 x.N x.sn x.ep (R.take 0))) D:=by
  have m:(HX c ya []:CM)=HX c ya (aQ 2 x.N x.sn x.ep (R.take 0)):=by simp[aQ]
  have l:(L++bc ya c.last []:List ar)=L++bc ya c.last (aQ 2 x.N x.sn x.ep (R.take 0)):=by simp[aQ]
  rw[<-m,<-l];exact cb
 refine bm (w:=w) (S':=bL [141] v8 x b w) (Vx x c b v8 ya L R a A B g h) R.length v7 (λb6 d=>⟨⟨0,D,_,yq,yq,cf.kT d aR,c1.kT d aR,c0.kT d aR,rfl⟩,ab.A0 aR d⟩) ?_;rintro a2 _ J ⟨i,C,b5,da,db,bt,O,b3,rfl⟩ F P a6;by_cases a5:i<R.length
 ·skip;obtain⟨e,q⟩:∃e,R[i]?=some e:=⟨_,cx a5⟩;have cs:=cA e (aS q);obtain⟨k,rfl,_⟩:=ah.cell (j:=i*1+0) (v:=i6 e) O (ff (f:=bo) (λ_=>rfl) q (by decide));refine aD [⟨k,0+i*1,[i6 e]⟩] (λ_ K r=>?_) ?_
  ·simp only[bj,cv,or_false]at r;subst r;exact⟨λz=>aN rfl (O.ty k ⟨_,rfl,rfl⟩) (ag F _ z),(O.own k ⟨_,rfl,rfl⟩).2,dj (f:=bo) (λ_=>rfl) O q⟩
  refine Aq 18 [y2,FN,HA,⟨false,0,[⟨true,0,0,1⟩]⟩,y2] [0,1,2,7,18,19,20] [dT (((i:Int):Int)<((R.length:Nat):Int)),oE ((0:Int)<=(i:Int)∧(i:Int)<((R.length:Nat):Int))] [(k,0+i*1,1)] [y6 1689,.zq 1,y6 423,.inv P,.zq 0,.code [1,1]] ⟨[(0,pt b 0),(1,i6 ya),(2,yt B a.length h),(7,i6 e),(18,yt (ae k) R.length g),(19,i6 ((R.length:Nat):Int)),(20,i6 (i:Int))],rz x b C R k g,[⟨k,0+i*1,[i6 e]⟩],J.z⟩ ?_;refine eT (f:=1) (ls:=Pg) 11 _ _ v7 v7 v7 v7 (Uu x b ya J i C R a B e k g h) ⟨(λo d=>qa ({x with nx:=.func (.func 84) #[pt b 0] #[],lg:=false,rd:=yt (ae k) R.length g,ak:=C}) b e bk hs yq o (d.2.at_ 0 rfl)),trivial⟩ λb9 b0=>?_;replace b0:J.z<=b9:=b0;refine aD [] (λ_ _ z=>by cases z) ?_;refine em (i:=11) (ls':=Ph) (w:=w) (S':=bL [141] v8 x b w) (Y:=Value) (λE=>.tuple #[]) (λE=>Pk x b E R k g) (λE p=>bq p v8 x.lb x.cb (d6 (HX c ya (aQ 2 x.N x.sn x.ep (R.take i))) ya ((e+x.sn)%x.N) (dV 2 x.sn x.ep)) ((L++bc ya c.last (aQ 2 x.N x.sn x.ep (R.take i)))++[⟨(e+x.sn)%x.N,(HX c ya (aQ 2 x.N x.sn x.ep (R.take i))).last+1,dV 2 x.sn x.ep,af ya,af ya⟩]) E∧ah p v8 3 1 (ae k) R.length g (ai bo R)∧ah p v8 3 1 B a.length h (ai bo a)) (λE=>[(35,.tuple #[]),(0,pt b 0),(1,i6 ya),(2,yt B a.length h),(18,yt (ae k) R.length g),(19,i6 ((R.length:Nat):Int)),(20,i6 (i:Int)),(24,pt b 0),(25,i6 ya),(28,i6 ((e+x.sn)%x.N)),(34,aE (AV x))]) v7 v7 (v7:_=some (55,[pt b 0,i6 ya,i6 ((e+x.sn)%x.N),aE (AV x)],some 35,[])) tI (λ_=>rfl) (λo d=>?_) (λE bd cr aV=>?_)
  ·have u:=(ab.A0 F d);have aq:v8<=o.z:=az bb u.x2.size;have V:=(bt.kT d F);have ad:=(O.kT d F);have ac:=(b3.kT d F);have H:aP o v8 b ({x with nx:=.func (.func 84) #[pt b 0] #[],lg:=false,rd:=yt (ae k) R.length g,ak:=C}) (HX c ya (aQ 2 x.N x.sn x.ep (R.take i))) (L++bc ya c.last (aQ 2 x.N x.sn x.ep (R.take i))):=⟨_,d.at_ 0 rfl,V⟩;refine(gT ya ((e+x.sn)%x.N) (dV 2 0 x.ep) H ⟨by simp only[HX,dL,eJ,dZ];omega,by simp only[HX,eJ,dZ];omega,eY _ yq,Int.lt_trans (gy _ yq) yq⟩ (by simp only[bM,dL,eJ,dZ];omega) aq).mono λan M X=>?_;obtain⟨W,⟨Q,U,Z⟩,s⟩:=X;have t:=H.T' (es:=[141]);exact⟨Q,W,⟨Z,ad.y4 s t rfl,ac.y4 s t rfl⟩,u.HS s (bv u.x2 rfl) U (bQ d t rfl)⟩
  obtain⟨cl,c3,c2⟩:=cr;refine cd v7 ?_;have cm:bq bd v8 x.lb x.cb (HX c ya (aQ 2 x.N x.sn x.ep (R.take (i+1)))) (L++bc ya c.last (aQ 2 x.N x.sn x.ep (R.take (i+1)))) E:=by
   have m:(d6 (HX c ya (aQ 2 x.N x.sn x.ep (R.take i))) ya ((e+x.sn)%x.N) (dV 2 x.sn x.ep):CM)=HX c ya (aQ 2 x.N x.sn x.ep (R.take (i+1))):=by rw[kZ c _ _ _ a1,lS q]
   have l:((L++bc ya c.last (aQ 2 x.N x.sn x.ep (R.take i)))++[⟨(e+x.sn)%x.N,(HX c ya (aQ 2 x.N x.sn x.ep (R.take i))).last+1,dV 2 x.sn x.ep,af ya,af ya⟩]:List ar)=L++bc ya c.last (aQ 2 x.N x.sn x.ep (R.take (i+1))):=by rw[k7 c _ _ _ L a1,lS q]
   rw[<-m,<-l];exact cl
  refine Aq 8 (dz 2 2) [0,1,2,18,19,20] [JL ((i:Int)+1)] [] [.inv P,.zq 0,.code [1,1]] ⟨[(0,pt b 0),(1,i6 ya),(2,yt B a.length h),(18,yt (ae k) R.length g),(19,i6 ((R.length:Nat):Int)),(20,i6 ((i:Int)+1))],Pk x b E R k g,[],bd.z⟩ ?_;rw[<-aW i];intro a4 a8 a7 d;exact a6 (a2-1) _ a4 a8 yq ⟨i+1,E,_,yq,yq,cm.kT d aV,c3.kT d aV,c2.kT d aV,rfl⟩ a7 (ab.A0 aV d)
 have cn:bq J v8 x.lb x.cb (HX c ya (aQ 2 x.N x.sn x.ep R)) (L++bc ya c.last (aQ 2 x.N x.sn x.ep R)) C:=by
  have m:(HX c ya (aQ 2 x.N x.sn x.ep (R.take i)):CM)=HX c ya (aQ 2 x.N x.sn x.ep R):=by rw[eX yq]
  have l:(L++bc ya c.last (aQ 2 x.N x.sn x.ep (R.take i)):List ar)=L++bc ya c.last (aQ 2 x.N x.sn x.ep R):=by rw[eX yq]
  rw[<-m,<-l];exact bt
 have bs:(aQ 2 x.N x.sn x.ep R)=(aQ 2 x.N x.sn x.ep R)++(aQ 3 x.N x.sn x.ep (a.take 0)):=by simp[aQ]
 have co:bq J v8 x.lb x.cb (HX c ya ((aQ 2 x.N x.sn x.ep R)++(aQ 3 x.N x.sn x.ep (a.take 0)))) (L++bc ya c.last ((aQ 2 x.N x.sn x.ep R)++(aQ 3 x.N x.sn x.ep (a.take 0)))) C:=by
  have m:(HX c ya (aQ 2 x.N x.sn x.ep R):CM)=HX c ya ((aQ 2 x.N x.sn x.ep R)++(aQ 3 x.N x.sn x.ep (a.take 0))):=by rw[<-bs]
  have l:(L++bc ya c.last (aQ 2 x.N x.sn x.ep R):List ar)=L++bc ya c.last ((aQ 2 x.N x.sn x.ep R)++(aQ 3 x.N x.sn x.ep (a.take 0))):=by rw[<-bs]
  rw[<-m,<-l];exact cn
 refine Aq 17 (dz 5 0) [0,1,37,38,39] [dF (((i:Int):Int)<((R.length:Nat):Int))] [] [y6 30,.zq 2] ⟨[(0,pt b 0),(1,i6 ya),(37,yt B a.length h),(38,i6 ((a.length:Nat):Int)),(39,i6 0)],Pi x b C R A g,[],J.z⟩ ?_;have cp:bq J v8 x.lb x.cb (HX c ya ((aQ 2 x.N x.sn x.ep R)++(aQ 3 x.N x.sn x.ep (a.take 0)))) (L++bc ya c.last ((aQ 2 x.N x.sn x.ep R)++(aQ 3 x.N x.sn x.ep (a.take 0)))) C:=by
  have m:(HX c ya ((aQ 2 x.N x.sn x.ep R)++(aQ 3 x.N x.sn x.ep (a.take 0))):CM)=HX c ya ((aQ 2 x.N x.sn x.ep R)++(aQ 3 x.N x.sn x.ep (a.take 0))):=by simp[aQ]
  have l:(L++bc ya c.last ((aQ 2 x.N x.sn x.ep R)++(aQ 3 x.N x.sn x.ep (a.take 0))):List ar)=L++bc ya c.last ((aQ 2 x.N x.sn x.ep R)++(aQ 3 x.N x.sn x.ep (a.take 0))):=by simp[aQ]
  rw[<-m,<-l];exact co
 refine bm (w:=w) (S':=bL [141] v8 x b w) (Vy x c b v8 ya L R a A B g h) a.length v7 (λb6 d=>⟨⟨0,C,_,yq,yq,cp.kT d F,O.kT d F,b3.kT d F,rfl⟩,ab.A0 F d⟩) ?_;rintro a2 _ T ⟨i,N,b5,dd,de,b1,b4,ak,rfl⟩ I P a6;by_cases a5:i<a.length
 ·skip;obtain⟨e,q⟩:∃e,a[i]?=some e:=⟨_,cx a5⟩;have cs:=cU e (aS q);obtain⟨y,rfl,_⟩:=ah.cell (j:=i*1+0) (v:=i6 e) ak (ff (f:=bo) (λ_=>rfl) q (by decide));refine aD [⟨y,0+i*1,[i6 e]⟩] (λ_ K r=>?_) ?_
  ·simp only[bj,cv,or_false]at r;subst r;exact⟨λz=>aN rfl (ak.ty y ⟨_,rfl,rfl⟩) (ag I _ z),(ak.own y ⟨_,rfl,rfl⟩).2,dj (f:=bo) (λ_=>rfl) ak q⟩
  refine Aq 18 [y2,FN,HA,⟨false,0,[⟨true,0,0,1⟩]⟩,y2] [0,1,9,37,38,39] [dT (((i:Int):Int)<((a.length:Nat):Int)),oE ((0:Int)<=(i:Int)∧(i:Int)<((a.length:Nat):Int))] [(y,0+i*1,1)] [y6 1945,.zq 3,y6 487,.inv P,.zq 2] ⟨[(0,pt b 0),(1,i6 ya),(9,i6 e),(37,yt (ae y) a.length h),(38,i6 ((a.length:Nat):Int)),(39,i6 (i:Int))],m7 x b R A g N,[⟨y,0+i*1,[i6 e]⟩],T.z⟩ ?_;refine eT (f:=1) (ls:=Pg) 11 _ _ v7 v7 v7 v7 (SB x b ya T i R a A e y g h N) ⟨(λo d=>qa ({x with nx:=.func (.func 84) #[pt b 0] #[],lg:=false,rd:=yt A R.length g,ak:=N}) b e bk hs yq o (d.2.at_ 0 rfl)),trivial⟩ λcB b2=>?_;replace b2:T.z<=cB:=b2;refine aD [] (λ_ _ z=>by cases z) ?_;refine em (i:=11) (ls':=Ph) (w:=w) (S':=bL [141] v8 x b w) (Y:=Value) (λG=>.tuple #[]) (λG=>Pm x b G R A g) (λG p=>bq p v8 x.lb x.cb (d6 (HX c ya ((aQ 2 x.N x.sn x.ep R)++(aQ 3 x.N x.sn x.ep (a.take i)))) ya ((e+x.sn)%x.N) (dV 3 x.sn x.ep)) ((L++bc ya c.last ((aQ 2 x.N x.sn x.ep R)++(aQ 3 x.N x.sn x.ep (a.take i))))++[⟨(e+x.sn)%x.N,(HX c ya ((aQ 2 x.N x.sn x.ep R)++(aQ 3 x.N x.sn x.ep (a.take i)))).last+1,dV 3 x.sn x.ep,af ya,af ya⟩]) G∧ah p v8 3 1 A R.length g (ai bo R)∧ah p v8 3 1 (ae y) a.length h (ai bo a)) (λG=>[(54,.tuple #[]),(0,pt b 0),(1,i6 ya),(37,yt (ae y) a.length h),(38,i6 ((a.length:Nat):Int)),(39,i6 (i:Int)),(43,pt b 0),(44,i6 ya),(47,i6 ((e+x.sn)%x.N)),(53,aE (Gw x))]) v7 v7 (v7:_=some (55,[pt b 0,i6 ya,i6 ((e+x.sn)%x.N),aE (Gw x)],some 54,[])) tI (λ_=>rfl) (λo d=>?_) (λG bl cO a0=>?_)
  ·have u:=(ab.A0 I d);have aq:v8<=o.z:=az bb u.x2.size;have V:=(b1.kT d I);have ad:=(b4.kT d I);have ac:=(ak.kT d I);have H:aP o v8 b ({x with nx:=.func (.func 84) #[pt b 0] #[],lg:=false,rd:=yt A R.length g,ak:=N}) (HX c ya ((aQ 2 x.N x.sn x.ep R)++(aQ 3 x.N x.sn x.ep (a.take i)))) (L++bc ya c.last ((aQ 2 x.N x.sn x.ep R)++(aQ 3 x.N x.sn x.ep (a.take i)))):=⟨_,d.at_ 0 rfl,V⟩;refine(gT ya ((e+x.sn)%x.N) (dV 3 0 x.ep) H ⟨by simp only[HX,dL,bM,eJ,dZ];omega,by simp only[HX,bM,eJ,dZ];omega,eY _ yq,Int.lt_trans (gy _ yq) yq⟩ (by simp only[bM,dL,eJ,dZ];omega) aq).mono λan M X=>?_;obtain⟨W,⟨Q,U,Z⟩,s⟩:=X;have t:=H.T' (es:=[141]);exact⟨Q,W,⟨Z,ad.y4 s t rfl,ac.y4 s t rfl⟩,u.HS s (bv u.x2 rfl) U (bQ d t rfl)⟩
  obtain⟨cC,c5,c4⟩:=cO;refine cd v7 ?_;have cK:bq bl v8 x.lb x.cb (HX c ya ((aQ 2 x.N x.sn x.ep R)++(aQ 3 x.N x.sn x.ep (a.take (i+1))))) (L++bc ya c.last ((aQ 2 x.N x.sn x.ep R)++(aQ 3 x.N x.sn x.ep (a.take (i+1))))) G:=by
   have m:(d6 (HX c ya ((aQ 2 x.N x.sn x.ep R)++(aQ 3 x.N x.sn x.ep (a.take i)))) ya ((e+x.sn)%x.N) (dV 3 x.sn x.ep):CM)=HX c ya ((aQ 2 x.N x.sn x.ep R)++(aQ 3 x.N x.sn x.ep (a.take (i+1)))):=by rw[kZ c _ _ _ a1,eA,<-lS q]
   have l:((L++bc ya c.last ((aQ 2 x.N x.sn x.ep R)++(aQ 3 x.N x.sn x.ep (a.take i))))++[⟨(e+x.sn)%x.N,(HX c ya ((aQ 2 x.N x.sn x.ep R)++(aQ 3 x.N x.sn x.ep (a.take i)))).last+1,dV 3 x.sn x.ep,af ya,af ya⟩]:List ar)=L++bc ya c.last ((aQ 2 x.N x.sn x.ep R)++(aQ 3 x.N x.sn x.ep (a.take (i+1)))):=by rw[k7 c _ _ _ L a1,eA,<-lS q]
   rw[<-m,<-l];exact cC
  refine Aq 8 (dz 2 2) [0,1,37,38,39] [JL ((i:Int)+1)] [] [.inv P,.zq 2] ⟨[(0,pt b 0),(1,i6 ya),(37,yt (ae y) a.length h),(38,i6 ((a.length:Nat):Int)),(39,i6 ((i:Int)+1))],Pm x b G R A g,[],bl.z⟩ ?_;rw[<-aW i];intro a4 a8 a7 d;exact a6 (a2-1) _ a4 a8 yq ⟨i+1,G,_,yq,yq,cK.kT d a0,c5.kT d a0,c4.kT d a0,rfl⟩ a7 (ab.A0 a0 d)
 have cL:bq T v8 x.lb x.cb (HX c ya ((aQ 2 x.N x.sn x.ep R)++(aQ 3 x.N x.sn x.ep a))) (L++bc ya c.last ((aQ 2 x.N x.sn x.ep R)++(aQ 3 x.N x.sn x.ep a))) N:=by
  have m:(HX c ya ((aQ 2 x.N x.sn x.ep R)++(aQ 3 x.N x.sn x.ep (a.take i))):CM)=HX c ya ((aQ 2 x.N x.sn x.ep R)++(aQ 3 x.N x.sn x.ep a)):=by rw[eX yq]
  have l:(L++bc ya c.last ((aQ 2 x.N x.sn x.ep R)++(aQ 3 x.N x.sn x.ep (a.take i))):List ar)=L++bc ya c.last ((aQ 2 x.N x.sn x.ep R)++(aQ 3 x.N x.sn x.ep a)):=by rw[eX yq]
  rw[<-m,<-l];exact b1
 refine Aq 10 (dz 2 0) [] [dF (((i:Int):Int)<((a.length:Nat):Int))] [] [] ⟨[],m7 x b R A g N,[],T.z⟩ ?_;refine bN [] (v7:_=some ([],aX [])) ?_;intro o d;exact⟨rfl,⟨_,d.at_ 0 rfl,cL.kT d I⟩,b4.kT d I,(ab.A0 I d).x2⟩
end Go.Proofs.YtcmpkkapkdlfhaaGreat
