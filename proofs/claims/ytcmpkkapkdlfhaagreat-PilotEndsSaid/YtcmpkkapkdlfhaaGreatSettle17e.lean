import Derived.Test.YtcmpkkapkdlfhaaGreatSim3e
namespace Go.Proofs.YtcmpkkapkdlfhaaGreat
open Go.RowKit Tryz
set_option maxHeartbeats 4000000
set_option maxRecDepth 100000
structure OpE where
 (lo B0 b pb n S sn:Nat)
 Ar:Int
 s0:bK
structure T4(k:OpE):Prop where
 hn:3<=k.n∧k.n<=6
 hS:1<=k.S∧k.S<=8
 Wi:k.sn<k.S
 Xt:200<=k.Ar∧k.Ar<202
 sN:k.s0.N=k.n
 sS:k.s0.S=k.S
 hb:k.b<=k.B0
 XI:k.lo<=k.pb∧k.lo<=k.B0∧xV k.lo k.s0
def fH(k:OpE)(F:Nat->aZ->Prop)(L:cQ->Prop)(zv:Int)(W:World)(s:bK):Prop:=cy W k.b s∧s={k.s0 with HJ:=s.HJ,NN:=s.NN,ids:=s.ids,says:=s.says,pd:=s.pd}∧(∀b a,a≠k.sn->s.HJ b a=k.s0.HJ b a)∧(∀b,b<k.n->F b (s.HJ b k.sn))∧(∀a,a≠k.sn->s.NN a=k.s0.NN a)∧L (s.NN k.sn)∧(∃c,s.ids[Int.toNat (k.Ar-200)]?=some c∧c<=zv)∧s.ids.length=2∧s.says.length=2
def Du(k:OpE)(W:World)(y:Nat):Prop:=cI [61,73,3,63] W y∧k.lo<=y∧y<k.b
def n7(o:ar)(r b:aZ)(sy:dw):Prop:=∀a,aC 40 #[.agg r.cells.toArray,.agg o.q.cells.toArray] a (bf (.tuple #[.agg b.cells.toArray,.agg sy.cells.toArray]) a)
theorem xX{k:OpE}(d:T4 k){F F':Nat->aZ->Prop}{L:cQ->Prop}{zv:Int}{G:dw->Prop}{m:Nat}(hm:m<k.n){o:ar}(w:o.to=(m:Int))(v:o.q.Al=(k.sn:Int)){W:World}{s:bK}(h:fH k F L zv W s)(O:k.b<=W.z)(ya:Int)(ad:∀e,F m e->∃f b,F' m f∧G b∧n7 o e f b)(N:∀g e,g<k.n->g≠m->F g e->F' g e):aC 18 #[pt s.sb 0,i6 ya,.agg (eV k.Ar o).cells.toArray] W (λc p=>∃b n,c=.returned (.tuple #[.agg (iB k.Ar (λ_=>b) o).cells.toArray,bO_ true])∧G b∧fH k F' L zv p n∧n.sb=s.sb∧n.pd=s.pd∧au (Du k W) W p):=by
 obtain⟨l,j,I,q,J,K,M⟩:=h;have i:s.N=k.n:=by rw[j];exact d.sN
 have B:s.S=k.S:=by rw[j];exact d.sS
 obtain⟨f,b,D,E,H⟩:=ad _ (q m hm);obtain⟨a5,Q,⟨S,a4,T,U,V,X,Y,Z,ac⟩,an,aq⟩:=o;dsimp only at w v;subst w v;refine(N4 s k.b m k.sn ya k.Ar Q ⟨S,(k.sn:Int),T,U,V,X,Y,Z,ac⟩ (s.HJ m k.sn) f b (by rw[i];exact hm) (by rw[B];exact d.Wi) (by rw[i];exact d.hn.2) rfl W l O H).mono λc p ⟨y,z,A⟩=>?_;refine⟨b,_,y,E,⟨z,?_,λa x r=>?_,λa u=>?_,J,K,M⟩,rfl,rfl,A.mono λak _ P=>?_⟩
 ·unfold bK.Wg;rw[j]
 ·exact(ay (λh=>r h.2)).trans (I a x r)
 ·show F' a (if a=m∧k.sn=k.sn then f else s.HJ a k.sn)
  by_cases c:a=m
  ·subst c;rw[aA ⟨rfl,rfl⟩];exact D
  ·rw[ay (λh=>c h.1)];exact N a _ u c (q a u)
 ·subst P;obtain⟨aR,aV,a0,a1,a2,a3,R⟩:=l.low;have t:=d.XI.2.2.2.2.2 m (by rw[d.sN];exact hm);have C:s.row=k.s0.row:=by rw[j]
  rw[<-C]at t;exact⟨⟨61,z1,(l.Wz m (by rw[i];exact hm)).ty _ ⟨_,rfl,rfl⟩⟩,t,R m (by rw[i];exact hm)⟩
theorem N5{k:OpE}(r:T4 k){F:Nat->aZ->Prop}{L L':cQ->Prop}{zv:Int}{o:ar}{g f e e2 o2:Int}(J:o.to=100∧o.q=⟨g,(k.sn:Int),f,0,0,e,0,0,⟨#[]⟩⟩)(l:zv<o.id∧1<=o.id∧o.id<=1099511627776){W:World}{s:bK}(h:fH k F L zv W s)(H:k.b<=W.z)(ya:Int)(O:0<=ya∧ya<=1099511627776)
  (N:∃b u,L' ⟨e2,b,u,o2⟩∧oN s k.sn ya k.Ar g f e e2 b u o2):aC 18 #[pt s.sb 0,i6 ya,.agg (eV k.Ar o).cells.toArray] W (λm j=>∃i,m=.returned (.tuple #[.agg (iB k.Ar (λ_=>⟨1,e2,o2,fI⟩) o).cells.toArray,bO_ true])∧fH k F L' o.id j i∧i.sb=s.sb∧i.pd=s.pd∧au (Du k W) W j):=by
 obtain⟨a,b,D,E,G,S,⟨x,n,T⟩,p,v⟩:=h;obtain⟨I,M,B,C⟩:=N;obtain⟨U,t,P,Q,R⟩:=o;obtain⟨rfl,rfl⟩:=J;dsimp only at l ⊢;refine(FL s k.b k.sn ya k.Ar t g f e e2 I M o2 x C O r.Xt ⟨l.2.1,l.2.2,yq⟩ n p v W a H).mono λm j ⟨z,e2,A⟩=>?_;have K:Int.toNat (k.Ar-200)<s.ids.length:=(cF.1 n).1;refine⟨_,z,⟨e2,?_,D,E,λw q=>?_,?_,⟨t,?_,cS _⟩,?_,?_⟩,rfl,rfl,A.mono λy _ c=>⟨?_,?_,a.YX y c⟩⟩
 ·unfold bK.WL;rw[b]
 ·exact(ay q).trans (G w q)
 ·show L' (if k.sn=k.sn then _ else _)
  rw[aA rfl];exact B
 ·show(s.ids.set _ _)[_]?=_
  rw[List.getElem?_set_self K]
 ·exact(List.length_set ..).trans p
 ·exact(List.length_set ..).trans v
 ·rcases c with rfl|rfl|rfl
  ·exact⟨73,z1,a.NN.ty _ ⟨_,rfl,rfl⟩⟩
  ·exact⟨3,z1,a.ids.ty _ ⟨_,rfl,rfl⟩⟩
  ·exact⟨63,z1,a.say.ty _ ⟨_,rfl,rfl⟩⟩
 ·have d:=r.XI.2.2;rw[b]at c;rcases c with rfl|rfl|rfl
  ·exact d.1
  ·exact d.2.1
  ·exact d.2.2.1
theorem Ej{sy:dw}{w:World}{v8 a:Nat}{c:CM}{lf E2:Int}(h:bO 124 141 w v8 a c)(p:∀b∈c.zL,¬(b.id=E2∧b.to=lf)):aC 42 #[pt a 0,.agg #[i6 lf,i6 c.Ar,i6 E2,bO_ true,i6 0,i6 0,i6 0,i6 0,i6 0,i6 0,i6 0,i6 0,sT ⟨#[]⟩,i6 sy.st,i6 sy.ep,i6 sy.ou,bO_ sy.rc.used,i6 sy.rc.Bf,i6 sy.rc.de,i6 sy.rc.ds,sT sy.rc.block,bO_ sy.rc.op,i6 sy.rc.ie,i6 sy.rc.is,i6 sy.rc.mask,sT sy.rc.A9]] w (bf (.tuple #[.agg #[i6 0,i6 0,i6 0,i6 0,i6 0,i6 0,i6 0,i6 0,sT ⟨#[]⟩],bO_ false]) w):=by
 obtain⟨k,e,f,l,m⟩:=h;refine(uf c.Ar c.last lf E2 e c.zL.length f a v8 c.zL rfl (by have:=k.X2;omega) w l m).mono λq s n=>?_;rcases n with⟨g,_,i⟩|⟨r,o,⟨j,d,_⟩,_⟩
 ·exact⟨g,i⟩
 ·simp only[ch,dC]at d;exact absurd d (p o (aS j))
def PM(c:CM)(lf:Int)(E2:Int)(sy:dw):av:=[i6 lf,i6 c.Ar,i6 E2,bO_ true]++rp 8 (i6 0)++([sT ⟨#[]⟩,i6 sy.st,i6 sy.ep,i6 sy.ou]++sy.rc.cells)
theorem Lv(x:am)(c:CM)(a:Nat)(lf E2 ya:Int)(sy:dw)(w:World)(f:A2 w a 98 (am.cells {x with busy:=false})):aC 19 #[pt a 0,i6 ya,.agg #[i6 lf,i6 c.Ar,i6 E2,bO_ true,i6 0,i6 0,i6 0,i6 0,i6 0,i6 0,i6 0,i6 0,sT ⟨#[]⟩,i6 sy.st,i6 sy.ep,i6 sy.ou,bO_ sy.rc.used,i6 sy.rc.Bf,i6 sy.rc.de,i6 sy.rc.ds,sT sy.rc.block,bO_ sy.rc.op,i6 sy.rc.ie,i6 sy.rc.is,i6 sy.rc.mask,sT sy.rc.A9]] w (λe i=>e=.returned z7∧au z8 w i):=by
 refine cH (S:=z8) (n:=45) func19 (ab.start (bk:=[⟨a,98,false,am.cells {x with busy:=false}⟩]) (wn:=[]) (λd b=>by obtain rfl:=aG.1 b;exact f) (λd b h=>by obtain rfl:=aG.1 b;cases h) z1 z1) ?_;refine z6 27 (dz 14 0x1311100012b0800000) [0,1,5,6] [tT,tT,tT,tT,tT] [(a,43,1)] [y6 53,.code [1,1]] [⟨a,98,false,am.cells {x with busy:=false}⟩,⟨w.z,65,true,PM c lf E2 sy⟩] [] (w.z+1) ?_;refine B1 [] [z7] [] ?_;intro j g;exact⟨rfl,g.x2⟩
section
variable (x:am)(c:CM)(pb:Nat)(ya:Int)(w:World)(lf E2:Int)(sy:dw)
def o8:av:=(PM c lf E2 sy)
def jR:av:=rp 8 (i6 0)++[sT ⟨#[]⟩]
@[simp] def nc:ax:=[⟨pb,98,false,am.cells {x with busy:=true}⟩,⟨w.z,65,false,o8 c lf E2 sy⟩]
@[simp] def PN(d:bi):ax:=[⟨pb,98,false,am.cells {x with busy:=true}⟩,⟨w.z,65,false,o8 c lf E2 sy⟩,⟨d.getD 0,59,true,jR⟩]
@[simp] def Bp(g:Nat):ax:=[⟨pb,98,false,am.cells {x with busy:=true}⟩,⟨w.z,65,false,o8 c lf E2 sy⟩,⟨g,59,true,jR⟩]
def VD:Exit->Act->aI:=bodyPost prog f19 (λa b=>a=.returned z7∧au z8 w b)
def SJ:bu:=[(0,pt pb 0),(1,i6 ya),(5,pt w.z 0),(6,z7)]
def JH(d:bi):List (Option Value):=[some (pt pb 0),some (pt pb 0),some (pt pb 2),some (pt x.cb 0),some (aE (o8 c lf E2 sy)),some (.tuple #[aE (jR),bO_ false]),some (.tuple #[aE (jR),bO_ false]),some (aE (jR)),some (bO_ false),some (pt (d.getD 0) 0),some (.tuple #[]),some (bO_ false)]
def JI(d:bi)(k:Nat):Bool:=(fL 12 [(9,d.isSome)])[k]?.getD true
def Bq(d:bi):List (ax):=[nc x c pb w lf E2 sy,nc x c pb w lf E2 sy,PN x c pb w lf E2 sy d]
abbrev Br(x:am)(c:CM)(v8:Nat)(z3:Nat)(e:Nat)(d:bi)(b:World):Prop:=match e with|0=>(bO 124 141 b v8 x.cb c)∧(∀a,d=some a->z3<=a∧A2 b a 59 (jR))|1=>(bO 124 141 b v8 x.cb c)∧(∀a,d=some a->z3<=a∧A2 b a 59 (jR))|2=>((bO 124 141 b v8 x.cb c)∧z3<=d.getD 0)∧True|_=>True
def qp(v8:Nat)(ya:Int)(w:World)(b:World)(lf:Int)(E2:Int)(sy:dw)(z3:Nat)(d:Nat):Prop:=cY prog f19 [1,1,0] 45 [] (VD w) [y6 15] (SJ pb ya w) (V7 12 [5,10]) 2 (JH x c pb lf E2 sy) JI b (λa=>(ao (nc x c pb w lf E2 sy)) a) (Bq x c pb w lf E2 sy) z3 (Br x c v8 z3) d
end
theorem Lt(x:am)(c:CM)(b:Nat)(v8:Nat)(lf E2 ya:Int)(sy:dw)(an:(0<=lf∧lf<6)∨lf=100∨(200<=lf∧lf<202))(a3:200<=c.Ar∧c.Ar<202)(aq:1<=E2∧E2<=1099511627776)(aV:jJ sy)(aR:∀L∈c.zL,¬(L.id=E2∧L.to=lf))(w:World)(M:A2 w b 98 (am.cells {x with busy:=true}))(Y:bO 124 141 w v8 x.cb c):aC 19 #[pt b 0,i6 ya,.agg #[i6 lf,i6 c.Ar,i6 E2,bO_ true,i6 0,i6 0,i6 0,i6 0,i6 0,i6 0,i6 0,i6 0,sT ⟨#[]⟩,i6 sy.st,i6 sy.ep,i6 sy.ou,bO_ sy.rc.used,i6 sy.rc.Bf,i6 sy.rc.de,i6 sy.rc.ds,sT sy.rc.block,bO_ sy.rc.op,i6 sy.rc.ie,i6 sy.rc.is,i6 sy.rc.mask,sT sy.rc.A9]] w (λI z=>I=.returned z7∧au z8 w z):=by
 refine cH (S:=z8) (n:=45) func19 (ab.start (bk:=[⟨b,98,false,am.cells {x with busy:=true}⟩]) (wn:=[]) (λA a=>by obtain rfl:=aG.1 a;exact M) (λA a y=>by obtain rfl:=aG.1 a;cases y) z1 z1) ?_;refine Aq 18 (dz 9 0x1a001800012b0800000) [0,1,5,6,14,15] [fF] [(b,43,1),(w.z,0,26)] [.ops (Ac 12) [7,8,9],y6 13,.code [1,1]] ⟨[(0,pt b 0),(1,i6 ya),(5,pt w.z 0),(6,z7),(14,bO_ false),(15,aE (o8 c lf E2 sy))],[⟨b,98,false,am.cells {x with busy:=true}⟩,⟨w.z,65,true,o8 c lf E2 sy⟩],[],w.z+1⟩ ?_;refine dH (Ex:=nc x c b w lf E2 sy) [false,false] rfl (λp _ J=>?_);have ak:bO 124 141 p v8 x.cb c:=Y.y4 (es:=[]) J.x2 (λ_ m=>m.elim) rfl rfl;refine z6 3 [] [0,1,5,6,14,15] [] [] [.ops (Ac 12) [7,8,9],y6 13,.code [1,1]] (nc x c b w lf E2 sy) [] p.z ?_;refine DV (bO_ true) _ _ (some 16) [false=false] ⟨rfl,tI⟩ rfl (λq j=>qf lf c.Ar E2 sy an (.inr (.inr a3)) aq aV q) λr bl=>?_;refine Aq 9 (dz 3 64) [0,1,5,6] [fF,fF,fF] [] [y6 14,y6 15] ⟨[(0,pt b 0),(1,i6 ya),(5,pt w.z 0),(6,z7)],nc x c b w lf E2 sy,[],r⟩ ?_;have U:eh p (λD=>(ao (nc x c b w lf E2 sy)) D) (Bq x c b w lf E2 sy) (Br x c v8 r):=by
  intro B e q z bk a j d u
  match B,a,d with
  |0,a,d=>
   obtain rfl:=ap a;refine⟨d.1.y4 u (ag j) rfl rfl,λh o=>⟨(d.2 h o).1,(d.2 h o).2.x2 u (λ⟨A,a,y,Z⟩=>?_)⟩⟩;simp at a;rcases a with rfl|rfl<;>cases y
  |1,a,d=>
   obtain rfl:=ap a;refine⟨d.1.y4 u (ag j) rfl rfl,λh o=>⟨(d.2 h o).1,(d.2 h o).2.x2 u (λ⟨A,a,y,Z⟩=>?_)⟩⟩;simp at a;rcases a with rfl|rfl<;>cases y
  |2,a,d=>
   obtain rfl:=ap a;exact⟨⟨d.1.1.y4 u (ag j) rfl rfl,d.1.2⟩,trivial⟩
  |B+3,a,d=>exact trivial
 have a6:qp x c b v8 ya w p lf E2 sy r 5:=WO (s:=0) (f:=42) (args:=λe=>[pt x.cb 0,aE (o8 c lf E2 sy)]) (ob:=λe=>[]) (λ(e:bi)(_:Unit)=>e) (λe=>.tuple #[aE (jR),bO_ false]) (λe=>trivial) (λe q bk a j d T=>by
  obtain rfl:=ap a;exact(Ej (sy:=sy) d.1 aR).mono λI z F=>⟨(),F.1,rfl,⟨d.1.y4 (es:=[]) F.2 (λ_ m=>m.elim) rfl rfl,λh o=>⟨(d.2 h o).1,(d.2 h o).2.x2 F.2 id⟩⟩,j.A3 (λ_ m=>m) F.2 (λ_ m=>m.elim) (λ_ _ m=>m),F.2.size⟩)
 have a7:qp x c b v8 ya w p lf E2 sy r 9:=W1 1 59 (jR) (λ_ g=>some g) (λg=>pt g 0) (λB e q z bk G a j d u N Q=>by
  have C:=U B e q z bk a j d u
  match B,a,d,C,G with
  |0,a,d,C,G=>exact⟨C.1,(λh o=>by obtain rfl:=ap o;exact⟨N,Q⟩)⟩
  |1,a,d,C,G=>exact⟨C.1,(λh o=>by obtain rfl:=ap o;exact⟨N,Q⟩)⟩
  |B+2,a,d,C,G=>exact absurd G yq)
 have a8:qp x c b v8 ya w p lf E2 sy r 10:=V8 (s:=1) (x:=λe=>Instr.storeAt 59 (pt (e.getD 0) 0) (aE (jR))) (λ(e:bi)(_:Unit)=>e) (λe q bk a j d T=>by
  obtain rfl:=ap a;obtain⟨h,rfl⟩:∃h,e=some h:=cV.1 (T 9 (aS (i:=0) v7) (d9 (k:=7) v7));obtain⟨a1,K⟩:=d.2 h rfl;obtain⟨z,W,ad,R,a0⟩:=cG (P:=prog) (t:=59) (v:=aE (jR)) v7 K rfl (by show 0+9<=9;omega) (aU rfl) rfl;refine⟨(),z,W,rfl,⟨⟨d.1.y4 (es:=[59]) R (λD ac=>by subst ac;exact⟨59,z1,aw K⟩) rfl rfl,a1⟩,trivial⟩,j.Wc (g:=h) R ad yq (λA a I=>?_),bC a0.symm⟩;have X:=aw (j.zq A a);simp at a;rcases a with rfl|rfl<;>exact eo (aw K) I X rfl)
 have a5:∀V∈(f5 2 [0,1,2,6,7,8,11]++[rY 3 2 0 2 1 b,rY 4 2 1 0 26 w.z]:List (fG (bi))),qp x c b v8 ya w p lf E2 sy r V.i:=bp _ U (λe=>v7) v7 (λe a9=>v7);have a4:∀O,O<12->qp x c b v8 ya w p lf E2 sy r O:=f6 (l:=[5,9,10]) v7 a5 ⟨a6,a7,a8,trivial⟩;refine bD (Δ:=bi) (λD=>(ao (nc x c b w lf E2 sy)) D) (JH x c b lf E2 sy) JI (Bq x c b w lf E2 sy) (Br x c v8 r) [0,1,5,6,7,8] (λe=>[(0,pt b 0),(1,i6 ya),(5,pt w.z 0),(6,z7),(7,pt (e.getD 0) 0),(8,.bool false)]) (λe=>PN x c b w lf E2 sy e) none (λ_ m=>m) v7 v7 v7 (λq j=>⟨ak.y4 j.x2.drew (ag J) rfl rfl,λ_ m=>by cases m⟩) v7 a4 (λe=>v7) (λe=>v7) (λe E a2 bb bs H=>?_);obtain⟨g,rfl⟩:∃g,e=some g:=cV.1 (a2 9 (Nat.le_of_ble_eq_true v7) (d9 (k:=7) v7));replace H:=J.Wb H (λD ⟨A,a,y,_⟩=>by simp at a;rcases a with rfl|rfl<;>cases y);replace H:ab w z8 (Bp x c b w lf E2 sy g) [] E.z E:=H;change aF _ _ _ _ E (ao (Bp x c b w lf E2 sy g)) _ [y6 15] ⟨[(0,pt b 0),(1,i6 ya),(5,pt w.z 0),(6,z7),(7,pt g 0),(8,.bool false)],Bp x c b w lf E2 sy g,[],E.z⟩;refine z6 14 (dz 4 256) [0,1,5,6,7] [tT] [] [y6 245,y6 31] (Bp x c b w lf E2 sy g) [] E.z ?_;refine B1 [] [z7] [] ?_;intro q j;exact⟨rfl,(ab.A0 H j).x2⟩
theorem GP(N S c:Int)(d:3<=N∧N<=6∧1<=S∧S<=8)(h:0<=c∧c<N-1)(w:World):aC 82 #[.agg #[i6 N,i6 S],i6 c,i6 (-1)] w (bf (bO_ true) w):=by
 refine cH (S:=z8) (n:=26) func82 (ab.none w _) ?_;refine z6 11 (dz 3 33556480) [1,2,6,8] [] [(w.z,0,2)] [.ops [1,0] [1,2],.code [1,1]] [⟨w.z,23,true,[i6 N,i6 S]⟩] [] (w.z+1) ?_;refine DV (i6 (N-1)) _ _ (some 9) [] tI rfl (λb a=>eG N S d b) λe f=>?_;refine z6 25 (dz 18 0x31110311031110000) [6] (rE 4 (dT ((c:Int)>=0))++rE 3 (dT ((c:Int)<(N-1)))++[tT,tT,tT,tT]) [] [y6 15] [⟨w.z,23,true,[i6 N,i6 S]⟩] [] e ?_;refine B1 [] [bO_ (decide (((-1):Int)<=(N-1)))] [] ?_;intro b a;exact⟨dk (dc yq),a.x2⟩
def Bu:aH:=[1,1,0,1,0,1,1,1,0,0]
def GQ:aH:=[1,1,0,1,0,1,1,1,0,1]
section
variable (N S c:Int)(w:World)
@[simp] def rF:ax:=[⟨w.z,23,true,[i6 N,i6 S]⟩]
def SK:bu:=[(1,i6 c),(3,pt w.z 0),(6,z7),(7,z7),(8,i6 0)]
def JJ:List (Option Value):=[some (i6 c),none,some (i6 c),some (i6 (c+1)),some (pt w.z 0),some (i6 N),some (i6 ((c+1)%N)),none,none,none,some (i6 0)]
def JK:List (ax):=[rF N S w]
def JM:List (bi):=[none,none,none,none,none,none,none,none,none,none,none]
def qr(z2:Nat)(e:Nat):Prop:=eQ (wpOp prog (aj (aa (al f49) Bu)) (sem prog (al f49) (bodyPost prog f49 (λf a=>∃b d,f=.returned (.tuple #[yt (ae b) 1 1,yt (ae d) 1 1,i6 0])∧ah a w.z 3 1 (ae b) 1 1 [i6 c]∧ah a w.z 3 1 (ae d) 1 1 [i6 ((c+1)%N)]∧au z8 w a)) [.code GQ,.zq 0,y6 15])) [] 34 (aj (aa (al f49) Bu)) (J3 (aj (aa (al f49) Bu)) (SK c w) e) (JM) 0 (MG w z8 (JK N S w) [] z2) (ao (rF N S w)) (PvG (JJ N c w) (sf z2 [(1,3,1,[i6 c]),(8,3,1,[i6 c]),(7,3,1,[i6 ((c+1)%N)]),(9,3,1,[i6 ((c+1)%N)])])) e
end
theorem GR(N S c:Int)(C:3<=N∧N<=6∧1<=S∧S<=8)(h:0<=c∧c<N-1)(w:World):aC 49 #[.agg #[i6 N,i6 S],i6 c,i6 (-1)] w (λe q=>∃b f,e=.returned (.tuple #[yt (ae b) 1 1,yt (ae f) 1 1,i6 0])∧ah q w.z 3 1 (ae b) 1 1 [i6 c]∧ah q w.z 3 1 (ae f) 1 1 [i6 ((c+1)%N)]∧au z8 w q):=by
 refine cH (S:=z8) (n:=34) func49 (ab.none w _) ?_;refine z6 16 (dz 7 8590458880) [1,2,3,6,7,8,9,10,11] [] [(w.z,0,2)] [.ops (Ac 12) [3,4],y6 13,.code [1,1]] (rF N S w) [] (w.z+1) ?_;refine DV (bO_ true) _ _ (some 12) [] tI rfl (λz m=>GP N S c C h z) λa X=>?_;refine Aq 27 (dz 10 0x1000000000) [1,3,6,7,8] [fF,oE ((((-1):Int)==c)=false) (cw.2 yq),tT] [] [.code Bu,.code GQ,.zq 0,y6 15] ⟨[(1,i6 c),(3,pt w.z 0),(6,z7),(7,z7),(8,i6 0)],rF N S w,[],a⟩ ?_;have M:qr N S c w a 1:=qP (h:=y2) (ob:=[]) (rs:=[]) (e:=3) (L:=1) (l:=[i6 c]) v7 v7 v7 v7 (λy=>v7) trivial;have O:qr N S c w a 7:=qP (h:=y2) (ob:=[]) (rs:=[]) (e:=3) (L:=1) (l:=[i6 ((c+1)%N)]) v7 v7 v7 v7 (λy=>v7) trivial;have P:qr N S c w a 8:=xP (k:=1) (d:=25) (show 1∈_ from aS (i:=0) v7) v7 v7 v7 v7 v7 (λo=>v7) (λo=>v7);have Q:qr N S c w a 9:=xP (k:=7) (d:=31) (show 7∈_ from aS (i:=0) v7) v7 v7 v7 v7 v7 (λo=>v7) (λo=>v7);have K:∀B∈(WU [0,2,4,10]++[⟨3,HA,[JL (c+1)],[]⟩,rG 5 0 0 1 w.z,⟨6,HA,[oE ((0:Int)<=(c+1)∧(0:Int)<N)],[]⟩]:List jU),qr N S c w a B.i:=dP v7 _ (λy=>v7);refine Fr (vs:=JJ N c w) (ms:=JK N S w) (Dt:=JM) (J:=0) (V9:=[(1,i6 c),(8,i6 0)]) (Ex:=rF N S w) (sf a [(1,3,1,[i6 c]),(8,3,1,[i6 c]),(7,3,1,[i6 ((c+1)%N)]),(9,3,1,[i6 ((c+1)%N)])]) [1,8] 8 6 9 7 v7 v7 v7 (pN (by intro R g;simp at g;subst g;simp;omega)) (dW K [1,7,8,9] ⟨M,O,P,Q,tI⟩ v7) v7 v7 rfl (gV v7) (gV v7) v7 v7 v7 v7 v7 (λU T p ⟨D,u,b,x,I,r⟩ ⟨E,v,f,g,H,s⟩ W F=>?_);injection (show some (3,1,[i6 c])=some D from u)with u;subst u;subst I;injection (show some (3,1,[i6 ((c+1)%N)])=some E from v)with v;subst v;subst H;replace r:A2 p b 3 [i6 c]:=r;replace s:A2 p f 3 [i6 ((c+1)%N)]:=s;replace x:a<=b:=x;replace g:a<=f:=g;refine z6 3 [] [1,6,7,8] [] [] [.code GQ,.zq 0,y6 15] (rF N S w) [] p.z ?_;refine B1 [] [yt (ae b) 1 1,yt (ae f) 1 1,i6 0] [] ?_;intro z m;exact⟨b,f,rfl,fk yq (r.x2 m.x2 (λ⟨A,j,G,t⟩=>by simp at j;subst j;simp at t;omega)) rfl yq,fk yq (s.x2 m.x2 (λ⟨A,j,G,t⟩=>by simp at j;subst j;simp at t;omega)) rfl yq,(F.A0 m).x2⟩
def Ek(L:ct)(a:Nat)(cp:Nat)  (m:Nat) (st:St):Prop:=
 ∃(i:Nat)(z:Nat),m+i=L.length∧st=⟨[(4,bO_ false),(11,yt (ae a) L.length cp),(12,i6 ((L.length:Nat):Int)),(13,i6 (i:Int))],[],[],z⟩
theorem j5(L:ct)(b cp:Nat)(m:∀c∈L,c.size=16)(u:L.length<=100)(w:World)(q:b<w.z)(o:∀(e:Nat)(v:Value),(ba L)[e]?=some v->w.cell? ⟨b,0+e,none⟩=some v):aC 108 #[yt (ae b) L.length cp,i6 (L.length:Int)] w (bf (bO_ true) w):=by
 refine cH (S:=z8) (n:=21) func108 (ab.none w _) ?_;refine Aq 25 (dz 9 0) [4,11,12,13] [oE ((((L.length:Nat):Int)!=(L.length:Int))=false) (c8.2 rfl)] [] [y6 58,.zq 0,y6 15] ⟨[(4,.bool false),(11,.slice (ae b) L.length cp),(12,i6 ((L.length:Nat):Int)),(13,i6 0)],[],[],w.z⟩ ?_;refine ge (Ek L b cp) L.length v7 ⟨0,_,yq,rfl⟩ ?_;rintro j _ ⟨a,f,x,rfl⟩ i l;by_cases k:a<L.length
 rotate_left
 ·skip;refine z6 14 (dz 3 0) [4] [dF (((a:Int):Int)<((L.length:Nat):Int))] [] [y6 31] [] [] f ?_;refine B1 [] [bO_ true] [] ?_;intro t p;exact⟨rfl,p.x2⟩
 obtain⟨c,g⟩:∃c,L[a]?=some c:=⟨_,cx k⟩;have r:=m c (aS g);refine aD [⟨b,0+a*1,[sT c]⟩] (λ_ s h=>?_) ?_
 ·simp only[bj,cv,or_false]at h;subst h;exact⟨λd=>d,q,ju o g⟩
 refine Aq 31 [y2,FN,HA,⟨false,0,[⟨true,0,0,1⟩]⟩,y2,y2,y2,y2,y2,HA,y2] [4,11,12,13] [dT (((a:Int):Int)<((L.length:Nat):Int)),oE ((0:Int)<=(a:Int)∧(a:Int)<((L.length:Nat):Int)),oE (((c.size:Int)!=16)=false) (c8.2 (by rw[r];rfl)),JL ((a:Int)+1)] [(b,0+a*1,1)] [.inv i,.zq 0,y6 15] ⟨[(4,bO_ false),(11,yt (ae b) L.length cp),(12,i6 ((L.length:Nat):Int)),(13,i6 ((a:Int)+1))],[],[⟨b,0+a*1,[sT c]⟩],f⟩ ?_;refine aD [] (λ_ _ d=>by cases d) ?_;exact l (j-1) _ yq ⟨a+1,_,yq,by rw[<-aW a]⟩
def eu(n:Nat)(b:Int):bB:=((List.range n).map λa:Nat=>(a:Int)).filter λa=>a != b
variable {n:Nat}{b:Int}(N S c o:Int)
theorem zB(h:¬(n:Int)=b):eu (n+1) b=eu n b++[(n:Int)]:=by
 simp[eu,List.range_succ,h]
theorem zA(h:(n:Int)=b):eu (n+1) b=eu n b:=by
 simp[eu,List.range_succ,h]
theorem tx(n:Nat)(b:Int):(eu n b).length<=n:=by
 have c:=List.length_filter_le (λa=>a != b) ((List.range n).map λa:Nat=>(a:Int));rwa [ey,List.length_range]at c
theorem gp{k:Int}(h:k∈eu n b):(0<=k∧k<(n:Int))∧k≠b:=by
 obtain⟨a,c⟩:=dR.1 h;obtain⟨e,d,rfl⟩:=aT.1 a;have:=bn.1 d;exact⟨yq,by simpa using c⟩
def bF(N c o:Int):bB:=if o=c then eu N.toNat c else[c]
def cT(N c o:Int):bB:=if o=-1 then[(c+1)%N]else[]
def cN(N c o:Int):bB:=if o=N-1 then[]else if o=c then eu (N-1).toNat c else[c,N-1]
def dq(N c o:Int):bB:=if o=N-1 then[c]else if o=c then[N-1]else[c,N-1]
theorem ja(d:3<=N∧N<=6∧1<=S∧S<=8)(h:0<=c∧c<N-1)(f:-1<=o∧o<=N-1)(w:World):aC 82 #[.agg #[i6 N,i6 S],i6 c,i6 o] w (bf (bO_ true) w):=by
 refine cH (S:=z8) (n:=26) func82 (ab.none w _) ?_;refine z6 11 (dz 3 33556480) [1,2,6,8] [] [(w.z,0,2)] [.ops [1,0] [1,2],.code [1,1]] [⟨w.z,23,true,[i6 N,i6 S]⟩] [] (w.z+1) ?_;refine DV (i6 (N-1)) _ _ (some 9) [] tI rfl (λb a=>eG N S d b) λe g=>?_;refine z6 25 (dz 18 0x31110311031110000) [6] (rE 4 (dT ((c:Int)>=0))++rE 3 (dT ((c:Int)<(N-1)))++rE 4 (dT ((o:Int)>=(-1)))) [] [y6 15] [⟨w.z,23,true,[i6 N,i6 S]⟩] [] e ?_;refine B1 [] [bO_ (decide ((o:Int)<=(N-1)))] [] ?_;intro b a;exact⟨dk (dc yq),a.x2⟩
def V2(b:Int)(w:World)(n:Nat)  (m:Nat) (st:St) (d:World):Prop:=
 ∃(i:Nat)(a:aY)(c:Nat)(z:Nat),m+i=n∧i<=n∧ah d w.z 3 1 a ((eu i b).length) c (ai bo (eu i b))∧st=⟨[(1,i6 b),(4,z7),(5,yt a ((eu i b).length) c),(7,i6 (n:Int)),(8,i6 (i:Int))],[],[],z⟩
theorem sv(n:Nat)(b:Int)(W:n<=6)(w:World):aC 83 #[i6 (n:Int),i6 b] w (λD j=>∃s y,D=.returned (yt s (eu n b).length y)∧ah j w.z 3 1 s (eu n b).length y (ai bo (eu n b))∧au z8 w j):=by
 refine cH (S:=z8) (n:=20) func83 (ab.none w _) ?_;refine Aq 18 (dz 4 0) [1,4,5,7,8] [] [] [y6 58,.zq 0,y6 15] ⟨[(1,i6 b),(4,z7),(5,z7),(7,i6 (n:Int)),(8,i6 0)],[],[],w.z⟩ ?_;refine bm (w:=w) (S':=λ_=>False) (V2 b w n) n v7 (λU c=>⟨⟨0,none,0,_,yq,yq,ah.nil _ _ _ _,rfl⟩,c⟩) ?_;rintro t _ g ⟨a,d,e,T,ac,X,r,rfl⟩ i k A;by_cases Z:a<n
 rotate_left
 ·skip;refine z6 15 (dz 4 0) [4] [dF (((a:Int):Int)<(n:Int))] [] [y6 31] [] [] g.z ?_;refine B1 [] [yt d ((eu a b).length) e] [] ?_;intro B c;obtain rfl:a=n:=by omega
  exact⟨d,e,rfl,r.kT c i,(ab.A0 i c).x2⟩
 have ad:=tx a b;by_cases h:(a:Int)=b
 ·skip;refine Aq 30 (dz 10 8589934608) [1,4,5,7,8] [dT (((a:Int):Int)<(n:Int)),oE (((a:Int)!=b)=false) (c8.2 h),JL ((a:Int)+1)] [] [.inv k,.zq 0,y6 15] ⟨[(1,i6 b),(4,z7),(5,yt d ((eu a b).length) e),(7,i6 (n:Int)),(8,i6 ((a:Int)+1))],[],[],g.z⟩ ?_;rw[<-aW a];intro l o m c;exact A (t-1) _ l o yq ⟨a+1,d,e,_,yq,yq,by rw[zA h];exact(r.kT c i),by rw[zA h]⟩ m (ab.A0 i c)
 refine Aq 28 (dz 11 268435472) [1,4,5,7,8,14,16] [dT (((a:Int):Int)<(n:Int)),oE (((a:Int)!=b)=true) (bne_iff_ne.2 h)] [] [.ops (Ac 14950) [3,4],.zq 1,y6 935,.inv k,.zq 0,y6 15] ⟨[(1,i6 b),(4,z7),(5,yt d ((eu a b).length) e),(7,i6 (n:Int)),(8,i6 (a:Int)),(14,yt d ((eu a b).length) e),(16,yt (ae g.z) 1 1)],[⟨g.z,3,true,[i6 (a:Int)]⟩],[],g.z+1⟩ ?_;refine dE (w:=w) (S':=z8) (Y:=aO) (dst:=some 17) (x:=Builtin.append_ #[25,25] 25 #[yt d ((eu a b).length) e,yt (ae g.z) 1 1]) (λf=>yt f.1 ((eu a b).length+1) f.2) [] (λf I=>ah I w.z 3 1 f.1 ((eu a b).length+1) f.2 (ai bo (eu a b++[(a:Int)]))) (λf=>[(17,yt f.1 ((eu a b).length+1) f.2),(1,i6 b),(4,z7),(5,yt d ((eu a b).length) e),(7,i6 (n:Int)),(8,i6 (a:Int)),(14,yt d ((eu a b).length) e),(16,yt (ae g.z) 1 1)]) v7 v7 (λ_=>rfl) (λB c=>?_) (λf H O C=>?_)
 ·have p:=(r.kT c i);have q:=(ab.A0 i c);obtain⟨G,N,j,J,z,K,V⟩:=ce (P:=prog) B w.z 25 25 3 (i6 0) 1 8 d ((eu a b).length) e (ai bo (eu a b)) ⟨g.z,0,none⟩ 1 1 [i6 (a:Int)] v7 v7 v7 (by decide) p rfl (λR x L=>by rw[bY,bG];exact(c.at_ 0 rfl).at_ L) (aU v7) yq (by decide) q.x2.size;rw[show[i6 (a:Int)]=bo (a:Int)from rfl,eU]at z;exact⟨(G,N),j,J,z,(q.sub (Ex:=[]) z1).A3 (λ_ E=>E) K (λF M=>.inr (p.own F M).1) (bI (q.sub (Ex:=[]) z1) (bW p) rfl)⟩
 obtain⟨u,v⟩:=f;have Q:=O;refine Aq 10 (dz 3 32) [1,4,5,7,8] [JL ((a:Int)+1)] [] [.inv k,.zq 0,y6 15] ⟨[(1,i6 b),(4,z7),(5,yt u ((eu a b).length+1) v),(7,i6 (n:Int)),(8,i6 ((a:Int)+1))],[],[],H.z⟩ ?_;rw[<-aW a];intro l o m c;exact A (t-1) _ l o yq ⟨a+1,u,v,_,yq,yq,by rw[zB h];simp only[bM,List.length_singleton];exact(Q.kT c C),by rw[zB h];simp only[bM,List.length_singleton];rfl⟩ m (ab.A0 C c)
@[simp] def Bv(N:Int)(S:Int)(w:World):ax:=[⟨w.z,23,true,[i6 N,i6 S]⟩]
theorem El(v:3<=N∧N<=6∧1<=S∧S<=8)(h:0<=c∧c<N-1)(y:-1<=o∧o<=N-1)(C:o=c)(w:World):aC 49 #[.agg #[i6 N,i6 S],i6 c,i6 o] w (λk f=>∃d e j m,k=.returned (.tuple #[yt d (bF N c o).length e,yt j (cT N c o).length m,i6 0])∧ah f w.z 3 1 d (bF N c o).length e (ai bo (bF N c o))∧ah f w.z 3 1 j (cT N c o).length m (ai bo (cT N c o))∧au z8 w f):=by
 refine cH (S:=z8) (n:=34) func49 (ab.none w _) ?_;refine z6 16 (dz 7 8590458880) [1,2,3,6,7,8,9,10,11] [] [(w.z,0,2)] [.ops (Ac 12) [3,4],y6 13,.code [1,1]] (Bv N S w) [] (w.z+1) ?_;refine DV (bO_ true) _ _ (some 12) [] tI rfl (λg b=>ja N S c o v h y g) λA E=>?_;refine z6 25 (dz 10 0x1000801000000) [1,6,7,8,19,20] [fF,oE ((o==c)=true) (dC.2 yq)] [(w.z,0,1)] [.ops (Ac 468) [3,4,5,6],y6 469,.zq 0,y6 15] (Bv N S w) [] A ?_;refine Ip (w:=w) (S':=z8) (Y:=aO) (λa=>yt a.1 ((eu N.toNat c).length) a.2) (λa=>Bv N S w) (λa r=>ah r w.z 3 1 a.1 (eu N.toNat c).length a.2 (ai bo (eu N.toNat c))) (v7:_=some (83,[i6 N,i6 c],some 21,[])) tI (λg b=>?_) (λa q B i=>?_)
 ·have l:=sv (N.toNat) c yq g;rw[show((N.toNat:Nat):Int)=N by omega]at l;refine l.mono λk f z=>?_;obtain⟨p,s,u,t,x⟩:=z;exact⟨(p,s),u,t.below b.x2.size,b.A3 (λ_ h=>h) x (λ_ h=>h.elim) (λ_ _ h=>h)⟩
 obtain⟨d,e⟩:=a;refine z6 7 (dz 3 0) [1,6,7,8] [] [] [y6 469,.zq 0,y6 15] (Bv N S w) [] q.z ?_;refine B1 [] [yt d ((eu N.toNat c).length) e,z7,i6 0] [] ?_;intro g b;unfold bF cT;rw[aA C,ay yq];exact⟨d,e,none,0,rfl,B.kT b i,ah.nil _ _ _ _,(ab.A0 i b).x2⟩
theorem Em(l:3<=N∧N<=6∧1<=S∧S<=8)(h:0<=c∧c<N-1)(m:-1<=o∧o<=N-1)(q:o≠c)(p:o≠-1)(w:World):aC 49 #[.agg #[i6 N,i6 S],i6 c,i6 o] w (λk b=>∃e i f j,k=.returned (.tuple #[yt e (bF N c o).length i,yt f (cT N c o).length j,i6 0])∧ah b w.z 3 1 e (bF N c o).length i (ai bo (bF N c o))∧ah b w.z 3 1 f (cT N c o).length j (ai bo (cT N c o))∧au z8 w b):=by
 refine cH (S:=z8) (n:=34) func49 (ab.none w _) ?_;refine z6 16 (dz 7 8590458880) [1,2,3,6,7,8,9,10,11] [] [(w.z,0,2)] [.ops (Ac 12) [3,4],y6 13,.code [1,1]] [⟨w.z,23,true,[i6 N,i6 S]⟩] [] (w.z+1) ?_;refine DV (bO_ true) _ _ (some 12) [] tI rfl (λg a=>ja N S c o l h m g) λd s=>?_;refine z6 36 (dz 15 0) [6,7,8] [fF,oE ((o==c)=false) (cw.2 yq),oE ((o==(-1))=false) (cw.2 yq)] [] [y6 31] [⟨w.z,23,true,[i6 N,i6 S]⟩,⟨d,3,true,[i6 c]⟩] [] (d+1) ?_;refine B1 [] [yt (ae d) 1 1,z7,i6 0] [] ?_;intro g a;unfold bF cT;rw[ay q,ay p];exact⟨_,_,none,0,rfl,fk yq (a.at_ 1 rfl) rfl z1,ah.nil _ _ _ _,a.x2⟩
theorem m9(b:3<=N∧N<=6∧1<=S∧S<=8)(h:0<=c∧c<N-1)(i:-1<=o∧o<=N-1)(w:World):aC 49 #[.agg #[i6 N,i6 S],i6 c,i6 o] w (λg a=>∃e j f k,g=.returned (.tuple #[yt e (bF N c o).length j,yt f (cT N c o).length k,i6 0])∧ah a w.z 3 1 e (bF N c o).length j (ai bo (bF N c o))∧ah a w.z 3 1 f (cT N c o).length k (ai bo (cT N c o))∧au z8 w a):=by
 by_cases d:o=c
 ·exact El N S c o b h i d w
 by_cases l:o=-1
 ·subst l;refine(GR N S c b h w).mono λg a ⟨r,s,m,n,p,q⟩=>?_;unfold bF cT;rw[ay d,aA rfl];exact⟨_,_,_,_,m,n,p,q⟩
 ·exact Em N S c o b h i d l w
theorem Bx(i:3<=N∧N<=6∧1<=S∧S<=8)(h:0<=c∧c<N-1)(p:-1<=o∧o<=N-1)(l:o=N-1)(w:World):aC 51 #[.agg #[i6 N,i6 S],i6 c,i6 o] w (λm d=>∃f j g k,m=.returned (.tuple #[yt f (cN N c o).length j,yt g (dq N c o).length k,i6 0])∧ah d w.z 3 1 f (cN N c o).length j (ai bo (cN N c o))∧ah d w.z 3 1 g (dq N c o).length k (ai bo (dq N c o))∧au z8 w d):=by
 refine cH (S:=z8) (n:=37) func51 (ab.none w _) ?_;refine z6 16 (dz 7 8590458880) [1,2,3,6,7,8,10,11,12] [] [(w.z,0,2)] [.ops (Ac 12) [3,4],y6 13,.code [1,1]] [⟨w.z,23,true,[i6 N,i6 S]⟩] [] (w.z+1) ?_;refine DV (bO_ true) _ _ (some 13) [] tI rfl (λb a=>ja N S c o i h p b) λq s=>?_;refine z6 10 (dz 3 33556480) [1,2,6,7,8,15] [fF] [(w.z,0,2)] [.ops (Ac 14) [1,2],y6 15] [⟨w.z,23,true,[i6 N,i6 S]⟩] [] q ?_;refine DV (i6 (N-1)) _ _ (some 16) [] tI rfl (λb a=>eG N S i b) λe t=>?_;refine z6 26 (dz 11 1048576) [1,6,7,8,9] [oE ((o==(N-1))=true) (dC.2 yq)] [] [y6 981,.zq 0,y6 31] [⟨w.z,23,true,[i6 N,i6 S]⟩,⟨e,3,true,[i6 c]⟩] [] (e+1) ?_;refine B1 [] [z7,yt (ae e) 1 1,i6 0] [] ?_;intro b a;unfold cN dq;rw[aA l,aA l];exact⟨none,0,_,_,rfl,ah.nil _ _ _ _,fk yq (a.at_ 1 rfl) rfl z1,a.x2⟩
@[simp] def By(N:Int)(S:Int)(w:World):ax:=[⟨w.z,23,true,[i6 N,i6 S]⟩]
theorem Bz(p:3<=N∧N<=6∧1<=S∧S<=8)(h:0<=c∧c<N-1)(z:-1<=o∧o<=N-1)(r:o=c)(w:World):aC 51 #[.agg #[i6 N,i6 S],i6 c,i6 o] w (λl g=>∃e f k q,l=.returned (.tuple #[yt e (cN N c o).length f,yt k (dq N c o).length q,i6 0])∧ah g w.z 3 1 e (cN N c o).length f (ai bo (cN N c o))∧ah g w.z 3 1 k (dq N c o).length q (ai bo (dq N c o))∧au z8 w g):=by
 refine cH (S:=z8) (n:=37) func51 (ab.none w _) ?_;refine z6 16 (dz 7 8590458880) [1,2,3,6,7,8,10,11,12] [] [(w.z,0,2)] [.ops (Ac 12) [3,4],y6 13,.code [1,1]] (By N S w) [] (w.z+1) ?_;refine DV (bO_ true) _ _ (some 13) [] tI rfl (λd a=>ja N S c o p h z d) λB G=>?_;refine z6 10 (dz 3 33556480) [1,2,6,7,8,15] [fF] [(w.z,0,2)] [.ops (Ac 14) [1,2],y6 15] (By N S w) [] B ?_;refine DV (i6 (N-1)) _ _ (some 16) [] tI rfl (λd a=>eG N S p d) λC H=>?_;refine z6 29 (dz 12 0x1000000000) [1,6,7,8,9,26,27] [oE ((o==(N-1))=false) (cw.2 yq),oE ((o==c)=true) (dC.2 yq)] [] [.ops (Ac 3932) [2,3,4,5,6,7],y6 3933,.zq 0,y6 31] (By N S w) [] C ?_;refine Ip (w:=w) (S':=z8) (Y:=aO) (λb=>yt b.1 ((eu (N-1).toNat c).length) b.2) (λb=>By N S w) (λb t=>ah t w.z 3 1 b.1 (eu (N-1).toNat c).length b.2 (ai bo (eu (N-1).toNat c))) (v7:_=some (83,[i6 (N-1),i6 c],some 28,[])) tI (λd a=>?_) (λb j D i=>?_)
 ·have m:=sv ((N-1).toNat) c yq d;rw[show(((N-1).toNat:Nat):Int)=(N-1)by omega]at m;refine m.mono λl g A=>?_;obtain⟨s,u,x,v,y⟩:=A;exact⟨(s,u),x,v.below a.x2.size,a.A3 (λ_ h=>h) y (λ_ h=>h.elim) (λ_ _ h=>h)⟩
 obtain⟨e,f⟩:=b;refine z6 9 (dz 5 0) [1,6,7,8,9] [] [] [y6 3933,.zq 0,y6 31] [⟨w.z,23,true,[i6 N,i6 S]⟩,⟨j.z,3,true,[i6 (N-1)]⟩] [] (j.z+1) ?_;refine B1 [] [yt e ((eu (N-1).toNat c).length) f,yt (ae j.z) 1 1,i6 0] [] ?_;intro d a;unfold cN dq;rw[ay yq,aA r,ay yq,aA r];have F:=i.x2.size;exact⟨e,f,_,_,rfl,D.kT a i,fk yq (a.at_ 1 rfl) rfl z1,(ab.A0 i a).x2⟩
theorem BA(i:3<=N∧N<=6∧1<=S∧S<=8)(h:0<=c∧c<N-1)(q:-1<=o∧o<=N-1)(m:o≠N-1)(l:o≠c)(w:World):aC 51 #[.agg #[i6 N,i6 S],i6 c,i6 o] w (λp e=>∃f j g k,p=.returned (.tuple #[yt f (cN N c o).length j,yt g (dq N c o).length k,i6 0])∧ah e w.z 3 1 f (cN N c o).length j (ai bo (cN N c o))∧ah e w.z 3 1 g (dq N c o).length k (ai bo (dq N c o))∧au z8 w e):=by
 refine cH (S:=z8) (n:=37) func51 (ab.none w _) ?_;refine z6 16 (dz 7 8590458880) [1,2,3,6,7,8,10,11,12] [] [(w.z,0,2)] [.ops (Ac 12) [3,4],y6 13,.code [1,1]] [⟨w.z,23,true,[i6 N,i6 S]⟩] [] (w.z+1) ?_;refine DV (bO_ true) _ _ (some 13) [] tI rfl (λd a=>ja N S c o i h q d) λr t=>?_;refine z6 10 (dz 3 33556480) [1,2,6,7,8,15] [fF] [(w.z,0,2)] [.ops (Ac 14) [1,2],y6 15] [⟨w.z,23,true,[i6 N,i6 S]⟩] [] r ?_;refine DV (i6 (N-1)) _ _ (some 16) [] tI rfl (λd a=>eG N S i d) λb u=>?_;refine z6 39 (dz 19 0) [6,7,8] [oE ((o==(N-1))=false) (cw.2 yq),oE ((o==c)=false) (cw.2 yq)] [] [y6 63] [⟨w.z,23,true,[i6 N,i6 S]⟩,⟨b,3,true,[i6 c,i6 (N-1)]⟩,⟨b+1,3,true,[i6 c,i6 (N-1)]⟩] [] (b+2) ?_;refine B1 [] [yt (ae b) 2 2,yt (ae (b+1)) 2 2,i6 0] [] ?_;intro d a;unfold cN dq;rw[ay m,ay l,ay m,ay l];exact⟨_,_,_,_,rfl,fk yq (a.at_ 1 rfl) rfl z1,fk yq (a.at_ 2 rfl) rfl z1,a.x2⟩
theorem iz(a:3<=N∧N<=6∧1<=S∧S<=8)(h:0<=c∧c<N-1)(b:-1<=o∧o<=N-1)(w:World):aC 51 #[.agg #[i6 N,i6 S],i6 c,i6 o] w (λl d=>∃e g f i,l=.returned (.tuple #[yt e (cN N c o).length g,yt f (dq N c o).length i,i6 0])∧ah d w.z 3 1 e (cN N c o).length g (ai bo (cN N c o))∧ah d w.z 3 1 f (dq N c o).length i (ai bo (dq N c o))∧au z8 w d):=by
 by_cases k:o=N-1
 ·exact Bx N S c o a h b k w
 by_cases j:o=c
 ·exact Bz N S c o a h b j w
 ·exact BA N S c o a h b k j w
def dK(n:Nat)(o sn e:Int):List (Int×ck):=(eu n o).map λa=>(a,eC sn e)
variable (x:am)(c:CM)(L:List ar)(pb v8 n:Nat)(ya:Int)
theorem vw(o sn e:Int):(dK n o sn e).length<=n:=by rw[dK,ey];exact tx n o
theorem O9{n:Nat}{o sn e:Int}(h:¬(n:Int)=o):dK (n+1) o sn e=dK n o sn e++[((n:Int),eC sn e)]:=by simp[dK,zB h]
theorem Pa{n:Nat}{o sn e:Int}(h:(n:Int)=o):dK (n+1) o sn e=dK n o sn e:=by simp[dK,zA h]
section
variable (x:am)(pb:Nat)(f:Value)(n b d:Nat)
def Ut:av:=[i6 1,i6 0,i6 x.ep]++rp 5 (i6 0)++[sT ⟨#[]⟩]
@[simp] def AK(v0:Value)(b:Nat)(d:Nat):ax:=[bh pb {x with nx:=.func (.func 114) #[pt pb 0] #[],lg:=false,kn:=yt (ae b) n n,rc:=yt (ae d) n n,ak:=v0}]
@[simp] def Gs:ax:=[bh pb {x with nx:=.func (.func 114) #[pt pb 0] #[],lg:=false,ak:=f}]
@[simp] def Pb:ax:=[bh pb {x with nx:=.func (.func 114) #[pt pb 0] #[],lg:=false,kn:=yt (ae b) n n,ak:=f}]
@[simp] def Pd(a:Value)(n:Nat)(b:Nat)(d:Nat):ax:=[bh pb {x with nx:=.func (.func 114) #[pt pb 0] #[],lg:=false,kn:=yt (ae b) n n,rc:=yt (ae d) n n,ak:=a}]
def Vw(c:CM)(pb:Nat)(v8:Nat)(ya:Int)(L:List ar)(n:Nat)(b:Nat)(d:Nat)(m:Nat)(st:St)(a:World):Prop:=
 ∃(i:Nat)(v0:Value)(z:Nat),m+i=n∧i<=n∧bq a v8 x.lb x.cb (HX c ya (dK i x.ou x.sn x.ep)) (L++bc ya c.last (dK i x.ou x.sn x.ep)) v0∧ah a v8 4 1 (ae b) n n (ai ez (List.replicate n false))∧ah a v8 61 10 (ae d) n n (ai aZ.cells (List.replicate n fI))∧st=⟨[(0,pt pb 0),(1,i6 ya),(33,i6 x.N),(34,i6 (i:Int))],AK x pb n v0 b d,[],z⟩
end
theorem me(a0:x.N=(n:Int))(cm:3<=x.N∧x.N<=6)(a4:0<=ya∧ya<=1099511627776)(cn:0<=c.last∧c.last+6<1099511627776)(cl:L.length<=20)(w:World)(a8:aP w v8 pb x c L)(D:v8<=w.z):aC 90 #[pt pb 0,i6 ya] w (λH k=>∃aq aR,H=Jx∧aP k v8 pb ({x with nx:=.func (.func 114) #[pt pb 0] #[],lg:=false,kn:=yt (ae aq) n n,rc:=yt (ae aR) n n}) (HX c ya (dK n x.ou x.sn x.ep)) (L++bc ya c.last (dK n x.ou x.sn x.ep))∧ah k v8 4 1 (ae aq) n n (ai ez (List.replicate n false))∧ah k v8 61 10 (ae aR) n n (ai aZ.cells (List.replicate n fI))∧au (be [141] v8 x.lb pb x.cb w) w k):=by
 obtain⟨v,a1,a7⟩:=a8;have bb:=aw a1;refine cH (S:=(λad=>ad=pb)) (n:=55) func90 (ab.D1 a1) ?_;have C:3<=n∧n<=6:=by omega
 refine z6 8 (dz 3 0) [0,1,5,7] [] [] [.ops [0] [3],.code [1]] [bh pb {x with ak:=v}] [] w.z ?_;refine Ip (w:=w) (S':=bL [141] v8 x pb w) (Y:=Value) (λf=>.tuple #[]) (λf=>Gs x pb f) (λf i=>bq i v8 x.lb x.cb ({c with zL:=[]}) L f) (v7:_=some (53,[pt pb 0,.func (.func 114) #[pt pb 0] #[]],some 8,[])) tI (λl e=>?_) (λf a5 b1 a3=>?_)
 ·have h:=(e.wide (S':=bL [141] v8 x pb w) (λ_ g=>.inl g));have o:=(a7.y4 (es:=[98]) e.x2 (λad a9=>by subst a9;exact⟨98,z1,bb⟩) rfl rfl rfl);have z:aP l v8 pb ({x with ak:=v}) c L:=⟨_,e.at_ 0 rfl,o⟩;refine(fR (.func 114) #[pt pb 0] #[] z).mono λH k U=>?_;obtain⟨R,⟨M,O,V⟩,t⟩:=U;have y:=z.T' (es:=[]);exact⟨M,R,V,h.HS t (bv h.x2 rfl) O (bQ e y rfl)⟩
 have bd:=b1;refine Aq 12 (dz 6 0x1000800000) [0,1,9,14] [] [(pb,0,1)] [.ops [1,0] [6,7,8,9,10],.code [1,1]] ⟨[(0,pt pb 0),(1,i6 ya),(9,pt pb 0),(14,i6 x.N)],Gs x pb f,[],a5.z⟩ ?_;refine dE (w:=w) (S':=bL [141] v8 x pb w) (Y:=Nat) (dst:=some 15) (x:=Instr.makeSlice 92 (i6 x.N) (i6 x.N)) (λb=>yt (ae b) n n) (Gs x pb f) (λb i=>bq i v8 x.lb x.cb ({c with zL:=[]}) L f∧ah i v8 4 1 (ae b) n n (ai ez (List.replicate n false))) (λb=>[(15,yt (ae b) n n),(0,pt pb 0),(1,i6 ya),(9,pt pb 0),(14,i6 x.N)]) v7 v7 (λ_=>rfl) (λl e=>?_) (λb a6 b2 T=>?_)
 ·have h:=(ab.A0 a3 e);have o:=(bd.kT e a3);obtain⟨k,p,J,q⟩:=oF (P:=prog) l 92 4 (bO_ false) 1 n 1 _ v7 v7 (Gt C.1 C.2) (x9 rfl) (by decide) yq;rw[<-a0]at p;exact⟨_,k,p,⟨(o.y4 (es:=[]) q (λ_ g=>g.elim) rfl rfl rfl),J.below (az D h.x2.size)⟩,h.A3 (λ_ g=>g) q (λ_ g=>g.elim) (λ_ _ g=>g)⟩
 obtain⟨bg,b5⟩:=b2;refine Aq 16 (dz 10 0x1000800000013908000) [0,1,19,24] [] [(pb,57,1),(pb,0,1)] [.ops (Ac 14) [6,7,8,9,10],y6 15] ⟨[(0,pt pb 0),(1,i6 ya),(19,pt pb 0),(24,i6 x.N)],Pb x pb f n b,[],a6.z⟩ ?_;refine dE (w:=w) (S':=bL [141] v8 x pb w) (Y:=Nat) (dst:=some 25) (x:=Instr.makeSlice 83 (i6 x.N) (i6 x.N)) (λd=>yt (ae d) n n) (Pb x pb f n b) (λd i=>bq i v8 x.lb x.cb ({c with zL:=[]}) L f∧ah i v8 4 1 (ae b) n n (ai ez (List.replicate n false))∧ah i v8 61 10 (ae d) n n (ai aZ.cells (List.replicate n fI))) (λd=>[(25,yt (ae d) n n),(0,pt pb 0),(1,i6 ya),(19,pt pb 0),(24,i6 x.N)]) v7 v7 (λ_=>rfl) (λl e=>?_) (λd ak b3 E=>?_)
 ·have h:=(ab.A0 T e);have o:=(bg.kT e T);have Z:=(b5.kT e T);obtain⟨k,p,J,q⟩:=oF (P:=prog) l 83 61 (.agg #[bO_ false,i6 0,i6 0,i6 0,sT ⟨#[]⟩,bO_ false,i6 0,i6 0,i6 0,sT ⟨#[]⟩]) 10 n 96 _ v7 v7 (L2 C.1 C.2) (x9 rfl) (by decide) yq;rw[<-a0]at p;exact⟨_,k,p,⟨(o.y4 (es:=[]) q (λ_ g=>g.elim) rfl rfl rfl),(Z.x2 q (λ_ _ g=>g)),J.below (az D h.x2.size)⟩,h.A3 (λ_ g=>g) q (λ_ g=>g.elim) (λ_ _ g=>g)⟩
 obtain⟨bk,b6,b7⟩:=b3;refine Aq 18 (dz 10 0x100080000013a08000) [0,1,33,34] [] [(pb,58,1),(pb,0,1)] [y6 62,.zq 0] ⟨[(0,pt pb 0),(1,i6 ya),(33,i6 x.N),(34,i6 0)],[bh pb {x with nx:=.func (.func 114) #[pt pb 0] #[],lg:=false,kn:=yt (ae b) n n,rc:=yt (ae d) n n,ak:=f}],[],ak.z⟩ ?_;have bl:bq ak v8 x.lb x.cb (HX c ya (dK 0 x.ou x.sn x.ep)) (L++bc ya c.last (dK 0 x.ou x.sn x.ep)) f:=by
  have A:({c with zL:=[]}:CM)=HX c ya (dK 0 x.ou x.sn x.ep):=by simp[dK,eu,HX,bc]
  have u:(L:List ar)=L++bc ya c.last (dK 0 x.ou x.sn x.ep):=by simp[dK,eu,bc]
  rw[<-A,<-u];exact bk
 refine bm (w:=w) (S':=bL [141] v8 x pb w) (Vw x c pb v8 ya L n b d) n v7 (λcf e=>⟨⟨0,f,_,yq,yq,bl.kT e E,b6.kT e E,b7.kT e E,rfl⟩,ab.A0 E e⟩) ?_;rintro ac _ B ⟨a,r,cb,cp,cq,Q,W,X,rfl⟩ j G aV;by_cases p:a<n
 rotate_left
 ·skip;refine Aq 10 (dz 2 0) [] [dF (((a:Int):Int)<x.N)] [] [] ⟨[],AK x pb n r b d,[],B.z⟩ ?_;obtain rfl:a=n:=by omega
  refine bN [] (v7:_=some ([],aX [])) ?_;intro l e;exact⟨b,d,rfl,⟨_,e.at_ 0 rfl,Q.kT e j⟩,W.kT e j,X.kT e j,(ab.A0 j e).x2⟩
 have co:=vw a x.ou x.sn x.ep;by_cases s:(a:Int)=x.ou
 ·skip;refine Aq 34 (dz 14 0x200013508000000010) [0,1,33,34] [dT (((a:Int):Int)<x.N),oE (((a:Int)!=x.ou)=false) (c8.2 s),JL ((a:Int)+1)] [(pb,53,1)] [.inv G,.zq 0] ⟨[(0,pt pb 0),(1,i6 ya),(33,i6 x.N),(34,i6 ((a:Int)+1))],AK x pb n r b d,[],B.z⟩ ?_;have bs:bq B v8 x.lb x.cb (HX c ya (dK (a+1) x.ou x.sn x.ep)) (L++bc ya c.last (dK (a+1) x.ou x.sn x.ep)) r:=by
   have A:(HX c ya (dK a x.ou x.sn x.ep):CM)=HX c ya (dK (a+1) x.ou x.sn x.ep):=by rw[Pa s]
   have u:(L++bc ya c.last (dK a x.ou x.sn x.ep):List ar)=L++bc ya c.last (dK (a+1) x.ou x.sn x.ep):=by rw[Pa s]
   rw[<-A,<-u];exact Q
  rw[<-aW a];intro I N K e;exact aV (ac-1) _ I N yq ⟨a+1,r,_,yq,yq,bs.kT e j,W.kT e j,X.kT e j,rfl⟩ K (ab.A0 j e)
 refine z6 38 (dz 21 0x13408000000010013508000000010) [0,1,33,34,44,45,46,52] [dT (((a:Int):Int)<x.N),oE (((a:Int)!=x.ou)=true) (bne_iff_ne.2 s)] [(pb,53,1),(pb,52,1)] [.ops (Ac 15974) [9],.zq 1,y6 999,.inv G,.zq 0] (AK x pb n r b d) [] B.z ?_;refine Ip (w:=w) (S':=bL [141] v8 x pb w) (Y:=Value) (λm=>.tuple #[]) (λm=>Pd x pb m n b d) (λm i=>bq i v8 x.lb x.cb (d6 (HX c ya (dK a x.ou x.sn x.ep)) ya (a:Int) (eC x.sn x.ep)) ((L++bc ya c.last (dK a x.ou x.sn x.ep))++[⟨(a:Int),(HX c ya (dK a x.ou x.sn x.ep)).last+1,eC x.sn x.ep,af ya,af ya⟩]) m∧ah i v8 4 1 (ae b) n n (ai ez (List.replicate n false))∧ah i v8 61 10 (ae d) n n (ai aZ.cells (List.replicate n fI))) (v7:_=some (55,[pt pb 0,i6 ya,i6 (a:Int),aE (Ut x)],some 53,[])) tI (λl e=>?_) (λm an b4 F=>?_)
 ·have h:=(ab.A0 j e);have a2:v8<=l.z:=az D h.x2.size;have o:=(Q.kT e j);have Z:=(W.kT e j);have ca:=(X.kT e j);have z:aP l v8 pb ({x with nx:=.func (.func 114) #[pt pb 0] #[],lg:=false,kn:=yt (ae b) n n,rc:=yt (ae d) n n,ak:=r}) (HX c ya (dK a x.ou x.sn x.ep)) (L++bc ya c.last (dK a x.ou x.sn x.ep)):=⟨_,e.at_ 0 rfl,o⟩;refine(gT ya (a:Int) (eC 0 x.ep) z ⟨by simp only[HX,dL];omega,by simp only[HX];omega,yq,yq⟩ (by simp only[bM,dL];omega) a2).mono λH k U=>?_;obtain⟨R,⟨M,O,V⟩,t⟩:=U;have y:=z.T' (es:=[141]);exact⟨M,R,⟨V,Z.y4 t y rfl,ca.y4 t y rfl⟩,h.HS t (bv h.x2 rfl) O (bQ e y rfl)⟩
 obtain⟨bt,b8,b9⟩:=b4;have b0:bq an v8 x.lb x.cb (HX c ya (dK (a+1) x.ou x.sn x.ep)) (L++bc ya c.last (dK (a+1) x.ou x.sn x.ep)) m:=by
  have A:(d6 (HX c ya (dK a x.ou x.sn x.ep)) ya (a:Int) (eC x.sn x.ep):CM)=HX c ya (dK (a+1) x.ou x.sn x.ep):=by rw[kZ c _ _ _ a4,O9 s]
  have u:((L++bc ya c.last (dK a x.ou x.sn x.ep))++[⟨(a:Int),(HX c ya (dK a x.ou x.sn x.ep)).last+1,eC x.sn x.ep,af ya,af ya⟩]:List ar)=L++bc ya c.last (dK (a+1) x.ou x.sn x.ep):=by rw[k7 c _ _ _ L a4,O9 s]
  rw[<-A,<-u];exact bt
 refine Aq 9 (dz 2 2) [0,1,33,34] [JL ((a:Int)+1)] [] [.inv G,.zq 0] ⟨[(0,pt pb 0),(1,i6 ya),(33,i6 x.N),(34,i6 ((a:Int)+1))],Pd x pb m n b d,[],an.z⟩ ?_;rw[<-aW a];intro I N K e;exact aV (ac-1) _ I N yq ⟨a+1,m,_,yq,yq,b0.kT e F,b8.kT e F,b9.kT e F,rfl⟩ K (ab.A0 F e)
section
variable (x:am)(pb:Nat)(ya:Int)(w:World)(v:Value)(a O:Int)(q:ck)(r:aZ)
def rx:av:=(q.cells)
def ry:av:=([i6 1,i6 a,i6 O]++r.cells)
@[simp] def AL:ax:=[bh pb {x with ak:=v},⟨w.z,59,true,rx q⟩,⟨w.z+1,63,true,ry a O r⟩]
@[simp] def Gu:ax:=[bh pb {x with ep:=a,ak:=v},⟨w.z,59,true,rx q⟩,⟨w.z+1,63,true,ry a O r⟩]
@[simp] def AM:ax:=[bh pb {x with ep:=a,ou:=O,ak:=v},⟨w.z,59,true,rx q⟩,⟨w.z+1,63,true,ry a O r⟩]
def AN:bu:=[(0,pt pb 0),(1,i6 ya),(9,pt (w.z+1) 0)]
def tz:List (Option Value):=[some (pt pb 0),some (pt pb 0),some (pt (w.z+1) 1),some (i6 a),some (pt (w.z+1) 2),some (i6 O),some (pt pb 0),some (pt pb 44),some (pt pb 52),some (.tuple #[]),some (pt pb 0),some (pt pb 44),some (pt pb 53),some (.tuple #[])]
def Jt:List (ax):=[AL x pb w v a O q r,Gu x pb w v a O q r,AM x pb w v a O q r]
def Ju:List (bi):=[none,none,none,none,none,none,none,none,none,some 0,none,none,none,some 1]
theorem Pe:∀b,opG prog (aj (aa (al f54) (Ac 52))) ⟨slG (aj (aa (al f54) (Ac 52))) (tz pb w a O) (J3 (aj (aa (al f54) (Ac 52))) (AN pb ya w) 9) (aM (aj (aa (al f54) (Ac 52))) 9),AL x pb w v a O q r,[],b⟩ 9 (oA 0 52 1)=some ([],aX [(pb,52,1)],undef,Gu x pb w v a O q r,b):=λb=>v7
theorem L3:∀b,opG prog (aj (aa (al f54) (Ac 52))) ⟨slG (aj (aa (al f54) (Ac 52))) (tz pb w a O) (J3 (aj (aa (al f54) (Ac 52))) (AN pb ya w) 13) (aM (aj (aa (al f54) (Ac 52))) 13),Gu x pb w v a O q r,[],b⟩ 13 (oA 0 53 1)=some ([],aX [(pb,53,1)],undef,AM x pb w v a O q r,b):=λb=>v7
def AO(c:CM)(pb:Nat)(v8:Nat)(ya:Int)(w:World)(v:Value)(L:List ar)(n:Nat)(a:Int)(O:Int)(q:ck)(r:aZ)(f:Nat):Prop:=eQ (wpOp prog (aj (aa (al f54) (Ac 52))) (sem prog (al f54) (bodyPost prog f54 (λg b=>∃d e,g=Jx∧aP b v8 pb ({x with nx:=.func (.func 114) #[pt pb 0] #[],lg:=false,ep:=a,ou:=O,kn:=yt (ae d) n n,rc:=yt (ae e) n n}) (HX c ya (dK n O x.sn a)) (L++bc ya c.last (dK n O x.sn a))∧ah b v8 4 1 (ae d) n n (ai ez (List.replicate n false))∧ah b v8 61 10 (ae e) n n (ai aZ.cells (List.replicate n fI))∧au (be [141] v8 x.lb pb x.cb w) w b)) [y6 53,.zq 0])) [] 40 (aj (aa (al f54) (Ac 52))) (J3 (aj (aa (al f54) (Ac 52))) (AN pb ya w) f) (Ju) 2 (MG w (λh=>h=pb) (Jt x pb w v a O q r) [] (w.z+2)) (ao (AL x pb w v a O q r)) (PvG (tz pb w a O) (λ_ _ _=>False)) f
end
theorem zx(C a O:Int)(q:ck)(r:aZ)(a3:0<a)(D:x.N=(n:Int))(N:3<=x.N∧x.N<=6)(ak:0<=ya∧ya<=1099511627776)(X:0<=c.last∧c.last+6<1099511627776)(M:L.length<=20)(w:World)(F:aP w v8 pb x c L)(V:v8<=w.z):aC 54 #[pt pb 0,i6 ya,i6 C,.agg #[i6 q.kind,i6 q.Al,i6 q.BV,i6 q.seq,i6 q.mask,i6 q.node,i6 q.oe,i6 q.os,sT q.block],.agg #[i6 1,i6 a,i6 O,bO_ r.used,i6 r.Bf,i6 r.de,i6 r.ds,sT r.block,bO_ r.op,i6 r.ie,i6 r.is,i6 r.mask,sT r.A9]] w (λo h=>∃e g,o=Jx∧aP h v8 pb ({x with nx:=.func (.func 114) #[pt pb 0] #[],lg:=false,ep:=a,ou:=O,kn:=yt (ae e) n n,rc:=yt (ae g) n n}) (HX c ya (dK n O x.sn a)) (L++bc ya c.last (dK n O x.sn a))∧ah h v8 4 1 (ae e) n n (ai ez (List.replicate n false))∧ah h v8 61 10 (ae g) n n (ai aZ.cells (List.replicate n fI))∧au (be [141] v8 x.lb pb x.cb w) w h):=by
 obtain⟨v,t,E⟩:=F;have P:=aw t;refine cH (S:=(λp=>p=pb)) (n:=40) func54 (ab.D1 t) ?_;refine Aq 23 (dz 12 0x1031010129100010028000) [0,1,9] [tT,tT,tT,tT,dT ((a:Int)>0)] [(w.z+1,0,1),(w.z+1,1,1)] [y6 52,y6 53,.zq 0] ⟨[(0,pt pb 0),(1,i6 ya),(9,pt (w.z+1) 0)],AL x pb w v a O q r,[],w.z+2⟩ ?_;have a1:AO x c pb v8 ya w v L n a O q r 9:=cu (s:=0) (v:=undef) v7 v7 v7 v7 v7 (Pe x pb ya w v a O q r) trivial;have a2:AO x c pb v8 ya w v L n a O q r 13:=cu (s:=1) (v:=undef) v7 v7 v7 v7 v7 (L3 x pb ya w v a O q r) trivial;have a0:∀B∈(WU [0,1,2,4,6,7,8,10,11,12]++[⟨3,oA 2 1 1,[],[(w.z+1,1,1)]⟩,⟨5,oA 2 2 1,[],[(w.z+1,2,1)]⟩]:List jU),AO x c pb v8 ya w v L n a O q r B.i:=dP v7 _ (λa4=>v7);refine dO (vs:=tz pb w a O) (ms:=Jt x pb w v a O q r) (Dt:=Ju) (J:=2) (V9:=[(0,pt pb 0),(1,i6 ya)]) (Ex:=AM x pb w v a O q r) (λ_ _ _=>False) [0,1] v7 v7 v7 (λ_ _ _ _ k=>k.elim) (dW a0 [9,13] ⟨a1,a2,tI⟩ v7) v7 v7 v7 (λu z=>?_);replace z:w.z+2<=u:=z;refine z6 6 (dz 2 0) [31,32] [] [] [.ops (Ac 53) [2],.zq 0] (AM x pb w v a O q r) [] u ?_;refine Ip (w:=w) (S':=bL [141] v8 x pb w) (Y:=Value×Nat×Nat) (λd=>.tuple #[]) (λd=>[bh pb {x with nx:=.func (.func 114) #[pt pb 0] #[],lg:=false,ep:=a,ou:=O,kn:=yt (ae d.2.1) n n,rc:=yt (ae d.2.2) n n,ak:=d.1},⟨w.z,59,true,rx q⟩,⟨w.z+1,63,true,ry a O r⟩]) (λd l=>bq l v8 x.lb x.cb (HX c ya (dK n O x.sn a)) (L++bc ya c.last (dK n O x.sn a)) d.1∧ah l v8 4 1 (ae d.2.1) n n (ai ez (List.replicate n false))∧ah l v8 61 10 (ae d.2.2) n n (ai aZ.cells (List.replicate n fI))) (v7:_=some (90,[pt pb 0,i6 ya],some 33,[])) tI (λi b=>?_) (λd A U j=>?_)
 ·have m:=(b.wide (S':=bL [141] v8 x pb w) (λ_ k=>.inl k));have W:v8<=i.z:=az V m.x2.size;have R:=(E.y4 (es:=[98]) b.x2 (λp G=>by subst G;exact⟨98,z1,P⟩) rfl rfl rfl);have y:aP i v8 pb ({x with ep:=a,ou:=O,ak:=v}) c L:=⟨_,b.at_ 0 rfl,R⟩;refine(me ({x with ep:=a,ou:=O,ak:=v}) c L pb v8 n ya D N ak X M i y W).mono λo h ac=>?_;obtain⟨e,g,Z,⟨H,K,ad⟩,aR,aV,I⟩:=ac;have T:=y.T' (es:=[141]);exact⟨(H,e,g),Z,⟨ad,aR,aV⟩,m.HS I (bv m.x2 rfl) K (bQ b T rfl)⟩
 obtain⟨f,e,g⟩:=d;obtain⟨Q,an,aq⟩:=U;refine Aq 5 [] [] [] [] [] ⟨[],[bh pb {x with nx:=.func (.func 114) #[pt pb 0] #[],lg:=false,ep:=a,ou:=O,kn:=yt (ae e) n n,rc:=yt (ae g) n n,ak:=f},⟨w.z,59,true,rx q⟩,⟨w.z+1,63,true,ry a O r⟩],[],A.z⟩ ?_;refine bN [] (v7:_=some ([],aX [])) ?_;intro i b;exact⟨e,g,rfl,⟨_,b.at_ 0 rfl,Q.kT b j⟩,an.kT b j,aq.kT b j,(ab.A0 j b).x2⟩
section
variable (x:am)(pb:Nat)(ya:Int)(w:World)(v:Value)(a O:Int)(q:ck)(r:aZ)
def wq:av:=(rx q)
def ws:av:=(ry a O r)
@[simp] def AP:ax:=[bh pb {x with ak:=v},⟨w.z,59,true,wq q⟩,⟨w.z+1,63,true,ws a O r⟩]
@[simp] def Gv:ax:=[bh pb {x with ep:=a,ak:=v},⟨w.z,59,true,wq q⟩,⟨w.z+1,63,true,ws a O r⟩]
@[simp] def AR:ax:=[bh pb {x with ep:=a,ou:=O,ak:=v},⟨w.z,59,true,wq q⟩,⟨w.z+1,63,true,ws a O r⟩]
def AS:bu:=[(0,pt pb 0),(1,i6 ya),(9,pt (w.z+1) 0)]
def tA:List (Option Value):=[some (pt pb 0),some (pt pb 0),some (pt (w.z+1) 1),some (i6 a),some (pt (w.z+1) 2),some (i6 O),some (pt pb 0),some (pt pb 44),some (pt pb 52),some (.tuple #[]),some (pt pb 0),some (pt pb 44),some (pt pb 53),some (.tuple #[])]
def Jv:List (ax):=[AP x pb w v a O q r,Gv x pb w v a O q r,AR x pb w v a O q r]
def Jw:List (bi):=[none,none,none,none,none,none,none,none,none,some 0,none,none,none,some 1]
theorem Pf:∀b,opG prog (aj (aa (al f95) (Ac 52))) ⟨slG (aj (aa (al f95) (Ac 52))) (tA pb w a O) (J3 (aj (aa (al f95) (Ac 52))) (AS pb ya w) 9) (aM (aj (aa (al f95) (Ac 52))) 9),AP x pb w v a O q r,[],b⟩ 9 (oA 0 52 1)=some ([],aX [(pb,52,1)],undef,Gv x pb w v a O q r,b):=λb=>v7
theorem L4:∀b,opG prog (aj (aa (al f95) (Ac 52))) ⟨slG (aj (aa (al f95) (Ac 52))) (tA pb w a O) (J3 (aj (aa (al f95) (Ac 52))) (AS pb ya w) 13) (aM (aj (aa (al f95) (Ac 52))) 13),Gv x pb w v a O q r,[],b⟩ 13 (oA 0 53 1)=some ([],aX [(pb,53,1)],undef,AR x pb w v a O q r,b):=λb=>v7
def AT(c:CM)(pb:Nat)(v8:Nat)(ya:Int)(w:World)(v:Value)(L:List ar)(n:Nat)(a:Int)(O:Int)(q:ck)(r:aZ)(f:Nat):Prop:=eQ (wpOp prog (aj (aa (al f95) (Ac 52))) (sem prog (al f95) (bodyPost prog f95 (λg b=>∃d e,g=Jx∧aP b v8 pb ({x with nx:=.func (.func 114) #[pt pb 0] #[],lg:=false,ep:=a,ou:=O,kn:=yt (ae d) n n,rc:=yt (ae e) n n}) (HX c ya (dK n O x.sn a)) (L++bc ya c.last (dK n O x.sn a))∧ah b v8 4 1 (ae d) n n (ai ez (List.replicate n false))∧ah b v8 61 10 (ae e) n n (ai aZ.cells (List.replicate n fI))∧au (be [141] v8 x.lb pb x.cb w) w b)) [y6 53,.code [1,1]])) [] 46 (aj (aa (al f95) (Ac 52))) (J3 (aj (aa (al f95) (Ac 52))) (AS pb ya w) f) (Jw) 2 (MG w (λh=>h=pb) (Jv x pb w v a O q r) [] (w.z+2)) (ao (AP x pb w v a O q r)) (PvG (tA pb w a O) (λ_ _ _=>False)) f
end
theorem FU(C a O:Int)(q:ck)(r:aZ)(a3:0<a)(D:x.N=(n:Int))(N:3<=x.N∧x.N<=6)(ak:0<=ya∧ya<=1099511627776)(X:0<=c.last∧c.last+6<1099511627776)(M:L.length<=20)(w:World)(F:aP w v8 pb x c L)(V:v8<=w.z):aC 95 #[pt pb 0,i6 ya,i6 C,.agg #[i6 q.kind,i6 q.Al,i6 q.BV,i6 q.seq,i6 q.mask,i6 q.node,i6 q.oe,i6 q.os,sT q.block],.agg #[i6 1,i6 a,i6 O,bO_ r.used,i6 r.Bf,i6 r.de,i6 r.ds,sT r.block,bO_ r.op,i6 r.ie,i6 r.is,i6 r.mask,sT r.A9]] w (λo h=>∃e g,o=Jx∧aP h v8 pb ({x with nx:=.func (.func 114) #[pt pb 0] #[],lg:=false,ep:=a,ou:=O,kn:=yt (ae e) n n,rc:=yt (ae g) n n}) (HX c ya (dK n O x.sn a)) (L++bc ya c.last (dK n O x.sn a))∧ah h v8 4 1 (ae e) n n (ai ez (List.replicate n false))∧ah h v8 61 10 (ae g) n n (ai aZ.cells (List.replicate n fI))∧au (be [141] v8 x.lb pb x.cb w) w h):=by
 obtain⟨v,t,E⟩:=F;have P:=aw t;refine cH (S:=(λp=>p=pb)) (n:=46) func95 (ab.D1 t) ?_;refine Aq 22 (dz 11 0x131010129100010028000) [0,1,9] [tT,tT,tT,tT,dT ((a:Int)>0)] [(w.z+1,0,1),(w.z+1,1,1)] [y6 52,y6 53,.code [1,1]] ⟨[(0,pt pb 0),(1,i6 ya),(9,pt (w.z+1) 0)],AP x pb w v a O q r,[],w.z+2⟩ ?_;have a1:AT x c pb v8 ya w v L n a O q r 9:=cu (s:=0) (v:=undef) v7 v7 v7 v7 v7 (Pf x pb ya w v a O q r) trivial;have a2:AT x c pb v8 ya w v L n a O q r 13:=cu (s:=1) (v:=undef) v7 v7 v7 v7 v7 (L4 x pb ya w v a O q r) trivial;have a0:∀B∈(WU [0,1,2,4,6,7,8,10,11,12]++[⟨3,oA 2 1 1,[],[(w.z+1,1,1)]⟩,⟨5,oA 2 2 1,[],[(w.z+1,2,1)]⟩]:List jU),AT x c pb v8 ya w v L n a O q r B.i:=dP v7 _ (λa4=>v7);refine dO (vs:=tA pb w a O) (ms:=Jv x pb w v a O q r) (Dt:=Jw) (J:=2) (V9:=[(0,pt pb 0),(1,i6 ya)]) (Ex:=AR x pb w v a O q r) (λ_ _ _=>False) [0,1] v7 v7 v7 (λ_ _ _ _ k=>k.elim) (dW a0 [9,13] ⟨a1,a2,tI⟩ v7) v7 v7 v7 (λu z=>?_);replace z:w.z+2<=u:=z;refine z6 7 (dz 2 0) [0,1,30,31] [] [] [.ops (Ac 106) [2],y6 107,.code [1,1]] (AR x pb w v a O q r) [] u ?_;refine Ip (w:=w) (S':=bL [141] v8 x pb w) (Y:=Value×Nat×Nat) (λd=>.tuple #[]) (λd=>[bh pb {x with nx:=.func (.func 114) #[pt pb 0] #[],lg:=false,ep:=a,ou:=O,kn:=yt (ae d.2.1) n n,rc:=yt (ae d.2.2) n n,ak:=d.1},⟨w.z,59,true,wq q⟩,⟨w.z+1,63,true,ws a O r⟩]) (λd l=>bq l v8 x.lb x.cb (HX c ya (dK n O x.sn a)) (L++bc ya c.last (dK n O x.sn a)) d.1∧ah l v8 4 1 (ae d.2.1) n n (ai ez (List.replicate n false))∧ah l v8 61 10 (ae d.2.2) n n (ai aZ.cells (List.replicate n fI))) (v7:_=some (90,[pt pb 0,i6 ya],some 32,[])) tI (λi b=>?_) (λd A U j=>?_)
 ·have m:=(b.wide (S':=bL [141] v8 x pb w) (λ_ k=>.inl k));have W:v8<=i.z:=az V m.x2.size;have R:=(E.y4 (es:=[98]) b.x2 (λp G=>by subst G;exact⟨98,z1,P⟩) rfl rfl rfl);have y:aP i v8 pb ({x with ep:=a,ou:=O,ak:=v}) c L:=⟨_,b.at_ 0 rfl,R⟩;refine(me ({x with ep:=a,ou:=O,ak:=v}) c L pb v8 n ya D N ak X M i y W).mono λo h ac=>?_;obtain⟨e,g,Z,⟨H,K,ad⟩,aR,aV,I⟩:=ac;have T:=y.T' (es:=[141]);exact⟨(H,e,g),Z,⟨ad,aR,aV⟩,m.HS I (bv m.x2 rfl) K (bQ b T rfl)⟩
 obtain⟨f,e,g⟩:=d;obtain⟨Q,an,aq⟩:=U;refine z6 4 [] [0,1] [] [] [y6 107,.code [1,1]] [bh pb {x with nx:=.func (.func 114) #[pt pb 0] #[],lg:=false,ep:=a,ou:=O,kn:=yt (ae e) n n,rc:=yt (ae g) n n,ak:=f},⟨w.z,59,true,wq q⟩,⟨w.z+1,63,true,ws a O r⟩] [] A.z ?_;refine B1 [] [] [] ?_;intro i b;exact⟨e,g,rfl,⟨_,b.at_ 0 rfl,Q.kT b j⟩,an.kT b j,aq.kT b j,(ab.A0 j b).x2⟩
structure Be extends OpE where
 (cb cn:Nat)
 kd:Int
 da:ByteArray
 (ed E1 z zl:Int)
 Qn:Bool
 Wf:Nat->jI
structure Xl(k:Be)(x:am):Prop where
 N:x.N=(k.n:Int)
 S:x.S=(k.S:Int)
 cb:x.cb=k.cb
 busy:x.busy=true
 kd:x.kd=k.kd
 da:x.da=k.da
 sn:x.sn=(k.sn:Int)
 cn:x.cn=(k.cn:Int)
 ed:x.ed=k.ed
 lv:∀i,i≠k.sn->x.lv i=k.Wf i
structure S2 where
 X:am->CM->Prop
 R:Nat->aZ->Prop
 L:cQ->Prop
structure HB where
 (t ta zv e ou:Int)
 fn:Nat
 P:List (Int×ck)
 brk:Bool
 T:am->List ar->aI
 (pre post:Nat->aZ->Prop)
 (X4 WA:cQ->Prop)
 sy:ar->dw
def HB.A1(p:HB):List ar:=bc p.ta p.zv p.P
def HB.last(p:HB):Int:=p.zv+(p.P.length:Int)
def dM(A:List ar)(m:Int):Prop:=∃a∈A,a.to=m
def HB.F(p:HB)(A:List ar)(m:Nat)(r:aZ):Prop:=(dM A m∧p.pre m r)∨(¬dM A m∧p.post m r)
def HB.K(p:HB)(A:List ar)(l:cQ):Prop:=(dM A 100∧p.X4 l)∨(¬dM A 100∧p.WA l)
def HB.KS(k:Be)(p:HB)(A:List ar)(W:World)(s:bK):Prop:=∃a,(dM A 100->a=p.zv)∧a<=p.last∧fH k.toOpE (p.F A) (p.K A) a W s
def HB.is(k:Be)(p:HB)(x:am)(zL:List ar)(W:World):Prop:=Xl k x∧x.nx=.func (.func p.fn) #[pt k.pb 0] #[]∧x.ep=p.e∧x.ou=p.ou∧p.T x zL W
def n3(d:Nat)(F:aI):Prop:=∀a c (T:br),F a->au T a c->(∀b,T b->¬cI [4,61,3,178,180] a b∨b<d)->F c
abbrev FO:List TypeId:=[141,4,61,178,180]
def iN(w:World)(a:Nat)(x:am)(c:CM):Prop:=A2 w a 98 (am.cells {x with ak:=yt none 0 0})∧(∀b,bO 124 141 w b x.cb c)∧x.busy=false
def Nx(k:Be)(g:S2)(N:HB->Prop)(p:HB)(R:List ar)(x:am)(c:CM)(L:List ar)(W:World):Prop:=
 (L=[]∧R≠[]∧c=⟨k.Ar,p.last,R⟩∧p.is k x R W) ∨
 (∃a,N a∧a.zv=p.last∧a.t=p.t∧a.ta=p.t∧c=⟨k.Ar,a.last,a.A1⟩∧L=a.A1∧a.is k x a.A1 W∧(R=[]∨(p.brk=true∧∀f∈R,f.to≠k.zl))∧(∀b d,b<k.n->p.post b d∨(p.brk=true∧p.pre b d)->a.F a.A1 b d)∧(∀e,p.WA e->a.K a.A1 e)) ∨
 (R=[]∧L=[]∧c=⟨k.Ar,p.last,[]⟩∧x.busy=false∧(∀h,bO 124 141 W h k.cb c)∧g.X x c∧(∀b d,b<k.n->p.post b d->g.R b d)∧∀e,p.WA e->g.L e)
def Ya(h:Int)(r:aZ):Prop:=∃a b c d,(0<=a∧a<=16777215)∧(0<=b∧b<=16777215)∧(0<=c∧c<=16777215)∧d.size=16∧(r=⟨true,a,b,c,d,false,0,0,0,⟨#[]⟩⟩∨∃f is e g,(0<=f∧f<=16777215)∧(0<=is∧is<=16777215)∧(1<=e∧e<=63)∧ByteArray.size g=16∧h<a∧r=⟨true,a,b,c,d,true,f,is,e,g⟩)
def ra(k:Be)(Q:Nat->aZ->Prop):Prop:=k.Qn=true->∀a b,a<k.n->(a:Int)≠k.zl->Q a b->Ya k.E1 b∧(b.Bf<=k.E1->Q a {b with Bf:=k.E1})
structure Stp(k:Be)(g:S2)(N:HB->Prop)(p:HB):Prop where
 len:0<p.P.length∧p.P.length<=6
 nd:p.P.Pairwise (λa b=>a.1≠b.1)
 Yb:∀o∈p.A1,(0<=o.to∧o.to<(k.n:Int))∨o.to=100
 bd:(0<=p.ta∧p.ta<=p.t∧p.t<=p.ta+1∧p.t<=1000000)∧0<=p.zv∧p.zv<=1000000000
 fn_:p.fn=54∨p.fn=114∨p.fn=84∨p.fn=112∨p.fn=95∨p.fn=80∨p.fn=120∨p.fn=149
 Bw:∀x zL,n3 k.B0 (p.T x zL)
 loc:∀(x:am)(d d':ar)(W:World),d'.to=d.to->p.T x [d] W->p.T x [d'] W
 YY:∀o∈p.A1,jJ (p.sy o)
 node:∀o∈p.A1,∀m:Nat,o.to=(m:Int)->m<k.n->o.q.Al=(k.sn:Int)∧∀r,p.pre m r->∃r',p.post m r'∧n7 o r r' (p.sy o)
 Xf:∀o∈p.A1,o.to=100->∃kq eq ND e2 o2:Int,o.q=⟨kq,(k.sn:Int),eq,0,0,ND,0,0,⟨#[]⟩⟩∧p.sy o=⟨1,e2,o2,fI⟩∧∀s:bK,s.S=k.S->p.X4 (s.NN k.sn)->∃h2 u2,p.WA ⟨e2,h2,u2,o2⟩∧oN s k.sn p.t k.Ar kq eq ND e2 h2 u2 o2
 Ys:ra k p.pre∧ra k p.post
 zed:∀(m:Nat) r,(m:Int)=k.z->p.pre m r->p.post m r
 brk:p.brk=true->k.Qn=true∧∀o∈p.A1,o.q=eC (k.sn:Int) k.E1∧o.to<(k.n:Int)∧0<=o.to∧p.ou=-1
 on:∀o∈p.A1,o.to≠k.z->∀(x:am)(lb:Nat)(Kp R:List ar)(W:World),(∀o'∈Kp++R,o'.to≠o.to∧dM p.A1 o'.to)->p.is k x (Kp++o::R) W->aP W k.B0 k.pb {x with lb:=lb} ⟨k.Ar,p.last,Kp++R⟩ []->k.B0<=W.z->k.B0<=lb ->
  aC p.fn #[pt k.pb 0,i6 p.t,i6 o.to,.agg o.q.cells.toArray,.agg (p.sy o).cells.toArray] W (λe w'=>e=Jx∧(∃x' c' L',x'.cb=k.cb∧aP w' k.B0 k.pb {x' with lb:=lb} c' L'∧Nx k g N p (Kp++R) x' c' L' w')∧au (be FO k.B0 lb k.pb k.cb W) W w')
 gone:dM p.A1 k.z->∀(ya:Int)(x:am)(lb:Nat),p.ta+8<=ya∧ya<=1000000->Xl k x->x.ep=p.e->x.ou=p.ou->(∃zL W,p.T x zL W) ->
  ∃q x1,N q∧q.zv=p.last∧q.t=ya∧q.ta=ya∧(∀m r,m<k.n->p.post m r->q.F q.A1 m r)∧(∀l,p.WA l->q.K q.A1 l)∧(∀W',q.is k x1 q.A1 W')∧x1.cb=k.cb ∧
  ∀(c:CM)(W:World),c.Ar=k.Ar->c.last=p.last->aP W k.B0 k.pb {x with lb:=lb} c []->k.B0<=W.z ->
  aC 35 #[pt k.pb 0,i6 ya,i6 k.z] W (λe w'=>e=Jx∧aP w' k.B0 k.pb {x1 with lb:=lb} ⟨k.Ar,q.last,q.A1⟩ q.A1∧au (be [141] k.B0 lb k.pb k.cb W) W w')
def ci(k:Be)(g:S2):Nat->HB->Prop
 |0=>Stp k g z8
 |a+1=>Stp k g (ci k g a)
inductive i8(k:Be)(zv:Int):bz->Prop
 |ask (o:ar) (hq:o.q=eC (k.sn:Int) k.E1) (ht:0<=o.to∧o.to<(k.n:Int)) (hz:o.to≠k.zl) (hi:1<=o.id∧o.id<=zv) (hs:k.Qn=true):i8 k zv (eV k.Ar o)
 |say (o:ar) (sy:dw) (hs:jJ sy) (ht:0<=o.to∧o.to<(k.n:Int)) (hi:1<=o.id∧o.id<=zv):i8 k zv (iB k.Ar (λ_=>sy) o)
 |mute (o:ar) (ht:o.to=k.z) (h0:0<=o.to):i8 k zv (eV k.Ar o)
def Wp(P:List bz):Nat:=(P.map λa=>bif a.an then 1 else 2).sum
structure V5(k:Be)(g:S2)(ya:Int)(n:Nat)(p:HB)(A B D zL:List ar)(ST P:List bz)(W:World)(s:bK):Prop where
 Wj:ci k g n p
 U2:∃x,ib W k.B0 k.pb x ⟨k.Ar,p.last,zL⟩∧p.is k x zL W
 perm:zL.Perm (A++(B++D))
 ne:zL≠[]
 nd:zL.Pairwise (λa b=>a.id≠b.id∧a.to≠b.to)
 Xh:∀o∈A++B,o∈p.A1∧o.to≠k.z∧p.t=ya
 XX:∀d∈D,d.to=k.z∧p.zv<d.id∧d.asked=p.ta∧dM p.A1 k.z
 st:∀l∈ST,i8 k p.zv l
 WB:P.Perm (fO k.Ar p.sy A B ST)
 KS:p.KS k A W s
 tm:p.ta<=ya∧ya<p.ta+8
def WM(k:Be)(g:S2)(ya:Int)(tk m:Nat)(P:List bz)(W:World)(s:bK):Prop:=k.B0<=W.z ∧
 ((∃b d e f h l j,V5 k g ya b d e f h l j P W s∧13*b+Wp P<=m∧(9*b:Int)+8+d.ta<=tk+ya)∨(∃c a,iN W k.pb c a∧c.cb=k.cb∧a.Ar=k.Ar∧g.X c a∧fH k.toOpE g.R g.L a.last W s∧(∀i∈P,i8 k a.last i)∧Wp P<=m))
structure oO(k:Be):Prop extends T4 k.toOpE where
 WH:1<=k.E1∧k.E1<=16777215
 WD:k.lo<=k.cb
 hz:k.z<k.n
theorem nN{t:Int}{P:List (Int×ck)}:∀{b:Int}{a:ar},a∈bc t b P->b<a.id∧a.id<=b+(P.length:Int)∧a.asked=t∧a.ES=t∧(a.to,a.q)∈P:=by
 induction P with
 |nil=>intro b a c;cases c
 |cons d k h=>
  obtain⟨i,j⟩:=d;intro b a c;rw[bc]at c;simp only[List.length_cons];rcases bj.1 c with rfl|c
  ·exact⟨by show b<b+1;omega,by show b+1<=_;omega,rfl,rfl,A4⟩
  ·obtain⟨l,m,e,f,g⟩:=h c;exact⟨yq,yq,e,f,cz _ g⟩
theorem Oa{t:Int}{P:List (Int×ck)}:∀{c:Int},P.Pairwise (λa b=>a.1≠b.1)->(bc t c P).Pairwise (λa b=>a.id≠b.id∧a.to≠b.to):=by
 induction P with
 |nil=>intro c _;exact .nil
 |cons a m j=>
  obtain⟨k,l⟩:=a;intro c d;obtain⟨g,h⟩:=List.pairwise_cons.1 d;rw[bc];refine List.pairwise_cons.2 ⟨λe i=>?_,j h⟩;obtain⟨n,o,p,q,f⟩:=nN i;exact⟨by show c+1≠e.id;omega,g _ f⟩
theorem j4{e a:Int}{r:aZ}(h:0<=e∧e<=16777215)(b:-1<=a∧a<6)(c:okB r=true)(d:r.op=false:=by rfl):jJ ⟨1,e,a,r⟩:=⟨⟨(by decide:(1:Int)<=1),(by decide:(1:Int)<=7)⟩,h,b,c,d⟩
theorem IH{F:Int}(h:0<=F∧F<=16777215):jJ ⟨2,F,0,fI⟩:=⟨⟨(by decide:(1:Int)<=2),(by decide:(2:Int)<=7)⟩,h,⟨(by decide:(-1:Int)<=0),(by decide:(0:Int)<6)⟩,rfl,rfl⟩
theorem II{F d q:Int}{B:ByteArray}(b:0<=F∧F<=16777215)(c:0<=d∧d<=16777215)(e:0<=q∧q<=16777215)(a:B.size=16):okB ⟨true,F,d,q,B,false,0,0,0,⟨#[]⟩⟩=true:=by
 simp[okB,XJ,xh,Ob,b,c,e,a];rfl
variable {F:Nat->aZ->Prop}{p:HB}{o:ar}{k:Be}{L:cQ->Prop}{l:Int}{W w d:World}{s:bK}{T:br}{x:am}
theorem HB.mem(h:o∈p.A1):p.zv<o.id∧o.id<=p.last∧o.asked=p.ta∧o.ES=p.ta∧(o.to,o.q)∈p.P:=nN h
theorem lH{A A':List ar}(h:A.Perm A')(m:Int):dM A m↔dM A' m:=⟨λ⟨o,a,b⟩=>⟨o,h.subset a,b⟩,λ⟨o,a,b⟩=>⟨o,h.symm.subset a,b⟩⟩
theorem FP{A:List ar}{m:Int}:dM (o::A) m↔o.to=m∨dM A m:=by
 simp[dM]
theorem fH.mono{k:OpE}{F':Nat->aZ->Prop}{L':cQ->Prop}{d:Int}(h:fH k F L l W s)(r:∀a b,a<k.n->F a b->F' a b)(t:∀x,L x->L' x)(u:l<=d):fH k F' L' d W s:=by
 obtain⟨f,g,i,j,m,n,⟨e,o,p⟩,q⟩:=h;exact⟨f,g,i,λa c=>r a _ c (j a c),m,t _ n,⟨e,o,Int.le_trans p u⟩,q⟩
theorem fH.x2{k:OpE}(h:fH k F L l w s)(c:au T w d)(b:∀a,T a->k.b<=a∨cI [98,124] w a):fH k F L l d s:=⟨h.1.x2 c b,h.2⟩
theorem fH.Bw{k:OpE}:W6 (λW=>fH k F L l W s):=λ_ _ _ _ a d b c=>⟨cy.Bw _ _ _ _ a.1 d b c,a.2⟩
theorem ib.WX{v8 g:Nat}{c:CM}(h:ib w v8 g x c)(f:au T w d)(b:∀a,T a->¬cI [98,124,141] w a):ib d v8 g x c:=
 ⟨h.1.x2 f (λe=>b _ e ⟨98,z1,aw h.1⟩),h.2.x2 f (λe=>b _ e ⟨124,z1,h.2.zq⟩) (λa j _ i=>b a j ⟨141,z1,i⟩)⟩
theorem iN.WX{f:Nat}{c:CM}(h:iN w f x c)(e:au T w d)(b:∀a,T a->¬cI [98,124,141] w a):iN d f x c:=
 ⟨h.1.x2 e (λi=>b _ i ⟨98,z1,aw h.1⟩),λg=>(ib.WX (v8:=g) ⟨h.1,h.2.1 g⟩ e b).2,h.2.2⟩
theorem im{v8:Nat}{e:TypeId}{z:Nat}{A:aY}{n cp:Nat}{cs:av}(h:ah w v8 e z A n cp cs)(i:au T w d)(g:∀a,T a->¬cI [4,61,3,178,180] w a∨a<v8)(f:([4,61,3,178,180]:List TypeId).contains e=true):ah d v8 e z A n cp cs:=
 h.x2 i (λa c j=>(g a j).elim (λb=>b ⟨e,by simpa using f,h.ty a c⟩) (λb=>by have:=(h.own a c).1;omega))
theorem pV{es b:List TypeId}{y:Nat}(h:cI es w y)(f:b.all (λa=>!(es.contains a))=true):¬cI b w y:=λ⟨a,c,d⟩=>by
 have e:=bE.1 f a (by simpa using c)
 exact aN (by simpa using e) d h
theorem n3.Bw{b:Nat}{F:aI}(h:n3 b F):W6 F:=λw d T k g i e f=>h w d T g i λc j=>.inl (pV (e c j) (by
 have a:=lI f
 simp only[List.all_cons,List.all_nil]
 rw[a 4 rfl,a 61 rfl,a 3 rfl,a 178 rfl,a 180 rfl]
 rfl))
theorem n3.g{b:Nat}{F:aI}(h:n3 b F):Vq F:=λw d T e m n k l=>h w d T m n λg o=>.inl (pV (k g o) (by
 have a:∀c,([98,124,141,65,59]:List TypeId).contains c=false->e.contains c=false:=λc i=>by
  cases j:e.contains c with
  |false=>rfl
  |true=>
   have f:=bE.1 l c (by simpa using j)
   rw[i]at f
   cases f
 simp only[List.all_cons,List.all_nil]
 rw[a 4 rfl,a 61 rfl,a 3 rfl,a 178 rfl,a 180 rfl]
 rfl))
theorem HB.Qx(hs:∀x zL,n3 k.B0 (p.T x zL)){zL:List ar}(h:p.is k x zL w)(c:au T w d)(b:∀a,T a->¬cI [4,61,3,178,180] w a∨a<k.B0):p.is k x zL d:=⟨h.1,h.2.1,h.2.2.1,h.2.2.2.1,hs _ _ _ _ _ h.2.2.2.2 c b⟩
theorem tl{k:OpE}(c:k.b<=k.B0):∀a,Du k W a->(¬cI [98,124,141] W a)∧a<k.B0:=λ_ b=>⟨pV b.1 rfl,by have:=b.2.2;omega⟩
theorem Stp.nd2{g:S2}{N:HB->Prop}(h:Stp k g N p):p.A1.Pairwise (λa b=>a.id≠b.id∧a.to≠b.to):=Oa h.nd
theorem ci.W2{g:S2}:∀{c:Nat},ci k g c p->∃b,Stp k g b p
 |0,a=>⟨_,a⟩
 |_+1,a=>⟨_,a⟩
theorem FQ(j:oO k)(l:o.q=eC (k.sn:Int) k.E1){r:aZ}(y:Ya k.E1 r):∃n q,(n=r∨(r.Bf<=k.E1∧n={r with Bf:=k.E1}))∧jJ q∧n7 o r n q:=by
 obtain⟨F,h,d,c,a,g,f,e,t⟩:=y;have i:=j.WH;have m:(0:Int)<=(k.sn:Int)∧(k.sn:Int)<=7:=by have:=j.Wi;have:=j.hS;omega
 rcases t with rfl|⟨z,is,s,T,x,A,v,w,u,rfl⟩
 ·by_cases p:F<=k.E1
  ·exact⟨_,⟨1,k.E1,0,⟨true,k.E1,h,d,c,false,0,0,0,⟨#[]⟩⟩⟩,.inr ⟨p,rfl⟩,j4 yq yq (II yq g f e),λb=>by rw[l];exact sm F h d k.sn k.E1 c a g f e m i p b⟩
  ·exact⟨_,⟨2,F,0,fI⟩,.inl rfl,IH a,λb=>by rw[l];exact zm F h d k.sn k.E1 c a g f e m i yq b⟩
 ·exact⟨_,⟨2,F,0,fI⟩,.inl rfl,IH a,λb=>by rw[l];exact zn F h d z is s k.sn k.E1 c T a g f e x A v w m i u b⟩
theorem xY(c:oO k)(y:k.Qn=true)(t:ra k F){v:Int}(e:o.q=eC (k.sn:Int) k.E1)(A:0<=o.to∧o.to<(k.n:Int))(w:o.to≠k.zl)(h:fH k.toOpE F L v W s)(u:k.b<=W.z)(ya:Int):aC 18 #[pt s.sb 0,i6 ya,.agg (eV k.Ar o).cells.toArray] W (λi d=>∃a b,i=.returned (.tuple #[.agg (iB k.Ar (λ_=>a) o).cells.toArray,bO_ true])∧jJ a∧fH k.toOpE F L v d b∧b.sb=s.sb∧b.pd=s.pd∧au (Du k.toOpE W) W d):=by
 have g:o.to=((o.to.toNat:Nat):Int):=by omega
 refine xX c.toT4 (G:=jJ) (m:=o.to.toNat) yq g (by rw[e];rfl) h u ya (λz f=>?_) (λ_ _ _ _ h=>h);obtain⟨j,l⟩:=t y _ _ yq (by rw[<-g];exact w) f;obtain⟨x,a,n,p,q⟩:=FQ c e j;refine⟨x,a,?_,p,q⟩;rcases n with rfl|⟨r,rfl⟩
 ·exact f
 ·exact l r
theorem Stp.YI{g:S2}{N:HB->Prop}(h:Stp k g N p)(A:List ar):ra k (p.F A):=λe b c d f l=>by
 rcases l with⟨i,a⟩|⟨i,a⟩
 ·exact⟨(h.Ys.1 e b c d f a).1,λj=>.inl ⟨i,(h.Ys.1 e b c d f a).2 j⟩⟩
 ·exact⟨(h.Ys.2 e b c d f a).1,λj=>.inr ⟨i,(h.Ys.2 e b c d f a).2 j⟩⟩
theorem i8.mono{a b:Int}{l:bz}(h:i8 k a l)(m:a<=b):i8 k b l:=by
 cases h with
 |ask o g c i d e=>exact .ask o g c i ⟨d.1,yq⟩ e
 |say o j e c d=>exact .say o j e c ⟨d.1,yq⟩
 |mute o c f=>exact .mute o c f
variable {k:Be}{g:S2}{ya:Int}{n:Nat}{p:HB}{A B D zL:List ar}{a P:List bz}{W:World}{s:bK}
theorem V5.Xc(h:V5 k g ya n p A B D zL a P W s){c:World}{T:br}(e:au T W c)(f:∀b,T b->(¬cI [98,124,141] W b)∧b<k.B0){A' B':List ar}{P':List bz}{s':bK}(i:(A'++B').Perm (A++B))(hs:p.KS k A' c s')(q:P'.Perm (fO k.Ar p.sy A' B' a)):V5 k g ya n p A' B' D zL a P' c s':=by
 obtain⟨u,t⟩:=h.Wj.W2;obtain⟨l,m,o⟩:=h.U2;exact⟨h.Wj,⟨l,m.WX e (λb d=>(f b d).1),HB.Qx t.Bw o e (λb d=>.inr (f b d).2)⟩,h.perm.trans (by rw[<-eA,<-eA];exact(i.append_right D).symm),h.ne,h.nd,λj r=>h.Xh j (i.subset r),h.XX,h.st,q,hs,h.tm⟩
theorem V5.ndA(h:V5 k g ya n p A B D zL a P W s):(A++(B++D)).Pairwise (λc b=>c.id≠b.id∧c.to≠b.to):=h.nd.perm h.perm (λh=>⟨h.1.symm,h.2.symm⟩)
theorem IQ(d:oO k)(h:V5 k g ya n p A B D zL a P W s){o:ar}{A':List ar}{P':List bz}(t:A.Perm (o::A'))(N:P'.Perm (fO k.Ar p.sy A' B a))(an:k.B0<=W.z):aC 18 #[pt s.sb 0,i6 ya,.agg (eV k.Ar o).cells.toArray] W (λm v=>∃y i,m=.returned (.tuple #[.agg (bz.cells y).toArray,bO_ true])∧y.an=true∧V5 k g ya n p A' (o::B) D zL a (P'++[y]) v i∧i.sb=s.sb∧i.pd=s.pd∧au (Du k.toOpE W) W v):=by
 obtain⟨a8,r⟩:=h.Wj.W2;have T:k.b<=W.z:=az d.hb an;have U:o∈A:=t.symm.subset A4;obtain⟨w,bt,a4⟩:=h.Xh o (cE _ U);have a3:(o::A').Pairwise (λQ M=>Q.id≠M.id∧Q.to≠M.to):=(List.pairwise_append.1 h.ndA).1.perm t (λh=>⟨h.1.symm,h.2.symm⟩);have L:¬dM A' o.to:=λ⟨aR,ac,H⟩=>((List.pairwise_cons.1 a3).1 aR ac).2 H.symm;have R:dM A o.to:=⟨o,U,rfl⟩;have K:∀j,j≠o.to->(dM A j↔dM A' j):=λj f=>by rw[lH t,FP];exact⟨λh=>h.resolve_left (λm=>f m.symm),.inr⟩
 have V:(A'++(o::B)).Perm (A++B):=List.perm_middle.trans (t.symm.append_right B);have a7:=p.mem w;have b0:=r.bd;obtain⟨Z,X,a6,u⟩:=h.KS;rcases r.Yb o w with l|l
 ·have f:o.to=((o.to.toNat:Nat):Int):=by omega
  have a2:=d.hn;obtain⟨I,J⟩:=r.node o w o.to.toNat f yq;refine(xX d.toT4 (F':=p.F A') (G:=λO=>O=p.sy o) yq f I u T ya (λx c=>?_) (λY x bg bs c=>?_)).mono λm v ⟨O,i,z,e2,C,E,F,q⟩=>?_
  ·rcases c with⟨_,c⟩|⟨c,_⟩
   ·obtain⟨a0,b,e⟩:=J x c;exact⟨a0,_,.inr ⟨by rw[<-f];exact L,b⟩,rfl,e⟩
   ·exact absurd (by rw[<-f];exact R) c
  ·have b:=K (Y:Int) yq;unfold HB.F at c ⊢;rwa [<-b]
  ·subst e2;have b:=K 100 yq;exact⟨_,i,z,rfl,h.Xc q (tl d.hb) V ⟨Z,λe=>X (b.2 e),a6,C.mono (λ_ _ _ h=>h) (λa9 aq=>by unfold HB.K at aq ⊢;rwa [<-b]) (cS _)⟩ (Ds N),E,F,q⟩
 ·obtain⟨bl,bd,bb,e2,o2,I,J,aV⟩:=r.Xf o w l;have b:=u.2.2.2.2.2.1;have S:dM A 100:=l▸R;have bk:=X S;have a5:s.S=k.S:=by rw[u.2.1];exact d.sS
  have a2:=d.hn;refine(N5 (e2:=e2) (o2:=o2) d.toT4 (L':=p.K A') ⟨l,I⟩ ⟨yq,yq,by unfold HB.last at *;have:=r.len;omega⟩ u T ya yq ?_).mono λm v ⟨i,z,C,E,F,q⟩=>?_
  ·obtain⟨H,a1,ad,ak⟩:=aV s a5 (by rcases b with b|b;exact b.2;exact absurd S b.1);exact⟨H,a1,.inr ⟨l▸L,ad⟩,a4▸ak⟩
  ·refine⟨iB k.Ar p.sy o,i,?_,rfl,h.Xc q (tl d.hb) V ⟨_,λe=>absurd e (l▸L),a7.2.1,C.mono (λj x f c=>?_) (λ_ h=>h) (cS _)⟩ (Ds N),E,F,q⟩
   ·unfold iB;rw[J];exact z
   ·have e:=K (j:Int) yq;unfold HB.F at c ⊢;rwa [<-e]
theorem i8.XK{k:Be}{zv:Int}{o:ar}(h:i8 k zv (eV k.Ar o))(m:o.to≠k.z):o.q=eC (k.sn:Int) k.E1∧(0<=o.to∧o.to<(k.n:Int))∧o.to≠k.zl∧(1<=o.id∧o.id<=zv)∧k.Qn=true:=by
 generalize b:eV k.Ar o=l at h
 cases h with
 |ask a i c n e j=>
  have d:o.to=a.to:=congrArg bz.to b;have f:o.id=a.id:=congrArg bz.id b;have g:o.q=a.q:=congrArg bz.q b;rw[d,f,g];exact⟨i,c,n,e,j⟩
 |say a p q c e=>exact Bool.noConfusion (congrArg bz.an b:false=true)
 |mute a c=>
  have d:o.to=a.to:=congrArg bz.to b;exact absurd (d▸c) m
theorem Lo(i:oO k)(h:V5 k g ya n p A B D zL a P W s){o:ar}{e P':List bz}(m:a.Perm (eV k.Ar o::e))(G:o.to≠k.z)(x:P'.Perm (fO k.Ar p.sy A B e))(y:k.B0<=W.z):aC 18 #[pt s.sb 0,i6 ya,.agg (eV k.Ar o).cells.toArray] W (λl j=>∃f d M,l=.returned (.tuple #[.agg (bz.cells f).toArray,bO_ true])∧f.an=true∧V5 k g ya n p A B D zL M (P'++[f]) j d∧d.sb=s.sb∧d.pd=s.pd∧au (Du k.toOpE W) W j):=by
 obtain⟨U,O⟩:=h.Wj.W2;have N:k.b<=W.z:=az i.hb y;obtain⟨u,Q,R,F⟩:=h.KS;have v:=h.st _ (m.symm.subset A4);have E:∀b∈e,i8 k p.zv b:=λb c=>h.st b (m.symm.subset (cz _ c));obtain⟨C,q,S,z,T⟩:=v.XK G;refine(xY i T (O.YI A) C q S F N ya).mono λl j ⟨t,d,H,I,J,K,L,r⟩=>?_;have w:=h.Xc r (tl i.hb) (.refl _) ⟨u,Q,R,J⟩ (P':=P) h.WB;refine⟨_,d,iB k.Ar (λ_=>t) o::e,H,rfl,{w with st:=λb c=>?_,WB:=?_},K,L,r⟩
 ·rcases bj.1 c with rfl|c
  ·exact .say o t I q z
  ·exact E b c
 ·refine(x.append_right _).trans ?_;unfold fO;simp only[eA];exact((List.perm_append_comm (l₁:=e)).append_left _).append_left _
variable {k:Be}{g:S2}{ya:Int}{n m tk:Nat}{p:HB}{A B D zL:List ar}{d P:List bz}{W:World}{s:bK}
theorem T7{w:World}{v8 b d lb:Nat}{x:am}{c:CM}{es:List TypeId}(h:ib w v8 d x c)(f:b<=v8)(g:b<=lb):∀a,be es v8 lb d x.cb w a->b<=a∨cI [98,124] w a:=by
 rintro a (rfl|rfl|⟨e,_⟩|⟨e,_⟩)
 ·exact .inr ⟨98,z1,aw h.1⟩
 ·exact .inr ⟨124,z1,h.2.zq⟩
 ·exact .inl yq
 ·exact .inl yq
theorem ci.split:∀{n:Nat},ci k g n p->∃d,Stp k g d p∧∀e,d e->∃a,a+1=n∧ci k g a e
 |0,b=>⟨_,b,λ_ c=>c.elim⟩
 |a+1,b=>⟨_,b,λ_ c=>⟨a,rfl,c⟩⟩
theorem Nx.Bw{N:HB->Prop}(y:∀b,N b->∃i,i+1=n∧ci k g i b)(z:∀x zL,n3 k.B0 (p.T x zL)){R:List ar}{x:am}{c:CM}{L:List ar}:RV (λW=>Nx k g N p R x c L W):=λv D s u o q=>by
 have r:∀d,s d->¬cI [4,61,3,178,180] v d∨d<k.B0:=λd A=>.inl (pV (q d A) rfl)
 rcases u with⟨a,e,f,h⟩|⟨b,a,e,f,h,j,B,l,w⟩|⟨a,e,f,h,j,l⟩
 ·exact .inl ⟨a,e,f,HB.Qx z h o r⟩
 ·obtain⟨i,_,m⟩:=y b a
  obtain⟨C,m⟩:=m.W2
  exact .inr (.inl ⟨b,a,e,f,h,j,B,HB.Qx m.Bw l o r,w⟩)
 ·exact .inr (.inr ⟨a,e,f,h,λt=>(j t).y4 o q rfl rfl,l⟩)
theorem lK(a b:List bz):Wp (a++b)=Wp a+Wp b:=by simp[Wp]
theorem tp(f:Int)(l:List ar):Wp (l.map (eV f))=2*l.length:=by
 induction l with
 |nil=>rfl
 |cons b l c=>
  have a:Wp ((b::l).map (eV f))=2+Wp (l.map (eV f)):=by simp[Wp,eV]
  rw[a,c,List.length_cons];omega
theorem DC{l:List ar}(f:ar->Bool):l.Perm (l.filter (λb=>!(f b))++l.filter f):=by
 have a:=(List.filter_append_perm f l).symm;exact a.trans List.perm_append_comm
theorem vt(n:oO k){q:HB}{j:Nat}(t:ci k g j q){x:am}{f:World}(E:ib f k.B0 k.pb x ⟨k.Ar,q.last,q.A1⟩)(J:q.is k x q.A1 f)(G:q.t=ya)(K:q.ta<=ya∧ya<q.ta+8)(hs:fH k.toOpE (q.F q.A1) (q.K q.A1) q.zv f s){Q:List bz}(D:∀l∈Q,i8 k q.zv l) :
  ∃z A H,V5 k g ya j q z [] A q.A1 H (Q++q.A1.map (eV k.Ar)) f s:=by
 obtain⟨L,h⟩:=t.W2;have r:=DC (l:=q.A1) (λb=>b.to==k.z);have R:=n.hz;have P:=n.hn;have i:∀m:Int,m≠k.z->(dM q.A1 m↔dM (q.A1.filter λb=>!(b.to==k.z)) m):=λm o=>⟨λ⟨b,a,c⟩=>⟨b,dR.2 ⟨a,by subst c;simp[o]⟩,c⟩,λ⟨b,a,c⟩=>⟨b,(dR.1 a).1,c⟩⟩;have I:¬dM (q.A1.filter λb=>!(b.to==k.z)) k.z:=λ⟨b,a,c⟩=>by
  have:=(dR.1 a).2;simp[c]at this
 refine⟨_,_,Q++(q.A1.filter (λb=>b.to==k.z)).map (eV k.Ar),t,⟨x,E,J⟩,r,λw=>?_,h.nd2,λb p=>?_,λv F=>?_,λl d=>?_,?_,⟨q.zv,λ_=>rfl,?_,hs.mono (λm y o u=>?_) (λl d=>?_) (cS _)⟩,K⟩
 ·have c:=h.len.1;have e:q.A1.length=q.P.length:=dL ..;rw[w]at e;simp at e;omega
 ·rw[dD]at p;obtain⟨a,c⟩:=dR.1 p;exact⟨a,by simpa using c,G⟩
 ·obtain⟨a,c⟩:=dR.1 F;have e:v.to=k.z:=by simpa using c
  obtain⟨B,M,C,N,O⟩:=q.mem a;exact⟨e,B,C,v,a,e⟩
 ·rcases dG.1 d with d|d
  ·exact D l d
  ·obtain⟨b,a,rfl⟩:=aT.1 d;exact .mute b (by simpa using(dR.1 a).2) (by have:=h.Yb b (dR.1 a).1;omega)
 ·unfold fO;rw[List.map_nil,List.nil_append];refine((r.map (eV k.Ar)).append_left Q).trans ?_;rw[List.map_append,<-eA,<-eA];exact(List.perm_append_comm).append_right _
 ·unfold HB.last;omega
 ·by_cases a:(m:Int)=k.z
  ·refine .inr ⟨a▸I,?_⟩;rcases u with⟨_,c⟩|⟨_,c⟩
   ·exact h.zed m y a c
   ·exact c
  ·unfold HB.F at u ⊢;rwa [<-i _ a]
 ·unfold HB.K at d ⊢;rwa [<-i 100 yq]
theorem DB(T:oO k)(h:V5 k g ya n p A B D zL d P W s){N:HB->Prop}(r:Stp k g N p)(bg:∀j,N j->∃I,I+1=n∧ci k g I j){o:ar}{B':List ar}{P':List bz}(O:B.Perm (o::B'))(a1:P'.Perm (fO k.Ar p.sy A B' d))(a2:k.B0<=W.z):aC 19 #[pt k.pb 0,i6 ya,.agg (iB k.Ar p.sy o).cells.toArray] W (λH z=>∃u R S,H=.returned (yt R (List.length u) S)∧ah z W.z 65 26 R u.length S (aJ k.Ar u)∧k.B0<=z.z∧((u=[]∧∃c3,V5 k g ya n p A B' D c3 d P' z s)∨(∃j I ak an a7,N j∧I+1=n∧u=j.A1∧j.ta=p.t∧((A=[]∧B'=[])∨p.brk=true)∧V5 k g ya I j ak [] an j.A1 a7 (P'++u.map (eV k.Ar)) z s)∨(u=[]∧A=[]∧B'=[]∧∃x c,iN z k.pb x c∧x.cb=k.cb∧c.Ar=k.Ar∧g.X x c∧fH k.toOpE g.R g.L c.last z s∧(∀t∈P',i8 k c.last t)∧c.last=p.last))∧au (be FO k.B0 W.z k.pb k.cb W) W z∧au (DA W) W z):=by
 obtain⟨x,bk,G⟩:=h.U2;have b3:o∈B:=O.symm.subset A4;obtain⟨Z,cR,b2⟩:=h.Xh o (d5 _ b3);obtain⟨y,w,cU⟩:=List.append_of_mem (h.perm.symm.subset (d5 _ (cE _ b3)));subst cU;have a9:(o::(y++w)).Pairwise (λe Q=>e.id≠Q.id∧e.to≠Q.to):=h.nd.perm List.perm_middle (λh=>⟨h.1.symm,h.2.symm⟩);obtain⟨b1,a9⟩:=List.pairwise_cons.1 a9;have K:(y++w).Perm (A++(B'++D)):=by
  have C:=List.perm_middle.symm.trans (h.perm.trans ((O.append_right D).append_left A));exact(C.trans List.perm_middle).cons_inv
 have c9:=p.mem Z;have c7:=r.len;have c6:=r.bd;have db:p.last=p.zv+(p.P.length:Int):=rfl;have c5:=T.hn;have Y:=G.1.cb;have cC:=T.hb;obtain⟨b5,c1,b4,cp⟩:=h.KS;refine(Oe (x:=x) (c:=⟨k.Ar,p.last,y++o::w⟩) (α:={ e:am×CM×List ar // e.1.cb=x.cb}) (λe=>e.1.1) (λe=>e.1.2.1) (λe=>e.1.2.2) (λe W=>Nx k g N p (y++w) e.1.1 e.1.2.1 e.1.2.2 W) FO rfl rfl (λW=>p.T x (y++o::w) W) (r.Bw _ _).g (λe=>Nx.Bw bg r.Bw) (λe=>e.2) p.fn r.fn_ y w o (p.sy o) ya bk G.1.busy G.2.1 rfl (λa q=>λH=>(b1 a (cE _ q)).1 H.symm)
  ((r.Yb o Z).imp (λh=>⟨h.1,yq⟩) .inl) T.Xt ⟨yq,yq⟩ (r.YY o Z) a2 G.2.2.2.2 (λcs cn cm cO=>?_)).mono λH z ⟨⟨⟨X,aq,u⟩,ac⟩,R,S,bs,a5,U,a6,V,cr⟩=>?_
 ·rw[eH (n:=ya) yq];have c0:∀a∈y++w,a.to≠o.to∧dM p.A1 a.to:=by
   intro a q;refine⟨λH=>(b1 a q).2 H.symm,?_⟩;rcases dG.1 (K.subset q)with v|v
   ·exact⟨a,(h.Xh a (cE _ v)).1,rfl⟩
   ·rcases dG.1 v with v|v
    ·exact⟨a,(h.Xh a (d5 _ (O.symm.subset (cz _ v)))).1,rfl⟩
    ·rw[(h.XX a v).1];exact(h.XX a v).2.2.2
  have C:=r.on o Z cR x W.z y w cs c0 ⟨G.1,G.2.1,G.2.2.1,G.2.2.2.1,cm⟩ cn cO a2;rw[b2]at C;exact C.mono λH z ⟨b7,⟨X,aq,u,b8,b9,ca⟩,cb⟩=>⟨b7,⟨⟨(X,aq,u),b8.trans Y.symm⟩,b9,ca⟩,by rw[Y];exact cb⟩
 ·dsimp only at ac bs a5 U a6;rw[Y]at V ac;have bb:=cp.x2 V (λb6 cq=>T7 (lb:=W.z) bk cC yq b6 (by rw[Y];exact cq));have cL:=az a2 V.size;have cP:aq.Ar=k.Ar:=by
   rcases a6 with⟨_,_,M,_⟩|⟨j,_,_,_,_,M,_⟩|⟨_,_,M,_⟩<;>rw[M]
  rw[cP]at a5;refine⟨u,R,S,bs,a5,cL,?_,V,cr⟩;rcases a6 with⟨rfl,v,rfl,aR⟩|⟨j,C,v,M,cA,rfl,rfl,aV,l,a0,cf⟩|⟨C,rfl,rfl,aR,E,aV,l,a0⟩
  ·refine .inl ⟨rfl,y++w,⟨h.Wj,⟨X,U,aR⟩,K,v,a9,λa q=>h.Xh a ?_,h.XX,h.st,by simpa using a1,⟨b5,c1,b4,bb⟩,h.tm⟩⟩;rcases dG.1 q with E|E
   ·exact cE _ E
   ·exact d5 _ (O.symm.subset (cz _ E))
  ·obtain⟨I,co,bl⟩:=bg j C;obtain⟨c4,da⟩:=bl.W2;have bd:∀a∈A++B',a∈y++w:=λa q=>K.symm.subset (by rw[<-eA];exact cE _ q);have L:∀a∈A++B',a∈p.A1:=λa q=>(h.Xh a (by
    rcases dG.1 q with E|E
    ·exact cE _ E
    ·exact d5 _ (O.symm.subset (cz _ E)))).1
   have a8:∀a∈A++B',p.brk=true∧a.to≠k.zl:=λa q=>by
    rcases l with l|l
    ·have:=bd a q;rw[l]at this;cases this
    ·exact⟨l.1,l.2 a (bd a q)⟩
   have c2:∀t∈P',i8 k j.zv t:=λt J=>by
    have f:=a1.subset J;unfold fO at f;rcases dG.1 f with f|f
    ·obtain⟨a,b,rfl⟩:=aT.1 f;have i:=a8 a (cE _ b);have F:=(r.brk i.1).2 a (L a (cE _ b));have bt:=p.mem (L a (cE _ b));exact .ask a F.1 ⟨F.2.2.1,F.2.1⟩ i.2 ⟨yq,yq⟩ (r.brk i.1).1
    ·rcases dG.1 f with f|f
     ·obtain⟨a,b,rfl⟩:=aT.1 f;have i:=a8 a (d5 _ b);have F:=(r.brk i.1).2 a (L a (d5 _ b));have bt:=p.mem (L a (d5 _ b));exact .say a (p.sy a) (r.YY a (L a (d5 _ b))) ⟨F.2.2.1,F.2.1⟩ ⟨yq,yq⟩
     ·exact(h.st t f).mono yq
   have b0:∀m:Int,dM A m->p.brk=true∧m<(k.n:Int):=λm ⟨a,b,i⟩=>by
    have F:=(a8 a (cE _ b)).1;have bt:=(r.brk F).2 a (L a (cE _ b));exact⟨F,yq⟩
   obtain⟨ak,an,a7,cl⟩:=vt T bl U aV (M.trans b2) yq (bb.mono (λm ad a3 a4=>a0 m ad a3 (by
    rcases a4 with⟨b,i⟩|⟨_,i⟩
    ·exact .inr ⟨(b0 _ b).1,i⟩
    ·exact .inl i)) (λt J=>cf t (by
    rcases J with⟨b,_⟩|⟨_,i⟩
    ·have:=(b0 _ b).2;omega
    ·exact i)) yq) c2
   refine .inr (.inl ⟨j,I,ak,an,a7,C,co,rfl,cA,l.imp (λl=>by
    rw[l]at K;have f:=K.nil_eq;exact⟨(List.append_eq_nil_iff.1 f.symm).1,(List.append_eq_nil_iff.1 (List.append_eq_nil_iff.1 f.symm).2).1⟩) λl=>l.1,cl⟩)
  ·rw[C]at K;have f:=K.nil_eq;have cB:A=[]:=(List.append_eq_nil_iff.1 f.symm).1;have cK:B'=[]:=(List.append_eq_nil_iff.1 (List.append_eq_nil_iff.1 f.symm).2).1;subst cB cK;refine .inr (.inr ⟨rfl,rfl,rfl,X,⟨k.Ar,p.last,[]⟩,⟨U.1,λQ=>?_,aR⟩,ac,rfl,aV,bb.mono (λm ad a3 a4=>l m ad a3 ?_) (λt J=>a0 t ?_) b4,λt J=>?_,rfl⟩)
   ·rw[ac];exact E Q
   ·rcases a4 with⟨⟨a,b,_⟩,_⟩|⟨_,i⟩
    ·cases b
    ·exact i
   ·rcases J with⟨⟨a,b,_⟩,_⟩|⟨_,i⟩
    ·cases b
    ·exact i
   ·exact(h.st t (a1.subset J)).mono (by show p.zv<=p.last;omega)
theorem RW(I:oO k)(h:V5 k g ya n p A B D zL d P W s){o:ar}{B':List ar}{P':List bz}(q:B.Perm (o::B'))(G:P'.Perm (fO k.Ar p.sy A B' d))(H:k.B0<=W.z)(hm:13*n+Wp P'<=m)(S:(9*n:Int)+8+p.ta<=tk+ya):aC 19 #[pt k.pb 0,i6 ya,.agg (iB k.Ar p.sy o).cells.toArray] W (λj b=>∃a e f,j=.returned (yt e (List.length a) f)∧ah b W.z 65 26 e a.length f (aJ k.Ar a)∧WM k g ya tk m (P'++a.map (eV k.Ar)) b s∧au (be FO k.B0 W.z k.pb k.cb W) W b∧au (DA W) W b):=by
 obtain⟨V,R,F⟩:=h.Wj.split;refine(DB I h R F q G H).mono λj b ⟨a,e,f,J,K,Q,L,M,N⟩=>⟨a,e,f,J,K,⟨Q,?_⟩,M,N⟩;rcases L with⟨rfl,U,i⟩|⟨c,t,v,w,O,l,Y,rfl,ad,_,i⟩|⟨rfl,_,_,u,r,l,x,y,z,C,E,_⟩
 ·exact .inl ⟨n,p,A,B',D,U,d,by simpa using i,by simpa using hm,S⟩
 ·obtain⟨X,T⟩:=i.Wj.W2;have an:=h.tm;have ak:=(h.Xh o (d5 _ (q.symm.subset A4))).2.2;refine .inl ⟨t,c,v,[],w,c.A1,O,i,?_,yq⟩;have Z:c.A1.length=c.P.length:=dL ..;have ac:=T.len;rw[lK,tp];omega
 ·exact .inr ⟨u,r,l,x,y,z,C,by simpa using E,by simp;omega⟩
theorem i8.Xd{zv:Int}{l:bz}(h:i8 k zv l)(d:l.an=true):∃a b,l=iB k.Ar (λ_=>b) a∧jJ b∧(0<=a.to∧a.to<(k.n:Int))∧1<=a.id∧a.id<=zv:=by
 cases h with
 |ask a i c j e f=>cases d
 |mute a c g=>cases d
 |say a b f c e=>exact⟨a,b,rfl,f,c,e⟩
theorem Of(m:oO k)(h:V5 k g ya n p A B D zL d P W s){o:ar}{sy:dw}{l P':List bz}(w:d.Perm (iB k.Ar (λ_=>sy) o::l))(v:P'.Perm (fO k.Ar p.sy A B l))(I:jJ sy)(J:0<=o.to∧o.to<(k.n:Int))(x:1<=o.id∧o.id<=p.zv):aC 19 #[pt k.pb 0,i6 ya,.agg (iB k.Ar (λ_=>sy) o).cells.toArray] W (λc j=>c=.returned z7∧V5 k g ya n p A B D zL l P' j s∧au z8 W j):=by
 obtain⟨M,H,N⟩:=h.Wj.split;obtain⟨e,q,F⟩:=h.U2;have C:({e with ak:=z7,busy:=true}:am)={e with ak:=yt none 0 0}:=by rw[<-F.1.busy]
 have O:=m.hn;have Q:=H.bd;have E:∀b∈zL,¬(b.id=o.id∧b.to=o.to):=λb G c=>by
  have i:=h.perm.subset G;have a:p.zv<b.id:=by
   rcases dG.1 i with a|a
   ·exact(p.mem (h.Xh b (cE _ a)).1).1
   ·rcases dG.1 a with a|a
    ·exact(p.mem (h.Xh b (d5 _ a)).1).1
    ·exact(h.XX b a).2.1
  omega
 have i:=Lt {e with ak:=yt none 0 0} ⟨k.Ar,p.last,zL⟩ k.pb k.B0 o.to o.id ya sy (.inl ⟨J.1,yq⟩) m.Xt ⟨x.1,yq⟩ I E W (by
  rw[C];exact q.1) q.2
 refine i.mono λc j ⟨u,f⟩=>⟨u,?_,f⟩;obtain⟨t,K,L,z⟩:=h.KS;have a:=h.Xc f (λ_ h=>h.elim) (.refl _) (s':=s) ⟨t,K,L,z.x2 f (λ_ h=>h.elim)⟩ (P':=P) h.WB;exact{ a with st:=λr y=>h.st r (w.symm.subset (cz _ y)),WB:=v}
theorem Lu{P:List bz}{i:Nat}{l:bz}(h:P[i]?=some l):Wp P=Wp (P.eraseIdx i)+(bif l.an then 1 else 2):=by
 obtain⟨a,b⟩:=mK h;rw[b]
 conv=>lhs;rw[a]
 rw[lK,lK,lK];have:Wp [l]=(bif l.an then 1 else 2):=by simp[Wp]
 omega
theorem N6(r:oO k)(a8:ra k g.R)(h:WM k g ya tk (m+1) P W s){i:Nat}{l:bz}(c:P[i]?=some l) :
  (l.an=false∧l.to=k.z∧0<=k.z∧WM k g ya tk m (P.eraseIdx i) W s) ∨
  (l.an=false∧(l.to≠k.z∧(l.to<k.n∨l.to=100))∧aC 18 #[pt s.sb 0,i6 ya,.agg l.cells.toArray] W (λz j=>∃q x,z=.returned (.tuple #[.agg (bz.cells q).toArray,bO_ true])∧WM k g ya tk m (P.eraseIdx i++[q]) j x∧x.sb=s.sb∧x.pd=s.pd∧au (Du k.toOpE W) W j)) ∨
  (l.an=true∧l.to=k.Ar∧aC 19 #[pt k.pb 0,i6 ya,.agg l.cells.toArray] W (λz j=>∃R Z ac,z=.returned (yt Z (List.length R) ac)∧ah j W.z 65 26 Z R.length ac (aJ k.Ar R)∧WM k g ya tk m (P.eraseIdx i++R.map (eV k.Ar)) j s∧au (be FO k.B0 W.z k.pb k.cb W) W j∧au (DA W) W j)):=by
 obtain⟨e,h⟩:=h;have T:=Lu c;have bs:=r.hz;have bl:=r.hn;have bk:=r.Xt;rcases h with⟨n,p,A,B,D,zL,d,f,a4,L⟩|⟨E,I,J,U,Q,S,K,V,a4⟩
 ·rcases FK f.WB c with⟨a,a1,rfl,ad,C⟩|⟨a,bg,rfl,a3,C⟩|⟨Y,O,C⟩
  ·have aR:=f.Xh a (cE _ (ad.symm.subset A4));have bb:=aR.2.1;have bd:(eV k.Ar a).to<k.n∨(eV k.Ar a).to=100:=by
    obtain⟨_,V⟩:=f.Wj.W2;exact(V.Yb a aR.1).imp_left λh=>h.2
   refine .inr (.inl ⟨rfl,⟨bb,bd⟩,(IQ r f ad C e).mono λz j ⟨q,x,t,F,b,M,N,u⟩=>⟨q,x,t,⟨az e u.size,.inl ⟨n,p,a1,_,D,zL,d,b,?_,L⟩⟩,M,N,u⟩⟩);have v:Wp [q]=1:=by simp[Wp,F]
   rw[lK,v];have:(bif (eV k.Ar a).an then 1 else 2:Nat)=2:=rfl;omega
  ·refine .inr (.inr ⟨rfl,rfl,RW r f a3 C e ?_ L⟩);have:(bif (iB k.Ar p.sy a).an then 1 else 2:Nat)=1:=rfl;omega
  ·have v:=f.st l (O.symm.subset A4)
   cases G:l.an with
   |true=>
    obtain⟨a,y,rfl,an,aq,H⟩:=v.Xd G;refine .inr (.inr ⟨rfl,rfl,(Of r f O C an aq H).mono λz j ⟨t,F,b⟩=>⟨[],none,0,t,ah.nil _ _ _ _,⟨az e b.size,.inl ⟨n,p,A,B,D,zL,Y,by simpa using F,?_,L⟩⟩,b.mono (λ_ _ h=>h.elim),b.mono (λ_ _ h=>h.elim)⟩⟩);rw[List.map_nil,dD];have:(bif (iB k.Ar (λ_=>y) a).an then 1 else 2:Nat)=1:=rfl;omega
   |false=>
    rw[G]at T;have a9:Wp P=Wp (P.eraseIdx i)+2:=T
    cases v with
    |say a y K o H=>cases G
    |mute a o a2=>exact .inl ⟨rfl,o,yq,e,.inl ⟨n,p,A,B,D,zL,Y,{f with st:=λl c=>f.st l (O.symm.subset (cz _ c)),WB:=C},yq,L⟩⟩
    |ask a ak o aV H a0=>
     by_cases w:a.to=k.z
     ·exact .inl ⟨rfl,w,yq,e,.inl ⟨n,p,A,B,D,zL,Y,{f with st:=λl c=>f.st l (O.symm.subset (cz _ c)),WB:=C},yq,L⟩⟩
     ·refine .inr (.inl ⟨rfl,⟨w,.inl o.2⟩,(Lo r f O w C e).mono λz j ⟨q,x,a7,t,F,b,M,N,u⟩=>⟨q,x,t,⟨az e u.size,.inl ⟨n,p,A,B,D,zL,a7,b,?_,L⟩⟩,M,N,u⟩⟩);have v:Wp [q]=1:=by simp[Wp,F]
      rw[lK,v];omega
 ·have X:∀l∈P.eraseIdx i,i8 k I.last l:=λl c=>V l (List.mem_of_mem_eraseIdx c);have v:=V l (aS c)
  cases G:l.an with
  |true=>
   obtain⟨a,y,rfl,an,aq,H⟩:=v.Xd G;have a5:({E with ak:=z7,busy:=false}:am)={E with ak:=yt none 0 0}:=by rw[<-J.2.2]
   have w:=Lv {E with ak:=yt none 0 0} I k.pb a.to a.id ya y W (by
    rw[a5];exact J.1)
   rw[Q]at w;refine .inr (.inr ⟨rfl,rfl,w.mono λz j ⟨t,b⟩=>⟨[],none,0,t,ah.nil _ _ _ _,⟨az e b.size,.inr ⟨E,I,J.WX b (λ_ h=>h.elim),U,Q,S,K.x2 b (λ_ h=>h.elim),by simpa using X,?_⟩⟩,b.mono (λ_ _ h=>h.elim),b.mono (λ_ _ h=>h.elim)⟩⟩);rw[List.map_nil,dD];have:(bif (iB k.Ar (λ_=>y) a).an then 1 else 2:Nat)=1:=rfl;omega
  |false=>
   rw[G]at T;have a9:Wp P=Wp (P.eraseIdx i)+2:=T
   cases v with
   |say a y K o H=>cases G
   |mute a o a2=>exact .inl ⟨rfl,o,yq,e,.inr ⟨E,I,J,U,Q,S,K,X,yq⟩⟩
   |ask a ak o aV H a0=>
    by_cases w:a.to=k.z
    ·exact .inl ⟨rfl,w,yq,e,.inr ⟨E,I,J,U,Q,S,K,X,yq⟩⟩
    ·refine .inr (.inl ⟨rfl,⟨w,.inl o.2⟩,(xY r a0 a8 ak o aV K (az r.hb e) ya).mono λz j ⟨y,x,t,F,b,M,N,u⟩=>⟨_,x,t,⟨az e u.size,.inr ⟨E,I,J.WX u (λq a6=>(tl r.hb q a6).1),U,Q,S,b,λl c=>?_,?_⟩⟩,M,N,u⟩⟩)
     ·rcases dG.1 c with c|c
      ·exact X l c
      ·obtain rfl:=aG.1 c;exact .say a y F o H
     ·rw[lK];have:Wp [iB k.Ar (λ_=>y) a]=1:=rfl;omega
variable {k:Be}{g:S2}{ya:Int}{n m tk:Nat}{p:HB}{A B D zL:List ar}{a P:List bz}{W:World}{s:bK}
theorem fH.U2{F:Nat->aZ->Prop}{L:cQ->Prop}{v:Int}{w a:World}{v8 lb:Nat}{x:am}{c:CM}{b:List ar}{es:List TypeId}(h:fH k.toOpE F L v w s)(g:aP w v8 k.pb x c b)(m:k.b<=v8)(n:k.b<=lb)(i:au (be es v8 lb k.pb x.cb w) w a):fH k.toOpE F L v a s:=h.x2 i λl j=>by
 obtain⟨v,e,f,_⟩:=g
 rcases j with rfl|rfl|⟨d,_⟩|⟨d,_⟩
 ·exact .inr ⟨98,z1,aw e⟩
 ·exact .inr ⟨124,z1,f.zq⟩
 ·exact .inl yq
 ·exact .inl yq
theorem HB.Xx(hs:∀x zL,n3 k.B0 (p.T x zL)){x y:am}{zL:List ar}{w a:World}{v8 lb:Nat}{c:CM}{L:List ar}(h:p.is k x zL w)(d:aP w v8 k.pb y c L)(e:au (be [141] v8 lb k.pb y.cb w) w a)(f:y.lb=lb):p.is k x zL a:=HB.Qx hs h e λb g=>by
 subst f
 exact .inl (pV (d.T' (es:=[141]) b g) rfl)
theorem vu(w:oO k){q:HB}{j:Nat}(y:ci k g j q){x:am}{lb:Nat}(l:aP W k.B0 k.pb {x with lb:=lb} ⟨k.Ar,q.last,q.A1⟩ q.A1)(p:q.is k x q.A1 W)(G:q.t=ya∧q.ta<=ya∧ya<=q.ta+1)(hs:fH k.toOpE (q.F q.A1) (q.K q.A1) q.zv W s)(E:k.B0<=W.z)(I:k.B0<=lb):aC 16 #[pt k.pb 0,i6 ya] W (λu f=>∃c d,u=.returned (yt c (List.length q.A1) d)∧ah f lb 65 26 c q.A1.length d (aJ k.Ar q.A1)∧(∃h i m,V5 k g ya j q h [] i q.A1 m (q.A1.map (eV k.Ar)) f s)∧au (be [141] k.B0 lb k.pb k.cb W) W f):=by
 obtain⟨M,r⟩:=y.W2;have P:=r.len;have O:=r.bd;have J:q.A1.length=q.P.length:=dL ..;have t:=eH (n:=ya) yq;have H:=w.hb;have o:=p.1.cb;have z:fd (af ya) q.A1=[]:=si λv b=>by rw[t];have:=(q.mem b).2.2.2.1;omega
 have L:fP (af ya) q.A1=q.A1:=sj λv b=>by rw[t];have:=(q.mem b).2.2.2.1;omega
 have e:=DD ya l p.1.busy E I (by show q.A1.length≠0;omega) (by rw[z,J];simp;omega) (λv b=>by rw[t];have:=(q.mem b).2.2.1;omega);dsimp only at e;rw[z,L]at e;simp only[dD,List.length_nil,Nat.add_zero]at e;refine e.mono λu f ⟨c,d,A,B,C,a⟩=>?_;rw[o]at a;have K:=hs.U2 l H (lb:=lb) yq (by rw[<-o]at a;exact a);obtain⟨h,i,m,D⟩:=vt w y (x:=x) C (HB.Xx r.Bw p l (by rw[<-o]at a;exact a) rfl) G.1 yq K (Q:=[]) (λN F=>by cases F);exact⟨c,d,A,B,⟨h,i,m,D⟩,a⟩
theorem Lw(u:oO k){q:HB}{j:Nat}(i:ci k g j q)(C:13*j+12<=m){x:am}{lb:Nat}(t:aP W k.B0 k.pb {x with lb:=lb} ⟨k.Ar,q.last,q.A1⟩ q.A1)(y:q.is k x q.A1 W)(v:q.t=ya∧q.ta<=ya∧ya<=q.ta+1)(hs:fH k.toOpE (q.F q.A1) (q.K q.A1) q.zv W s)(h:k.B0<=W.z)(z:k.B0<=lb)(E:(9*j:Int)+8+q.ta<=tk+ya):aC 16 #[pt k.pb 0,i6 ya] W (λe d=>∃b a c,e=.returned (yt a (List.length b) c)∧ah d lb 65 26 a b.length c (aJ k.Ar b)∧WM k g ya tk m (b.map (eV k.Ar)) d s∧au (be [141] k.B0 lb k.pb k.cb W) W d):=by
 obtain⟨B,A⟩:=i.W2;have F:=A.len;have D:q.A1.length=q.P.length:=dL ..;refine(vu u i t y v hs h z).mono λe d ⟨a,c,o,p,⟨l,n,w,r⟩,f⟩=>⟨q.A1,a,c,o,p,⟨az h f.size,.inl ⟨j,q,l,[],n,q.A1,w,r,?_,yq⟩⟩,f⟩;rw[tp];omega
theorem V5.one(h:V5 k g ya n p A B D zL a [] W s):∃b,zL=[b]∧A=[]∧B=[]∧b.to=k.z∧p.zv<b.id∧b.asked=p.ta∧dM p.A1 k.z:=by
 have i:=h.WB.nil_eq;unfold fO at i;obtain⟨j,c⟩:=List.append_eq_nil_iff.1 i.symm;obtain⟨c,q⟩:=List.append_eq_nil_iff.1 c;obtain rfl:=List.map_eq_nil_iff.1 j;obtain rfl:=List.map_eq_nil_iff.1 c;have l:zL.Perm D:=h.perm;have d:∀b∈zL,b.to=k.z∧p.zv<b.id∧b.asked=p.ta∧dM p.A1 k.z:=λb o=>h.XX b (l.subset o);have m:=h.nd
 cases zL with
 |nil=>exact absurd rfl h.ne
 |cons b e=>
  cases e with
  |nil=>exact⟨b,rfl,rfl,rfl,d b A4⟩
  |cons f e=>
   exact absurd ((d b A4).1.trans (d f z1).1.symm) ((List.pairwise_cons.1 m).1 f A4).2
theorem Oi(v:oO k)(h:V5 k g ya n p A B D zL a [] W s)(t:k.B0<=W.z)(X:13*n<=98)(cf:(9*n:Int)+8+p.ta<=(tk+1:Nat)+ya)(cn:ya+1<=1000000):aC 16 #[pt k.pb 0,i6 (ya+1)] W (λI o=>∃C q r,I=.returned (yt q (List.length C) r)∧ah o W.z 65 26 q C.length r (aJ k.Ar C)∧WM k g (ya+1) tk 100 (C.map (eV k.Ar)) o s∧au (be [141] k.B0 W.z k.pb k.cb W) W o):=by
 obtain⟨b1,z,a5⟩:=h.Wj.split;obtain⟨x,a7,i⟩:=h.U2;obtain⟨c,rfl,rfl,rfl,R,b7,b8,S⟩:=h.one;have b6:=z.bd;have cl:=h.tm;have H:=eH (n:=ya+1) yq;have Z:=v.hb;have G:=i.1.cb;have bt:0<=k.z:=by
  obtain⟨b,l,aV⟩:=S;have:=z.Yb b l;have:=v.hz;omega
 have u:=a7.XM (lb':=W.z) (bT _);obtain⟨an,bl,bs,Y⟩:=h.KS;have ac:∀m:Int,¬dM [] m:=λm ⟨b,h,_⟩=>by cases h
 by_cases ca:ya+1-p.ta<8
 ·have l:=DD (ya+1) u i.1.busy t t (by show 1≠0;decide) (by have:(fd (af (ya+1)) [c]).length<=1:=List.length_filter_le ..;simp only[List.length_nil];omega) (λb d=>by obtain rfl:=aG.1 d;rw[H];omega);dsimp only at l;simp only[List.nil_append,List.length_nil,bG]at l;refine l.mono λI o ⟨q,r,K,L,E,e⟩=>?_;have T:=Y.U2 u Z (lb:=W.z) yq e;have y:=HB.Xx z.Bw i u e rfl;rw[G]at e;have U:∀b∈fd (af (ya+1)) [c],b.to=k.z:=λb d=>by
   obtain rfl:=aG.1 (dR.1 d).1;exact R
  have b9:(fd (af (ya+1)) [c]).length<=1:=List.length_filter_le ..;obtain⟨j,bk,M⟩:∃j:ar,fP (af (ya+1)) [c]=[j]∧(j.to=c.to∧j.id=c.id∧j.asked=c.asked):=by
   unfold fP;by_cases F:af (ya+1)-c.ES>=2
   ·exact⟨{c with ES:=af (ya+1)},by simp[F],rfl,rfl,rfl⟩
   ·exact⟨c,by simp[F],rfl,rfl,rfl⟩
  rw[bk]at E;refine⟨_,q,r,K,L,⟨az t e.size,.inl ⟨n,p,[],[],[j],[j],(fd (af (ya+1)) [c]).map (eV k.Ar),⟨h.Wj,⟨x,E,?_⟩,.refl _,z1,z1,λb d=>(by cases d),λb d=>?_,λJ w=>?_,.refl _,⟨an,bl,bs,T⟩,yq⟩,?_,yq⟩⟩,e⟩
  ·exact⟨y.1,y.2.1,y.2.2.1,y.2.2.2.1,z.loc x c j o M.1 y.2.2.2.2⟩
  ·obtain rfl:=aG.1 d;exact⟨yq,yq,yq,S⟩
  ·obtain⟨b,d,rfl⟩:=aT.1 w;exact .mute b (U b d) (by rw[U b d];exact bt)
  ·rw[tp];omega
 ·obtain⟨f,x1,l,aV,a0,b5,a1,M,F,a2,a3⟩:=z.gone S (ya+1) x W.z yq i.1 i.2.2.1 i.2.2.2.1 ⟨_,_,i.2.2.2.2⟩;obtain⟨ad,b3,V⟩:=a5 f l;obtain⟨b2,b0⟩:=V.W2;have cm:=b0.len;have cb:f.A1.length=f.P.length:=dL ..;have a4:=Lx (x1:={x1 with lb:=W.z}) (c1:=⟨k.Ar,f.last,f.A1⟩) (L1:=f.A1) (ya+1) u i.1.busy t t rfl (by rw[H];omega) (by rw[R];have:=v.hz;have N:=i.1.N;show k.z<x.N;omega) rfl (by show x1.cb=x.cb;rw[a2,G]) yq (λb d=>by rw[H];have:=(f.mem d).2.2.2.1;omega) (λa9 bd bg=>by
   rw[H,R];have N:=a3 _ a9 rfl rfl bd bg;rw[<-G]at N;exact N)
  refine a4.mono λI o ⟨q,r,K,L,E,e⟩=>?_;have T:=Y.U2 u Z (lb:=W.z) yq e;dsimp only at e;rw[G]at e;obtain⟨aq,aR,bb,a6⟩:=vt (ya:=ya+1) v V (x:=x1) E (F o) a0 yq (T.mono (λm ak X a8=>a1 m ak X (by
    rcases a8 with⟨O,_⟩|⟨_,P⟩
    ·exact absurd O (ac _)
    ·exact P)) (λJ w=>M J (by
    rcases w with⟨O,_⟩|⟨_,P⟩
    ·exact absurd O (ac _)
    ·exact P)) yq) (Q:=[]) (λJ w=>by cases w)
  refine⟨f.A1,q,r,K,L,⟨az t e.size,.inl ⟨ad,f,aq,[],aR,f.A1,bb,a6,?_,yq⟩⟩,e⟩;rw[tp];omega
def kQ(sn e a:Int):ck:=⟨9,sn,e,0,0,a,0,0,⟨#[]⟩⟩
def UA(x:am)(a:Int):av:=[i6 9,i6 0,i6 x.ep,i6 0,i6 0,i6 a,i6 0,i6 0,sT ⟨#[]⟩]
@[simp] def PE(x:am)(a:Nat)(ya:Int)(v2:Value):ax:=[bh a {x with nx:=.func (.func 95) #[pt a 0] #[],lg:=false,en:=ya,ak:=v2}]
variable (x:am)(c:CM)(L:List ar)(pb v8:Nat)(ya nd:Int)
theorem xu(P:c.last<1099511627776)(F:L.length<=50)(w:World)(H:aP w v8 pb x c L)(y:v8<=w.z):aC 57 #[pt pb 0,i6 ya,i6 nd] w (λi h=>i=Jx∧aP h v8 pb ({x with nx:=.func (.func 95) #[pt pb 0] #[],lg:=false,en:=ya}) (d6 {c with zL:=[]} ya 100 (kQ x.sn x.ep nd)) (L++[⟨100,c.last+1,kQ x.sn x.ep nd,af ya,af ya⟩])∧au (be [141] v8 x.lb pb x.cb w) w h):=by
 obtain⟨t,v,G⟩:=H;have J:=aw v;refine cH (S:=(λu=>u=pb)) (n:=25) func57 (ab.D1 v) ?_;refine z6 8 (dz 3 0) [0,1,2,6,8] [] [] [.ops [0] [3],.code [1]] [bh pb {x with ak:=t}] [] w.z ?_;refine Ip (w:=w) (S':=bL [141] v8 x pb w) (Y:=Value) (λb=>.tuple #[]) (λb=>[bh pb {x with nx:=.func (.func 95) #[pt pb 0] #[],lg:=false,ak:=b}]) (λb j=>bq j v8 x.lb x.cb ({c with zL:=[]}) L b) (v7:_=some (53,[pt pb 0,.func (.func 95) #[pt pb 0] #[]],some 9,[])) tI (λf a=>?_) (λb D N A=>?_)
 ·have d:=(a.wide (S':=bL [141] v8 x pb w) (λ_ C=>.inl C));have o:=(G.y4 (es:=[98]) a.x2 (λu I=>by subst I;exact⟨98,z1,J⟩) rfl rfl rfl);have g:aP f v8 pb ({x with ak:=t}) c L:=⟨_,a.at_ 0 rfl,o⟩;refine(fR (.func 95) #[pt pb 0] #[] g).mono λi h r=>?_;obtain⟨q,⟨k,m,s⟩,l⟩:=r;have p:=g.T' (es:=[]);exact⟨k,q,s,d.HS l (bv d.x2 rfl) m (bQ a p rfl)⟩
 have K:=N;refine z6 23 (dz 15 0x1340800000001330800000) [15,16,23] [] [(pb,51,1),(pb,52,1)] [.ops [1,1] [9]] [bh pb {x with nx:=.func (.func 95) #[pt pb 0] #[],lg:=false,en:=ya,ak:=b}] [] D.z ?_;refine Ip (w:=w) (S':=bL [141] v8 x pb w) (Y:=Value) (λe=>.tuple #[]) (λe=>PE x pb ya e) (λe j=>bq j v8 x.lb x.cb (d6 {c with zL:=[]} ya 100 (kQ x.sn x.ep nd)) (L++[⟨100,c.last+1,kQ x.sn x.ep nd,af ya,af ya⟩]) e) (v7:_=some (55,[pt pb 0,i6 ya,i6 100,aE (UA x nd)],some 24,[])) tI (λf a=>?_) (λe E O B=>?_)
 ·have d:=(ab.A0 A a);have z:v8<=f.z:=az y d.x2.size;have o:=(K.kT a A);have g:aP f v8 pb ({x with nx:=.func (.func 95) #[pt pb 0] #[],lg:=false,en:=ya,ak:=b}) ({c with zL:=[]}) L:=⟨_,a.at_ 0 rfl,o⟩;refine(gT ya 100 (kQ 0 x.ep nd) g ⟨z1,P,by decide,by decide⟩ F z).mono λi h r=>?_;obtain⟨q,⟨k,m,s⟩,l⟩:=r;have p:=g.T' (es:=[141]);exact⟨k,q,s,d.HS l (bv d.x2 rfl) m (bQ a p rfl)⟩
 have M:=O;refine Aq 4 [] [] [] [] [] ⟨[],PE x pb ya e,[],E.z⟩ ?_;refine bN [] (v7:_=some ([],aX [])) ?_;intro f a;exact⟨rfl,⟨_,a.at_ 0 rfl,M.kT a B⟩,(ab.A0 B a).x2⟩
@[simp] def PF(x:am)(pb:Nat)(ya:Int)(v1:Value):ax:=[bh pb {x with nx:=.func (.func 95) #[pt pb 0] #[],lg:=false,en:=ya,ou:=-1,ak:=v1}]
theorem xZ(G:c.last<1099511627776)(q:L.length<=50)(w:World)(s:aP w v8 pb ({x with ou:=(-1)}) c L)(E:v8<=w.z):aC 35 #[pt pb 0,i6 ya,i6 nd] w (λh f=>h=Jx∧aP f v8 pb ({x with ou:=-1,nx:=.func (.func 95) #[pt pb 0] #[],lg:=false,en:=ya}) (d6 {c with zL:=[]} ya 100 (kQ x.sn x.ep nd)) (L++[⟨100,c.last+1,kQ x.sn x.ep nd,af ya,af ya⟩])∧au (be [141] v8 x.lb pb x.cb w) w f):=by
 obtain⟨e,j,r⟩:=s;have z:=aw j;refine cH (S:=(λi=>i=pb)) (n:=24) func35 (ab.D1 j) ?_;refine z6 22 (dz 11 0x1000135080000) [15,16,17] [tT] [(pb,53,1)] [.ops (Ac 26) [3],.zq 0] [bh pb {x with ou:=-1,ak:=e}] [] w.z ?_;refine Ip (w:=w) (S':=bL [141] v8 x pb w) (Y:=Value) (λb=>.tuple #[]) (λb=>PF x pb ya b) (λb p=>bq p v8 x.lb x.cb (d6 {c with zL:=[]} ya 100 (kQ x.sn x.ep nd)) (L++[⟨100,c.last+1,kQ x.sn x.ep nd,af ya,af ya⟩]) b) (v7:_=some (57,[pt pb 0,i6 ya,i6 nd],some 18,[])) tI (λd a=>?_) (λb o D l=>?_)
 ·have g:=(a.wide (S':=bL [141] v8 x pb w) (λ_ m=>.inl m));have F:v8<=d.z:=az E g.x2.size;have B:=(r.y4 (es:=[98]) a.x2 (λi t=>by subst t;exact⟨98,z1,z⟩) rfl rfl rfl);have k:aP d v8 pb ({x with ou:=-1,ak:=e}) c L:=⟨_,a.at_ 0 rfl,B⟩;refine(xu ({x with ou:=-1,ak:=e}) c L pb v8 ya nd G q d k F).mono λh f I=>?_;obtain⟨H,⟨u,y,J⟩,v⟩:=I;have C:=k.T' (es:=[141]);exact⟨u,H,J,g.HS v (bv g.x2 rfl) y (bQ a C rfl)⟩
 have A:=D;refine Aq 5 [] [] [] [] [] ⟨[],PF x pb ya b,[],o.z⟩ ?_;refine bN [] (v7:_=some ([],aX [])) ?_;intro d a;exact⟨rfl,⟨_,a.at_ 0 rfl,A.kT a l⟩,(ab.A0 l a).x2⟩
def GJ(a:Int)(b:Int)(r:aZ):av:=[i6 1,i6 a,i6 b,bO_ false,i6 r.Bf,i6 r.de,i6 r.ds,sT r.block,bO_ r.op,i6 r.ie,i6 r.is,i6 r.mask,sT r.A9]
@[simp] def PG(x:am)(pb:Nat)(ya:Int)(w:World)(v1:Value)(a:Int)(b:Int)(r:aZ):ax:=[bh pb {x with nx:=.func (.func 95) #[pt pb 0] #[],lg:=false,en:=ya,ou:=-1,ak:=v1},⟨w.z,63,true,GJ a b r⟩]
theorem rC(d e:Int)(r:aZ)(J:c.last<1099511627776)(t:L.length<=50)(w:World)(v:aP w v8 pb ({x with ou:=(-1)}) c L)(H:v8<=w.z):aC 119 #[pt pb 0,i6 ya,i6 nd,.agg #[i6 1,i6 d,i6 e,bO_ false,i6 r.Bf,i6 r.de,i6 r.ds,sT r.block,bO_ r.op,i6 r.ie,i6 r.is,i6 r.mask,sT r.A9],bO_ true] w (λj h=>j=.returned (bO_ true)∧aP h v8 pb ({x with ou:=-1,nx:=.func (.func 95) #[pt pb 0] #[],lg:=false,en:=ya}) (d6 {c with zL:=[]} ya 100 (kQ x.sn x.ep nd)) (L++[⟨100,c.last+1,kQ x.sn x.ep nd,af ya,af ya⟩])∧au (be [141] v8 x.lb pb x.cb w) w h):=by
 obtain⟨g,l,u⟩:=v;have C:=aw l;refine cH (S:=(λk=>k=pb)) (n:=46) func119 (ab.D1 l) ?_;refine z6 52 (dz 34 0x103111000100180000010018000370010103191100010018000) [10,42,43,44] [tT,tT,tT,tT,fF,fF,tT,fF,tT,fF,fF,tT,tT,tT,tT,tT] [(w.z,0,1),(w.z,3,1),(w.z,0,1),(w.z,0,1)] [.ops (Ac 830) [3],.zq 0,.code [1,1]] [bh pb {x with ou:=-1,ak:=g},⟨w.z,63,true,GJ d e r⟩] [] (w.z+1) ?_;refine Ip (w:=w) (S':=bL [141] v8 x pb w) (Y:=Value) (λb=>.tuple #[]) (λb=>PG x pb ya w b d e r) (λb s=>bq s v8 x.lb x.cb (d6 {c with zL:=[]} ya 100 (kQ x.sn x.ep nd)) (L++[⟨100,c.last+1,kQ x.sn x.ep nd,af ya,af ya⟩]) b) (v7:_=some (35,[pt pb 0,i6 ya,i6 nd],some 45,[])) tI (λf a=>?_) (λb q G o=>?_)
 ·have i:=(a.wide (S':=bL [141] v8 x pb w) (λ_ p=>.inl p));have I:v8<=f.z:=az H i.x2.size;have E:=(u.y4 (es:=[98]) a.x2 (λk y=>by subst y;exact⟨98,z1,C⟩) rfl rfl rfl);have m:aP f v8 pb ({x with ou:=-1,ak:=g}) c L:=⟨_,a.at_ 0 rfl,E⟩;refine(xZ ({x with ou:=-1,ak:=g}) c L pb v8 ya nd J t f m I).mono λj h M=>?_;obtain⟨K,⟨z,B,N⟩,A⟩:=M;have F:=m.T' (es:=[141]);exact⟨z,K,N,i.HS A (bv i.x2 rfl) B (bQ a F rfl)⟩
 have D:=G;refine z6 9 [y2] [10] [] [] [y6 15] (PG x pb ya w b d e r) [] q.z ?_;refine B1 [] [bO_ true] [] ?_;intro f a;exact⟨rfl,⟨_,a.at_ 0 rfl,D.kT a o⟩,(ab.A0 o a).x2⟩
def PH(q:ck):av:=(q.cells)
def GK(a:Int)(b:Int)(r:aZ):av:=(GJ a b r)
@[simp] def PI(x:am)(pb:Nat)(ya:Int)(w:World)(v1:Value)(a:Int)(b:Int)(q:ck)(r:aZ):ax:=[bh pb {x with nx:=.func (.func 95) #[pt pb 0] #[],lg:=false,en:=ya,ou:=-1,ak:=v1},⟨w.z,59,true,PH q⟩,⟨w.z+1,63,true,GK a b r⟩]
theorem ri(b d:Int)(q:ck)(r:aZ)(K:c.last<1099511627776)(u:L.length<=50)(w:World)(y:aP w v8 pb ({x with ou:=(-1)}) c L)(I:v8<=w.z):aC 114 #[pt pb 0,i6 ya,i6 nd,.agg #[i6 q.kind,i6 q.Al,i6 q.BV,i6 q.seq,i6 q.mask,i6 q.node,i6 q.oe,i6 q.os,sT q.block],.agg #[i6 1,i6 b,i6 d,bO_ false,i6 r.Bf,i6 r.de,i6 r.ds,sT r.block,bO_ r.op,i6 r.ie,i6 r.is,i6 r.mask,sT r.A9]] w (λj h=>j=Jx∧aP h v8 pb ({x with ou:=-1,nx:=.func (.func 95) #[pt pb 0] #[],lg:=false,en:=ya}) (d6 {c with zL:=[]} ya 100 (kQ x.sn x.ep nd)) (L++[⟨100,c.last+1,kQ x.sn x.ep nd,af ya,af ya⟩])∧au (be [141] v8 x.lb pb x.cb w) w h):=by
 obtain⟨g,l,v⟩:=y;have D:=aw l;refine cH (S:=(λk=>k=pb)) (n:=44) func114 (ab.D1 l) ?_;refine z6 15 (dz 6 0xd002800000) [0,1,2,9,11,12,13,14] [] [(w.z+1,0,13)] [.ops (Ac 12) [4],y6 13,.code [1,1]] [bh pb {x with ou:=-1,ak:=g},⟨w.z,59,true,PH q⟩,⟨w.z+1,63,true,GK b d r⟩] [] (w.z+2) ?_;refine Ip (w:=w) (S':=bL [141] v8 x pb w) (Y:=Value) (λe=>bO_ true) (λe=>PI x pb ya w e b d q r) (λe t=>bq t v8 x.lb x.cb (d6 {c with zL:=[]} ya 100 (kQ x.sn x.ep nd)) (L++[⟨100,c.last+1,kQ x.sn x.ep nd,af ya,af ya⟩]) e) (v7:_=some (119,[pt pb 0,i6 ya,i6 nd,aE (GK b d r),bO_ true],some 15,[])) tI (λf a=>?_) (λe s H o=>?_)
 ·have i:=(a.wide (S':=bL [141] v8 x pb w) (λ_ p=>.inl p));have J:v8<=f.z:=az I i.x2.size;have F:=(v.y4 (es:=[98]) a.x2 (λk z=>by subst z;exact⟨98,z1,D⟩) rfl rfl rfl);have m:aP f v8 pb ({x with ou:=-1,ak:=g}) c L:=⟨_,a.at_ 0 rfl,F⟩;refine(rC ({x with ou:=-1,ak:=g}) c L pb v8 ya nd b d r K u f m J).mono λj h N=>?_;obtain⟨M,⟨A,C,O⟩,B⟩:=N;have G:=m.T' (es:=[141]);exact⟨A,M,O,i.HS B (bv i.x2 rfl) C (bQ a G rfl)⟩
 have E:=H;refine z6 5 [FN] [0,1,2,9] [tT] [] [y6 26,.code [1,1]] (PI x pb ya w e b d q r) [] s.z ?_;refine B1 [] [] [] ?_;intro f a;exact⟨rfl,⟨_,a.at_ 0 rfl,E.kT a o⟩,(ab.A0 o a).x2⟩
def fE(b:List Bool)(n:Nat):aH:=(List.range n).filter λa=>b[a]?.getD false
theorem FV{a:List Bool}{i:Nat}(h:a[i]?=some true):fE a (i+1)=fE a i++[i]:=by
 simp[fE,List.range_succ,h]
theorem QD{a:List Bool}{i:Nat}(h:a[i]?=some false):fE a (i+1)=fE a i:=by
 simp[fE,List.range_succ,h]
variable (n:Nat)(a:List Bool)
theorem Ke(n:Nat):(fE a n).length<=n:=by
 have b:=List.length_filter_le (λc=>a[c]?.getD false) (List.range n);rwa [List.length_range]at b
theorem SQ{n:Nat}:∀b∈fE a n,b<n:=λ_ c=>bn.1 (dR.1 c).1
def VG(n:Nat)(a:List Bool)(f:Nat)(e:Nat)(w:World)  (m:Nat) (st:St) (d:World):Prop:=
 ∃(i:Nat)(b:aY)(c:Nat)(z:Nat),m+i=n∧i<=n∧ah d w.z 3 1 b ((fE a i).length) c (ai Cg (fE a i))∧st=⟨[(0,yt (ae f) n e),(2,i6 63),(6,z7),(7,yt b ((fE a i).length) c),(13,i6 (n:Int)),(14,i6 (i:Int))],[],[],z⟩
theorem Hl(c V j T:Nat)(a1:n<=6)(a2:a.length=n)(w:World)(M:c<w.z)(ak:∀(m:Nat)(q:Value),(ai ez a)[m]?=some q->w.cell? ⟨c,0+m,none⟩=some q):aC 151 #[yt (ae c) n j,yt (ae V) n T,i6 63] w (λU s=>∃E F,U=.returned (yt E (fE a n).length F)∧ah s w.z 3 1 E (fE a n).length F (ai Cg (fE a n))∧au z8 w s):=by
 refine cH (S:=z8) (n:=34) func151 (ab.none w _) ?_;refine Aq 18 (dz 6 0) [0,2,6,7,10,12] [] [] [.ops (Ac 28) [4,5],y6 29,y6 15] ⟨[(0,yt (ae c) n j),(2,i6 63),(6,z7),(7,z7),(10,i6 (n:Int)),(12,i6 (n:Int))],[],[],w.z⟩ ?_;refine fy (dst:=some 13) (x:=Builtin.min_ #[3,3,3] 3 #[i6 (n:Int),i6 (n:Int),i6 6]) (i6 (n:Int)) v7 v7 rfl (λA d=>?_) ?_
 ·rw[QE,show jC (jC (n:Int) (n:Int)) 6=(n:Int)by unfold jC;split<;>split<;>omega]
 refine Aq 6 [y2] [0,2,6,7,13,14] [] [] [y6 58,.zq 0,y6 15] ⟨[(0,.slice (ae c) n j),(2,i6 63),(6,z7),(7,z7),(13,i6 (n:Int)),(14,i6 0)],[],[],w.z⟩ ?_;refine bm (w:=w) (S':=λ_=>False) (VG n a c j w) n v7 (λaV d=>⟨⟨0,none,0,_,yq,yq,ah.nil _ _ _ _,rfl⟩,d⟩) ?_;rintro G _ i ⟨b,e,g,aR,a5,a3,D,rfl⟩ k t L;by_cases a4:b<n
 rotate_left
 ·skip;refine z6 15 (dz 4 0) [6] [dF (((b:Int):Int)<(n:Int))] [] [y6 31] [] [] i.z ?_;refine B1 [] [yt e ((fE a b).length) g] [] ?_;intro A d;have an:b=n:=by omega
  have Z:=(D.kT d k);subst an;exact⟨e,g,rfl,Z,(ab.A0 k d).x2⟩
 obtain⟨p,o⟩:∃p,a[b]?=some p:=⟨_,cx yq⟩;have a6:=Ke a b;refine aD [⟨c,0+b*1,[bO_ p]⟩] (λ_ H r=>?_) ?_
 ·simp only[bj,cv,or_false]at r;subst r;exact⟨(λ⟨_,l,_⟩=>by cases l),cD M k.x2.size,rM (f:=ez) (λ_=>rfl) (λm q y=>dl k.x2 M (ak m q y)) o⟩
 cases p
 ·skip;refine Aq 38 [y2,FN,y2,y2,y2,y2,HA,⟨false,0,[⟨true,0,0,1⟩]⟩,y2,y2,y2,y2,y2,y2,⟨false,3,[]⟩,y2,HA,y2] [0,2,6,7,13,14] ([dT (((b:Int):Int)<(n:Int)),oE ((0:Int)<=(b:Int)∧(b:Int)<((n:Nat):Int))]++rE 7 fF++[JL ((b:Int)+1)]) [(c,0+b*1,1)] [.inv t,.zq 0,y6 15] ⟨[(0,yt (ae c) n j),(2,i6 63),(6,z7),(7,yt e ((fE a b).length) g),(13,i6 (n:Int)),(14,i6 ((b:Int)+1))],[],[⟨c,0+b*1,[bO_ false]⟩],i.z⟩ ?_;refine aD [] (λ_ _ l=>by cases l) ?_;rw[<-aW b];intro u z v d;exact L (G-1) _ u z yq ⟨b+1,e,g,_,yq,yq,by rw[QD o];exact(D.kT d k),by rw[QD o]⟩ v (ab.A0 k d)
 ·skip;refine Aq 36 [y2,FN,y2,y2,y2,y2,HA,⟨false,0,[⟨true,0,0,1⟩]⟩,y2,FN,FN,⟨true,1,[]⟩,⟨true,1,[]⟩,FN,WG,FN,y2,y2,y2] [0,2,6,7,13,14,28,30] [dT (((b:Int):Int)<(n:Int)),oE ((0:Int)<=(b:Int)∧(b:Int)<((n:Nat):Int)),tT,tT,tT,oE ((0:Int)<=(b:Int)∧(b:Int)<=((IntKind.bits .i64:Nat):Int)) (⟨yq,by show _<=((64:Nat):Int);omega⟩),tT,oE ((0:Int)<=(63/((2^Int.toNat (b:Int):Nat):Int))∧(0:Int)<=1∧(63/((2^Int.toNat (b:Int):Nat):Int))<=IntKind.max .i64∧1<=IntKind.max .i64) (xQ ⟨Int.ediv_nonneg yq (Int.natCast_nonneg _),Int.le_trans (Int.ediv_le_self _ yq) yq⟩ yq),tT,tT,oE (((TO (63/((2^Int.toNat (b:Int):Nat):Int)) 1)==1)=true) (dC.2 (VH yq))] [(c,0+b*1,1)] [.ops (Ac 14950) [3,4],.zq 1,y6 935,.inv t,.zq 0,y6 15] ⟨[(0,yt (ae c) n j),(2,i6 63),(6,z7),(7,yt e ((fE a b).length) g),(13,i6 (n:Int)),(14,i6 (b:Int)),(28,yt e ((fE a b).length) g),(30,yt (ae i.z) 1 1)],[⟨i.z,3,true,[i6 (b:Int)]⟩],[⟨c,0+b*1,[bO_ true]⟩],i.z+1⟩ ?_;refine aD [] (λ_ _ l=>by cases l) ?_;refine dE (w:=w) (S':=z8) (Y:=aO) (dst:=some 31) (x:=Builtin.append_ #[25,25] 25 #[yt e ((fE a b).length) g,yt (ae i.z) 1 1]) (λh=>yt h.1 ((fE a b).length+1) h.2) [] (λh R=>ah R w.z 3 1 h.1 ((fE a b).length+1) h.2 (ai Cg (fE a b++[b]))) (λh=>[(31,yt h.1 ((fE a b).length+1) h.2),(0,yt (ae c) n j),(2,i6 63),(6,z7),(7,yt e ((fE a b).length) g),(13,i6 (n:Int)),(14,i6 (b:Int)),(28,yt e ((fE a b).length) g),(30,yt (ae i.z) 1 1)]) v7 v7 (λ_=>rfl) (λA d=>?_) (λh Q ad N=>?_)
  ·have B:=(D.kT d k);have C:=(ab.A0 k d);obtain⟨O,ac,s,W,K,X,a0⟩:=ce (P:=prog) A w.z 25 25 3 (i6 0) 1 8 e ((fE a b).length) g (ai Cg (fE a b)) ⟨i.z,0,none⟩ 1 1 [i6 (b:Int)] v7 v7 v7 (by decide) B rfl (λm x y=>by rw[bY,bG];exact(d.at_ 0 rfl).at_ y) (aU v7) yq (by decide) C.x2.size;rw[show[i6 (b:Int)]=Cg b from rfl,eU]at K;exact⟨(O,ac),s,W,K,(C.sub (Ex:=[]) z1).A3 (λ_ l=>l) X (λH r=>.inr (B.own H r).1) (bI (C.sub (Ex:=[]) z1) (bW B) rfl)⟩
  obtain⟨I,J⟩:=h;have aq:=ad;refine Aq 10 (dz 3 32) [0,2,6,7,13,14] [JL ((b:Int)+1)] [] [.inv t,.zq 0,y6 15] ⟨[(0,yt (ae c) n j),(2,i6 63),(6,z7),(7,yt I ((fE a b).length+1) J),(13,i6 (n:Int)),(14,i6 ((b:Int)+1))],[],[],Q.z⟩ ?_;rw[<-aW b];intro u z v d;exact L (G-1) _ u z yq ⟨b+1,I,J,_,yq,yq,by rw[FV o];simp only[bM,List.length_singleton];exact(aq.kT d N),by rw[FV o];simp only[bM,List.length_singleton];rfl⟩ v (ab.A0 N d)
theorem Hm  (w:World):aC 152 #[] w (bf (.agg #[.func (.func 156) #[] #[]]) w):=by
 refine cH (S:=z8) (n:=2) func152 (ab.none w _) ?_;refine z6 12 (dz 3 16779264) [0] [] [(w.z,0,1)] [.code [1,1]] [⟨w.z,220,true,[.func (.func 156) #[] #[]]⟩] [] (w.z+1) ?_;refine B1 [[⟨false,0,0,1⟩]] [.agg #[.func (.func 156) #[] #[]]] [(w.z,0,1)] ?_;intro b a;exact⟨rfl,a.x2⟩
def QF(r:aZ):av:=(r.cells)
theorem Ez(r:aZ)(w:World):aC 156 #[.agg #[bO_ r.used,i6 r.Bf,i6 r.de,i6 r.ds,sT r.block,bO_ r.op,i6 r.ie,i6 r.is,i6 r.mask,sT r.A9]] w (bf (bO_ r.op) w):=by
 refine cH (S:=z8) (n:=5) func156 (ab.none w _) ?_;refine z6 14 (dz 5 273711104) [2] [] [(w.z,5,1)] [.code [1,1]] [⟨w.z,61,true,QF r⟩] [] (w.z+1) ?_;refine B1 [] [bO_ r.op] [] ?_;intro b a;exact⟨rfl,a.x2⟩
def pn(r:aZ):av:=(QF r)
def Hn:aH:=[1,1,0,1,0,0,1,1,0,0,1,0]
@[simp] def nl(w:World):ax:=[⟨w.z,220,true,[.func (.func 156) #[] #[]]⟩]
def SoI(n:Nat)(C:aH)(d:Nat)(c:Nat)(b:Nat)(a:Nat)(w:World)  (m:Nat) (st:St):Prop:=
 ∃(i:Nat)(z:Nat),m+i=C.length∧st=⟨[(1,yt (ae d) n b),(5,pt w.z 0),(6,z7),(7,z7),(10,yt (ae c) C.length a),(11,i6 ((C.length:Nat):Int)),(12,i6 (i:Int))],nl w,[],z⟩
theorem UX(C:aH)(c:Nat)(a:Nat)(b:Nat)(f:Nat)(e:Nat)(i:Nat)(z:Nat)(r:aZ)(w:World):Out.prune [1,5,6,7,9,10,11,12,22] (fu prog 29 w z8 (aj (aa (al f150) Hn)) (aj (aa (al f150) Hn)).toList ⟨[(1,yt (ae a) n f),(5,pt w.z 0),(6,z7),(7,z7),(9,i6 (c:Int)),(10,yt (ae b) C.length e),(11,i6 ((C.length:Nat):Int)),(12,i6 (i:Int))],nl w,[⟨b,0+i*1,[i6 (c:Int)]⟩,⟨a,0+c*10,pn r⟩],z⟩ [(false,.op y2),(false,.op (oA 0 0 1)),(false,.op y2),(false,.op y2),(false,.op HA),(false,.op ⟨false,0,[⟨true,1,0,10⟩]⟩),(false,.call (bO_ r.op))])=some ⟨[(0:Int)<=(c:Int)∧(c:Int)<((n:Nat):Int),∀d,fU w z8 (nl w) [⟨b,0+i*1,[i6 (c:Int)]⟩,⟨a,0+c*10,pn r⟩] z d->aC 156 #[aE (pn r)] d (bf (bO_ r.op) d)],aX [(w.z,0,1),(a,0+c*10,10)],⟨[(1,yt (ae a) n f),(5,pt w.z 0),(6,z7),(7,z7),(9,i6 (c:Int)),(10,yt (ae b) C.length e),(11,i6 ((C.length:Nat):Int)),(12,i6 (i:Int)),(22,bO_ r.op)],nl w,[⟨b,0+i*1,[i6 (c:Int)]⟩,⟨a,0+c*10,pn r⟩],z⟩⟩:=v7
theorem SR(R:List aZ)(C:aH)(c e g h:Nat)(I:C.length<=6)(z:∀b∈C,b<n)(J:R.length=n)(D:∀d∈R,d.op=false)(w:World)(B:c<w.z)(A:∀(j:Nat)(v:Value),(ai Cg C)[j]?=some v->w.cell? ⟨c,0+j,none⟩=some v)(F:e<w.z)(E:∀(j:Nat)(v:Value),(ai aZ.cells R)[j]?=some v->w.cell? ⟨e,0+j,none⟩=some v):aC 150 #[yt (ae c) C.length g,yt (ae e) n h,.agg #[.func (.func 156) #[] #[]]] w (bf z7 w):=by
 refine cH (S:=z8) (n:=29) func150 (ab.none w _) ?_;refine Aq 20 (dz 6 0) [1,5,6,7,10,11,12] [] [] [y6 58,.zq 0,y6 15] ⟨[(1,.slice (ae e) n h),(5,pt w.z 0),(6,z7),(7,z7),(10,.slice (ae c) C.length g),(11,i6 ((C.length:Nat):Int)),(12,i6 0)],nl w,[],w.z+1⟩ ?_;refine ge (SoI n C e c h g w) C.length v7 ⟨0,_,yq,rfl⟩ ?_;rintro u _ ⟨a,k,L,rfl⟩ l y;by_cases x:a<C.length
 rotate_left
 ·skip;refine z6 15 (dz 4 0) [6] [dF (((a:Int):Int)<((C.length:Nat):Int))] [] [y6 31] (nl w) [] k ?_;refine B1 [] [z7] [] ?_;intro q m;exact⟨rfl,m.x2⟩
 obtain⟨b,s⟩:∃b,C[a]?=some b:=⟨_,cx x⟩;have K:=z b (aS s);obtain⟨d,o⟩:∃d,R[b]?=some d:=⟨_,cx yq⟩;have G:=D d (aS o);refine aD [⟨c,0+a*1,[i6 (b:Int)]⟩,⟨e,0+b*10,pn d⟩] (λ_ H p=>?_) ?_
 ·simp only[bj,cv,or_false]at p;rcases p with rfl|rfl
  ·exact⟨λi=>i,B,rM (f:=Cg) (λ_=>rfl) A s⟩
  ·exact⟨λi=>i,F,rM nL E o⟩
 refine Aq 19 [y2,FN,HA,⟨false,0,[⟨true,0,0,1⟩]⟩,y2] [1,5,6,7,9,10,11,12] [dT (((a:Int):Int)<((C.length:Nat):Int)),oE ((0:Int)<=(a:Int)∧(a:Int)<((C.length:Nat):Int))] [(c,0+a*1,1)] [.code Hn,y6 7475,.zq 1,y6 935,.inv l,.zq 0,y6 15] ⟨[(1,yt (ae e) n h),(5,pt w.z 0),(6,z7),(7,z7),(9,i6 (b:Int)),(10,yt (ae c) C.length g),(11,i6 ((C.length:Nat):Int)),(12,i6 (a:Int))],nl w,[⟨c,0+a*1,[i6 (b:Int)]⟩,⟨e,0+b*10,pn d⟩],k⟩ ?_;refine dm _ _ v7 v7 v7 (UX n C b e c h g a k d w) ⟨⟨yq,yq⟩,(λq m=>Ez d q),trivial⟩ λr t=>?_;replace t:k<=r:=t;refine di (f:=10) (hs:=[y2,HA,y2]) [1,5,6,7,10,11,12] [true] (v7:_=some (Res.mk [d.op=false,T0 .i64 ((a:Int)+1)] (aX []) [.inv l,.zq 0,y6 15] ⟨[(1,yt (ae e) n h),(5,pt w.z 0),(6,z7),(7,z7),(10,yt (ae c) C.length g),(11,i6 ((C.length:Nat):Int)),(12,i6 ((a:Int)+1))],nl w,[⟨c,0+a*1,[i6 (b:Int)]⟩,⟨e,0+b*10,pn d⟩],r⟩)) ⟨G,i0 yq,trivial⟩ ?_;refine aD [] (λ_ _ i=>by cases i) ?_;exact y (u-1) _ yq ⟨a+1,_,yq,by rw[<-aW a]⟩
theorem sK(sn e:Int)(n:Nat)(a:List Bool)(R:List aZ)(i c m h:Nat)(L:n<=6)(Q:a.length=n)(V:0<(fE a n).length)(T:R.length=n)(X:∀F∈R,F.op=false)(w:World)(D:i<w.z)(W:∀(j:Nat)(v:Value),(ai ez a)[j]?=some v->w.cell? ⟨i,0+j,none⟩=some v)(E:c<w.z)(Z:∀(j:Nat)(v:Value),(ai aZ.cells R)[j]?=some v->w.cell? ⟨c,0+j,none⟩=some v):aC 141 #[i6 sn,i6 e,yt (ae i) n m,yt (ae c) n h] w (bf (.tuple #[z7,z7]) w):=by
 refine cH (S:=z8) (n:=56) func141 (ab.none w _) ?_;refine z6 12 (dz 4 0) [0,1,2,3,8,9,15,16] [] [] [.ops [1,0] [2,3,4,5,6],.code [1,1]] [] [] w.z ?_;refine Ip (w:=w) (S':=z8) (Y:=aO) (λd=>yt d.1 ((fE a n).length) d.2) (λd=>[]) (λd I=>ah I w.z 3 1 d.1 (fE a n).length d.2 (ai Cg (fE a n))) (v7:_=some (151,[yt (ae i) n m,yt (ae c) n h,i6 63],some 17,[])) tI (λl b=>?_) (λd y C u=>?_)
 ·refine(Hl n a i c m h L Q l (cD D b.x2.size) (λj v p=>dl b.x2 D (W j v p))).mono λad an M=>?_;obtain⟨G,J,o,r,s⟩:=M;exact⟨(G,J),o,r.below b.x2.size,b.A3 (λ_ g=>g) s (λ_ g=>g.elim) (λ_ _ g=>g)⟩
 obtain⟨H,A⟩:=d;have aq:=Ke a n;obtain⟨B,rfl,_,U⟩:∃k,H=some ⟨k,0,none⟩∧w.z<=k∧k<y.z:=by
  obtain⟨q,N⟩:∃q,(fE a n)[0]?=some q:=⟨_,cx V⟩;obtain⟨k,o,r,s,_⟩:=C.cell (j:=0*1+0) (v:=i6 (q:Int)) (ff (f:=Cg) (z:=1) (λ_=>rfl) N yq);exact⟨k,o,r,s⟩
 refine z6 4 [y2] [0,1,2,3,8,9,17,18] [] [] [.ops [1,0] [4,5,6],.code [1,1]] [] [] y.z ?_;refine DV (.agg #[.func (.func 156) #[] #[]]) _ _ (some 19) [] tI rfl (λl b=>Hm l) λP aR=>?_;refine z6 3 [] [0,1,2,3,8,9,17,18,19] [] [] [.ops [1,0] [5,6],.code [1,1]] [] [] P ?_;refine DV z7 150 [.slice (ae B) ((fE a n).length) A,.slice (ae c) n h,.agg #[.func (.func 156) #[] #[]]] (some 20) [] tI rfl (λl b=>SR n R (fE a n) B c A h yq (SQ a) T X l (cD U b.x2.size) (λj v p=>by obtain⟨k,o,_,_,K⟩:=(C.x2 b.x2 (λ_ _ ⟨_,g,_⟩=>by cases g)).cell p;cases o;rw[bG];exact K) (cD E (ab.A0 u b).x2.size) (λj v p=>dl (ab.A0 u b).x2 E (Z j v p))) λt aV=>?_;refine Aq 17 (dz 5 0) [0,1,2,3,8,9,10,11,21,22,23] [] [] [y6 122,.zq 0,y6 31] ⟨[(0,i6 sn),(1,i6 e),(2,.slice (ae i) n m),(3,.slice (ae c) n h),(8,z7),(9,z7),(10,z7),(11,z7),(21,z7),(22,i6 0),(23,i6 0)],[],[],t⟩ ?_;refine ge (λx O=>x=0∧O=⟨[(0,i6 sn),(1,i6 e),(2,.slice (ae i) n m),(3,.slice (ae c) n h),(8,z7),(9,z7),(10,z7),(11,z7),(21,z7),(22,i6 0),(23,i6 0)],[],[],t⟩) 0 v7 ⟨rfl,rfl⟩ ?_;rintro x _ ⟨rfl,rfl⟩ ac ak;refine z6 17 (dz 6 0) [8,9] [fF] [] [y6 63] [] [] t ?_;refine B1 [] [z7,z7] [] ?_;intro l b;exact⟨rfl,(ab.A0 u b).x2⟩
end Go.Proofs.YtcmpkkapkdlfhaaGreat
