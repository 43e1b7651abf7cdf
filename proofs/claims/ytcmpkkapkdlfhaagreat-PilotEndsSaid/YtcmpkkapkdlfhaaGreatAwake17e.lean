import Derived.Test.YtcmpkkapkdlfhaaGreatPhW17e
namespace Go.Proofs.YtcmpkkapkdlfhaaGreat
open Go.RowKit Tryz
set_option maxHeartbeats 4000000
set_option maxRecDepth 100000
variable {c:el}{b a o ya last e sq:Int}{f:Bool}{sn d m:Nat}{da:ByteArray}{M:Nat->Nat->ByteArray}{k:Be}{s:bK}{x:am}{W:World}{n:Nat->aZ->Prop}{j:cQ->Prop}
theorem LQ.mono{o:Int}{O:Int}{HJ p:Nat->aZ}{l:cQ}{lv:jI}{j k:Nat->ByteArray}(h:LQ c b f O HJ l lv j)(G:b<=o)(n:∀m,m<c.n->p m=HJ m)(C:∀m,m<c.n->k m=j m):LQ c o f O p l lv k:=by
 obtain⟨r,s,t,z,A,B⟩:=h.NN;refine⟨⟨r,s,t,z,⟨A.1,yq⟩,B⟩,h.out,h.XQ,λm a i=>?_,λm a i D=>?_,⟨h.sq.1,by have:=h.sq;omega⟩,h.sc⟩
 ·obtain⟨d,E,u,q,e,g,v,F,w,x,y⟩:=h.Xw m a i;exact⟨d,E,u,q,(n m a).trans e,g,v,yq,w,λh=>(x h).trans (C m a).symm,y⟩
 ·obtain⟨d,e,g⟩:=h.XR m a i D;exact⟨d,(n m a).trans e,g⟩
theorem zK{N:Nat}{i:Nat}(h:i≠sn∨a≠2):Wu N sn d a da M m i=M m i:=by
 unfold Wu;rw[ay λb=>h.elim (λh=>h b.1) (λh=>h b.2)]
theorem Se(d:cZ k)(l:(m:Int)≠o)(j:-1<=o∧o<(k.n:Int))(e:¬XO k o m):Wu k.n k.sn k.cn 2 da M m k.sn=M m k.sn:=by
 have q:=d.Wl;have f:∀c:Nat,c<k.n->m=(c+k.sn)%k.n->(c:Int)≠k.oc o:=λc p i a=>by
  have b:k.nd (c:Int)=(m:Int):=by rw[oT,i]
  have g:=nP d (o:=o) (by
   refine⟨?_,j.2⟩;by_cases h:o=-1
   ·exfalso;have n:k.oc o=-1:=by unfold Be.oc jV;rw[aA h]
    omega
   ·omega)
  refine l (b.symm.trans ?_);rw[a];exact g
 unfold Wu;rw[aA ⟨rfl,rfl⟩,ay,ay]
 ·intro a;have b:=f (k.n-1) yq a;refine e ⟨(k.n:Int)-1,?_,by rw[show(k.n:Int)-1=((k.n-1:Nat):Int)by omega,oT,a]⟩;unfold Be.W dq;rw[ay yq];split<;>simp
 ·intro a;have b:=f k.cn yq a;refine e ⟨(k.cn:Int),?_,by rw[oT,a]⟩;unfold Be.W dq;split
  ·simp
  ·rw[ay yq];simp
theorem vK(q:OpG c s x W sn d a da ya last b M k e o sq f n j)(hm:m<c.n){r:aZ}(D:Rb k e o m r) :
  ((m:Int)≠c.zz∨f=false->∃g i h l,r=⟨true,g,i,h,l,false,0,0,0,⟨#[]⟩⟩∧(0<=g∧g<=e)∧(0<=i∧i<=e)∧(0<=h∧h<=b)∧l.size=16∧((m:Int)≠c.zz∨c.AQ=false->l=M m sn)∧((m:Int)≠o->g=e∧(i=e->h<=sq)))∧((m:Int)=c.zz->f=true->∃g,r=⟨false,g,0,0,⟨#[]⟩,false,0,0,0,⟨#[]⟩⟩∧0<=g∧g<=e):=by
 obtain⟨J,L,I⟩:=q.eq;have y:k.R0 m=s.HJ m sn:=by rw[I];rfl
 have K:=q.he;have F:=D.rf yq;refine⟨λv=>?_,λv H=>?_⟩
 ·obtain⟨g,i,h,l,t,z,A,B,C,G⟩:=q.tags m hm v;by_cases E:(m:Int)=o
  ·obtain⟨w,p,rfl⟩:=F;exact⟨w,i,h,l,by unfold Be.fr;rw[y,t],p,z,A,B,C,λu=>absurd E u⟩
  ·have p:=D.re q.Wv.toWk E;subst p;exact⟨e,i,h,l,by unfold Be.fr;rw[y,t],yq,z,A,B,C,λu=>⟨rfl,G u⟩⟩
 ·obtain⟨g,t⟩:=q.YO m hm v H;obtain⟨w,p,rfl⟩:=F;exact⟨w,by unfold Be.fr;rw[y,t],p⟩
theorem OD(g:OpG c s x W sn d a da ya last b M k e o sq f n j){HJ:Nat->aZ}{l:cQ}{lv:jI}(y:∀m,m<c.n->k.aR e o sq m (HJ m))(a4:Lp k e (if k.kd=3 then -1 else o) l)(a9:∃R,lv={ k.aV e o sq with sc:=R}∧0<=R∧R<=1000000) :
  ∃a2 aq,LQ c (b+2) a2 aq HJ l lv (λm=>Wu c.n sn d a da M m sn)∧(a=3->aq=-1∧((c.AQ=true->c.zz<0)->a2=false)):=by
 obtain⟨bd,b3,C⟩:=g.eq;have Q:k.n=c.n:=by rw[C];rfl
 have T:k.sn=sn:=by rw[C];rfl
 have a1:k.cn=d:=by rw[C];rfl
 have S:k.kd=a:=by rw[C];rfl
 have a7:k.da=da:=by rw[C];rfl
 have a8:k.Ar=c.Ar:=by rw[C];rfl
 have V:=g.he;have b2:=g.Wv.X3;have b4:=g.sq2;obtain⟨U,rfl⟩:=a4;obtain⟨R,rfl,ak⟩:=a9;rw[a8];by_cases O:a=2
 ·have a0:k.kd=2:=S.trans O;obtain⟨F,G⟩:=DQ (k:=k) (e:=e) (o:=o) (sq:=sq) a0;rw[F]at y;rw[G,ay yq];obtain⟨aR,a3,bg⟩:=g.Wv.XV a0;have an:W9 k.n λm=>M m k.sn:=by rw[Q,T];exact g.YM
  have a6:Xy k o λm=>M m k.sn:=by rw[T];exact g.YN
  refine⟨f,o,⟨⟨e,c.Ar,U,rfl,yq,.inr rfl,λ_=>⟨rfl,rfl,V.1,rfl⟩⟩,?_,g.XQ,λm q u=>?_,λm q u t=>?_,by show 0<=sq+1∧sq+1<=b+2;omega,ak⟩,λi=>by omega⟩
  ·rcases g.oz with h|h
   ·exact .inl ⟨h,λi p=>by have:=g.bad i p;omega⟩
   ·exact .inr h
  ·rcases y m q with⟨⟨X,i,p⟩,r⟩|⟨i,p⟩
   ·have v:=F0 g.xs g.Wv.ho X i;refine⟨e,e,sq+1,_,r,⟨yq,cS _⟩,⟨yq,cS _⟩,yq,nS aR a3 _,λ_=>?_,λ_ _=>⟨rfl,λ_=>cS _⟩⟩;rw[<-p,On g.xs v.1,Vr g.xs g.Wv.ho an a6 aR i,p,Q,T,a1,a7,O,cJ]
   ·obtain⟨E,N,z,D,H,I,J,aV,K,L,A⟩:=(vK g q p).1 u;refine⟨E,N,z,D,H,I,J,yq,K,λh=>?_,λ_ h=>⟨(A h).1,λP=>by have:=(A h).2 P;show z<=sq+1;omega⟩⟩;by_cases ad:(m:Int)=o
    ·exfalso;rcases g.oz with w|⟨w,P,B⟩
     ·omega
     ·rcases h with h|h
      ·exact h (ad.trans w)
      ·rcases u with Y|Y
       ·exact Y (ad.trans w)
       ·rcases B with B|B
        ·rw[Y]at B;cases B
        ·rw[h]at B;cases B
    ·rw[L h,O];have w:=Se g.xs (M:=M) (da:=da) ad g.Wv.ho i;rw[Q,T,a1]at w;exact w.symm
  ·rcases y m q with⟨⟨X,i,p⟩,r⟩|⟨i,p⟩
   ·have v:=F0 g.xs g.Wv.ho X i;have w:=g.bad (.inl t) (g.XQ t).2;exact absurd (p.trans (u.trans w.symm)) v.2
   ·exact(vK g q p).2 u t
 ·have Z:∀m,Wu c.n sn d a da M m sn=M m sn:=λm=>zK (.inr O);by_cases i:a=3∧o≠-1
  ·have ac:k.kd=3:=S.trans i.1;obtain⟨F,G⟩:=Tg (k:=k) (e:=e) (o:=o) (sq:=sq) ac i.2;rw[F]at y;rw[G,aA ac];obtain⟨bk,bl⟩:=g.Wv.YG ac i.2;have an:W9 k.n λm=>M m sn:=by rw[Q];exact g.YM
   obtain⟨bt,b0,b1⟩:=g.oz.resolve_left i.2;have bb:c.AQ=false:=by
    cases a5:c.AQ with
    |false=>rfl
    |true=>
     have p:k.z=c.zz:=by rw[C];show(if c.AQ=true then c.zz else -1)=_;rw[aA a5]
     omega
   refine⟨false,-1,⟨⟨e,c.Ar,U,rfl,yq,.inr rfl,λ_=>⟨rfl,rfl,V.1,rfl⟩⟩,.inl ⟨rfl,λh=>?_⟩,λh=>Bool.noConfusion h,λm q _=>?_,λm q u t=>Bool.noConfusion t,by show 0<=sq+1∧sq+1<=b+2;omega,ak⟩,λ_=>⟨rfl,λ_=>rfl⟩⟩
   ·rw[bb]at h;rcases h with h|h<;>cases h
   ·rcases y m q with⟨p,r⟩|⟨p,r⟩
    ·refine⟨e,e,sq+1,_,r,⟨yq,cS _⟩,⟨yq,cS _⟩,yq,x5 g.xs g.Wv.toWk yq,λ_=>?_,λ_ _=>⟨rfl,λ_=>cS _⟩⟩;rw[Z,Sb g.xs yq an g.YN,show o.toNat=m by omega]
    ·obtain⟨E,N,z,D,H,I,J,aV,K,L,A⟩:=(vK g q r).1 (.inl yq);exact⟨E,N,z,D,H,I,J,yq,K,λh=>(L h).trans (Z m).symm,λ_ _=>⟨(A p).1,λP=>by have:=(A p).2 P;show z<=sq+1;omega⟩⟩
  ·obtain⟨F,G⟩:=IY (k:=k) (e:=e) (o:=o) (sq:=sq) yq (by rw[S];exact i);rw[F]at y;rw[G];have p:(if k.kd=3 then -1 else o)=o:=by
    rw[S];by_cases r:a=3
    ·rw[aA r];by_cases v:o=-1
     ·exact v.symm
     ·exact absurd ⟨r,v⟩ i
    ·rw[ay r]
   rw[p];refine⟨f,o,⟨⟨e,c.Ar,U,rfl,yq,.inr rfl,λ_=>⟨rfl,rfl,V.1,rfl⟩⟩,?_,g.XQ,λm q u=>?_,λm q u t=>(vK g q (y m q)).2 u t,by show 0<=sq∧sq<=b+2;omega,ak⟩,λr=>⟨Decidable.byContradiction λv=>i ⟨r,v⟩,λv=>?_⟩⟩
   ·rcases g.oz with h|h
    ·exact .inl ⟨h,λi p=>by have:=g.bad i p;omega⟩
    ·exact .inr h
   ·obtain⟨E,N,z,D,H,I,J,aV,K,L,A⟩:=(vK g q (y m q)).1 u;exact⟨E,N,z,D,H,I,J,yq,K,λh=>(L h).trans (Z m).symm,λ_ h=>A h⟩
   ·cases t:f with
    |false=>rfl
    |true=>
     have:=g.bad (.inl t) (g.XQ t).2;have:=(g.XQ t).2;omega
theorem N7{s':bK}{q:am}{ed lm:Int}{L:ct}{I:World}(r:kO c b last ed L M s x W){F:Int}(A:XC c a F da sn d)(cf:3<=c.n∧c.n<=6)(z:OpG c s x W sn d a da ya last b M k e o sq f n j){t:CM}(bd:iN I c.pb q t)(bb:(k.OK e o sq lm).X q t)(a9:fH k.toOpE (k.OK e o sq lm).R (k.OK e o sq lm).L t.last I s') :
  (∃D,kO c (b+2) t.last (ed+1) (if a=2 then L.set F.toNat da else L) D s' q I∧(a=3->(s'.NN sn).ou=-1∧(∀m,m<c.n->(D m sn).size=16)∧kw ((List.range c.n).map λm=>D m sn)=d7∧∀m,m<c.n->∃H U w,s'.HJ m sn=⟨true,H,U,w,D m sn,false,0,0,0,⟨#[]⟩⟩))∧t.last<=lm∧q.er=0∧q.busy=false∧(a=1->L[F.toNat]?=some q.dt)∧(q.lv sn).has=true:=by
 obtain⟨cr,cO,p⟩:=z.eq;have v:k.sn=sn:=by rw[p];rfl
 have b7:k.kd=a:=by rw[p];rfl
 have G:k.n=c.n:=by rw[p];rfl
 have b5:k.S=c.S:=by rw[p];rfl
 have b6:k.cb=c.cb:=by rw[p];rfl
 have cn:k.ed=ed:=by rw[p];exact r.XW
 have b8:k.Wf=x.lv:=by rw[p];rfl
 have b9:k.s0=s:=by rw[p];rfl
 have b4:k.b=c.b:=by rw[p];rfl
 have ak:k.Ar=c.Ar:=by rw[p];rfl
 obtain⟨h,ca⟩:=bb;obtain⟨Y,B,R,S,T,Z,⟨aV,ac,cm⟩,bs,bt⟩:=a9;rw[v]at R S T Z;rw[b9]at B R T;rw[b4]at Y;rw[G]at S;rw[ak]at ac;obtain⟨a2,a0,V,ad⟩:=OD z (HJ:=λm=>s'.HJ m sn) (l:=s'.NN sn) (lv:=q.lv sn) S Z (by rw[<-v];exact h.Yt);have cb:∀g,g≠sn->q.lv g=x.lv g:=λg J=>by rw[<-b8];exact h.lv g (by rw[v];exact J)
 have X:X8 c.n c.S (if a=2 then L.set F.toNat da else L) (Wu c.n sn d a da M):=by
  by_cases u:a=2
  ·rw[aA u];rcases A.kind with i|⟨i|i,w,N,O,P,Q⟩
   ·omega
   ·omega
   ·subst N P Q u;rw[cJ];exact Ld cf O i.2 r.X9
  ·rw[ay u,show Wu c.n sn d a da M=M from funext λm=>funext λg=>zK (.inr u)];exact r.X9
 have b2:t=⟨c.Ar,t.last,[]⟩:=by
  obtain⟨b0,l,aR⟩:=t;have y:b0=c.Ar:=h.Ar.trans ak;have u:aR=[]:=h.zL;subst y u;rfl
 refine⟨⟨_,⟨Y,by rw[B];exact r.sN,by rw[B];exact r.sS,by rw[B];exact r.sb,⟨aV,ac,cm⟩,bs,bt,by rw[B];exact r.Y7,by rw[<-b2];exact bd,by rw[h.N,G],by rw[h.S,b5],h.cb.trans b6,by rw[h.ed,cn],X,λg J=>?_⟩,λE=>?_⟩,ca,h.er,h.busy,λy=>?_,?_⟩
 ·by_cases C:g=sn
  ·subst C;exact⟨a2,a0,V⟩
  ·obtain⟨a3,a1,a4⟩:=r.str g J;rw[T g C,cb g C];exact⟨a3,a1,a4.mono yq (λm _=>R m g C) (λm _=>zK (.inl C))⟩
 ·have an:c.AQ=true->c.zz<0:=by
   rcases A.kind with i|⟨i|i,_⟩
   ·exact i.2.2.2.2
   ·omega
   ·omega
  have a5:=(ad E).1;have a6:=(ad E).2 an;obtain⟨co,cp,cq,a7,_⟩:=V.NN;refine⟨by rw[a7];exact a5,λm K=>X.sz sn A.Wi m K,X.X1 sn A.Wi,λm K=>?_⟩;obtain⟨H,U,w,aq,bk,cs,cA,cB,cC,bl,cK⟩:=V.Xw m K (.inr a6);refine⟨H,U,w,?_⟩;have a8:aq=Wu c.n sn d a da M m sn:=bl ?_
  ·rw[<-a8];exact bk
  ·cases bg:c.AQ with
   |false=>exact .inr rfl
   |true=>exact .inl (by have:=an bg;omega)
 ·have b3:q.dt=k.Yd o:=by have i:=h.Y2;rw[aA (b7.trans y)]at i;exact i
  have cl:W9 k.n λm=>M m k.sn:=by rw[G,v];exact z.YM
  have b1:Xy k o λm=>M m k.sn:=by rw[v];exact z.YN
  have u:=Uc z.xs z.Wv.ho cl b1;rcases A.kind with i|⟨_,w,N,O,P,Q⟩
  ·omega
  ·have E:=r.X9.at_ w O;rw[N,cJ,E,b3,u];unfold Yr;rw[P,Q,oT,cJ,v,G,show k.cn=d by rw[p];rfl]
 ·obtain⟨cL,y,_⟩:=h.Yt;rw[v]at y;rw[y];show(k.aV e o sq).has=true;unfold Be.aV;split
  ·rfl
  ·split<;>rfl
structure Cx(c:el)(d:Nat)(kd at_:Int)(da:ByteArray)(ya:Int)(L:ct)where
 (sn cn:Nat)
 (last lm:Int)
 s:bK
 x:am
 M:Nat->Nat->ByteArray
 W0:World
 k:Be
 (e o sq:Int)
 gone:Bool
 Q0:Nat->aZ->Prop
 L0:cQ->Prop
 hI:kO c (2*d) last d L M s x W0
 ho:XC c kd at_ da sn cn
 hG:OpG c s x W0 sn cn kd da ya last (2*d) M k e o sq gone Q0 L0
 hl:0<=last∧last+90<=lm∧lm<=4000000+100*((d:Int)+1)
def Cx.OK{c:el}{d:Nat}{a b:Int}{da:ByteArray}{ya:Int}{L:ct}(X:Cx c d a b da ya L):S2:=X.k.OK X.e X.o X.sq X.lm
def OE(c:el)(d:Nat)(L:ct)(pv:Value)(W:World):Prop:=∃a b f e,kO c (2*d) a d L e b f W∧b.pd=pv∧(0<=a∧a<=4000000+100*(d:Int))∧c.b<=W.z
def OF(c:el)(d:Nat)(b e:Int)(da:ByteArray)(ya:Int)(L:ct)(pv:Value)(lb:Nat)(W:World):Prop:=∃a:Cx c d b e da ya L,a.k.B0<=lb∧Ye a.k a.OK ya a.last a.Q0 a.L0 lb W∧fH a.k.toOpE a.Q0 a.L0 a.last W a.s∧a.s.pd=pv∧a.k.B0<=W.z
def fX(c:el)(d:Nat)(b e:Int)(da:ByteArray)(f:Int)(L:ct)(ya:Int)(tk m:Nat)(P:List bz)(pv:Value)(W:World):Prop:=∃(X:Cx c d b e da f L)(a:bK),WM X.k X.OK ya tk m P W a∧a.pd=pv∧a.sb=c.sb
def xp(c:el)(d:Nat)(g h:Int)(da:ByteArray)(a:Int)(L:ct)(t:Nat)(pv:Value)(lb:Nat)(W:World):Prop:=(t=0∧OF c d g h da a L pv lb W)∨(lb<=W.z∧∃(X:Cx c d g h da a L)(e:bK),e.pd=pv∧e.sb=c.sb∧X.k.B0<=W.z∧∃b f i j k m l,V5 X.k X.OK (a+(t:Int)) b f i j k m l [] W e∧13*b<=98∧(9*b:Int)+8+f.ta<=(100-t:Nat)+(a+(t:Int)))
def Sf(c:el)(d:Nat)(e f:Int)(da:ByteArray)(g:Int)(L:ct)(pv:Value)(W:World):Prop:=∃(X:Cx c d e f da g L)(b:bK)(x:am)(a:CM),iN W c.pb x a∧X.OK.X x a∧fH X.k.toOpE X.OK.R X.OK.L a.last W b∧b.pd=pv∧X.k.B0<=W.z
section
variable {c:el}{d:Nat}{a at_:Int}{da:ByteArray}{b ya:Int}{L:ct}{pv:Value}{lb t tk m:Nat}{P:List bz}
theorem Cx.pb(X:Cx c d a at_ da ya L):X.k.pb=c.pb∧X.k.cb=c.cb∧X.k.b=c.b∧X.k.lo=c.lo∧X.k.Ar=c.Ar∧X.k.B0=X.W0.z∧X.k.s0=X.s∧X.k.z=(if c.AQ=true then c.zz else -1)∧X.k.sn=X.sn:=by
 obtain⟨e,f,b⟩:=X.hG.eq;rw[b];exact⟨rfl,rfl,rfl,rfl,rfl,rfl,rfl,rfl,rfl⟩
theorem iN.Bw{i:Nat}{x:am}{f:CM}:W6 (λe=>iN e i x f):=λ_ _ _ _ a d c g=>by
 have b:=lI g
 exact⟨a.1.x2 d (λh=>aN (b _ rfl) (aw a.1) (c _ h)),λj=>(a.2.1 j).y4 d c (b _ rfl) (b _ rfl),a.2.2⟩
theorem ib.Bw{v8 h:Nat}{x:am}{d:CM}:W6 (λb=>ib b v8 h x d):=λ_ _ _ _ c g e f=>by
 have a:=lI f
 exact c.y4 g e (a _ rfl) (a _ rfl) (a _ rfl)
theorem V5.Bw{k:Be}{g:S2}{n:Nat}{p:HB}{A B D zL:List ar}{j:List bz}{s:bK}:W6 (λh=>V5 k g ya n p A B D zL j P h s):=λ_ _ _ _ b e c d=>by
 obtain⟨t,r⟩:=b.Wj.W2
 obtain⟨f,l,a⟩:=b.U2
 obtain⟨i,m,o,q⟩:=b.KS
 exact{ b with U2:=⟨f,ib.Bw _ _ _ _ l e c d,a.1,a.2.1,a.2.2.1,a.2.2.2.1,(r.Bw f zL).Bw _ _ _ _ a.2.2.2.2 e c d⟩,KS:=⟨i,m,o,fH.Bw _ _ _ _ q e c d⟩}
theorem WM.Bw{k:Be}{g:S2}{s:bK}:W6 (λj=>WM k g ya tk m P j s):=λ_ _ _ _ ⟨t,l⟩ a d e=>by
 refine⟨az t a.size,?_⟩
 rcases l with⟨n,o,f,h,i,y,q,b,c⟩|⟨p,r,b,c,u,v,w,x⟩
 ·exact .inl ⟨n,o,f,h,i,y,q,V5.Bw _ _ _ _ b a d e,c⟩
 ·exact .inr ⟨p,r,iN.Bw _ _ _ _ b a d e,c,u,v,fH.Bw _ _ _ _ w a d e,x⟩
theorem fX.Bw:W6 (fX c d a at_ da b L ya tk m P pv):=λ_ _ _ _ ⟨e,l,f,g,h⟩ k i j=>⟨e,l,WM.Bw _ _ _ _ f k i j,g,h⟩
theorem Sf.Bw:W6 (Sf c d a at_ da b L pv):=λ_ _ _ _ ⟨h,p,i,j,k,l,m,n,o⟩ e f g=>⟨h,p,i,j,iN.Bw _ _ _ _ k e f g,l,fH.Bw _ _ _ _ m e f g,n,az o e.size⟩
theorem OE.Bw:W6 (OE c d L pv):=λ_ _ _ _ ⟨m,h,i,g,a,j,k,l⟩ b e f=>⟨m,h,i,g,{a with KS:=cy.Bw _ _ _ _ a.KS b e f,U2:=iN.Bw _ _ _ _ a.U2 b e f},j,k,az l b.size⟩
theorem Ye.y4{k:Be}{g:S2}{s:Int}{m:Nat->aZ->Prop}{l:cQ->Prop}{w p:World}{T:br}{es:List TypeId}(h:Ye k g ya s m l lb w)(f:au T w p)(e:∀j,T j->cI es w j)(he:es.all (λa=>!((65::fw).contains a))=true):Ye k g ya s m l lb p:=by
 obtain⟨i,t,q,v,n,x,y,z,⟨u,o,A⟩,b,B⟩:=h;obtain⟨G,F⟩:=n.W2;have r:es.all (λa=>!(fw.contains a))=true:=bE.2 λa h=>by
  have c:=bE.1 he a h;simp at c ⊢;exact c.2
 have C:es.contains 65=false:=by
  cases D:es.contains 65 with
  |false=>rfl
  |true=>
   have c:=bE.1 he 65 (by simpa using D);simp at c
 have d:=lI r;exact⟨i,t,q,v,n,x,y,z,⟨u,o.x2 f (λE=>aN (d _ rfl) (aw o) (e _ E)),A.y4 f e (d _ rfl) (d _ rfl) C⟩,⟨b.1,b.2.1,b.2.2.1,b.2.2.2.1,(F.Bw q i.A1).Bw _ _ _ _ b.2.2.2.2 f e r⟩,B⟩
theorem OF.y4{w j:World}{T:br}{es:List TypeId}(h:OF c d a at_ da ya L pv lb w)(e:au T w j)(i:∀f,T f->cI es w f)(he:es.all (λb=>!((65::fw).contains b))=true):OF c d a at_ da ya L pv lb j:=by
 obtain⟨k,l,m,n,o,p⟩:=h;exact⟨k,l,m.y4 e i he,fH.Bw _ _ _ _ n e i (bE.2 λb h=>by
  have g:=bE.1 he b h;simp at g ⊢;exact g.2),o,az p e.size⟩
theorem Gc(u:iD c){sn o:Nat}(a5:d<=6)(a8:0<=ya∧ya<=100000)(l:XC c a at_ da sn o){w:World}(h:OE c d L pv w):aC 14 #[pt c.pb 0,i6 ya,.agg #[i6 a,i6 at_,sT da]] w (λn p=>n=.returned (i6 0)∧OF c d a at_ da ya L pv w.z p∧au (dx c.lo w) w p):=by
 obtain⟨i,A,j,y,e,U,a4,V⟩:=h;obtain⟨b,n,z,F,N,C,B,k⟩:=Tc u e (ya:=ya) l yq V yq;have I:=u.lo;have aV:Cx c d a at_ da ya L:=⟨sn,o,i,i+90,A,j,y,w,b,n,z,F,N,C,B,e,l,k,yq⟩;obtain⟨a1,a6,f⟩:=id k.eq;have W:b.n=c.n:=by rw[f];rfl
 have X:b.S=c.S:=by rw[f];rfl
 have M:b.sn=sn:=by rw[f];rfl
 have ac:b.cn=o:=by rw[f];rfl
 have x:b.kd=a:=by rw[f];rfl
 have H:b.da=da:=by rw[f];rfl
 have K:b.pb=c.pb:=by rw[f];rfl
 have G:b.cb=c.cb:=by rw[f];rfl
 have v:b.B0=w.z:=by rw[f];rfl
 have J:b.Wf=j.lv:=by rw[f];rfl
 have an:b.ed=d:=by rw[f];exact e.XW
 have ad:b.Ar=c.Ar:=by rw[f];rfl
 obtain⟨a3,O,ak⟩:=e.str sn l.Wi;have a7:b.lo=c.lo:=by rw[f];rfl
 obtain⟨P,aR⟩:=k.mode;have Y:iN w b.pb j ⟨b.Ar,i,[]⟩:=by rw[K,ad];exact e.U2
 have aq:Sub b at_ ya j i:=⟨by rw[W];exact e.xN,by rw[X];exact e.xS,by rw[G];exact e.cb,e.U2.2.2,by rw[an];exact e.XW,J.symm,by rw[J,M];exact ak.sc,by rw[x];rcases l.kind with h|⟨h|h,_⟩<;>omega,?_,yq,yq⟩
 ·have D:=LP k.xs (lm:=i+90) (O:=P) aq yq aR Y yq;rw[x,H,K,G,v]at D;refine D.mono λa2 p ⟨Q,R,r⟩=>⟨Q,⟨⟨sn,o,i,i+90,A,j,y,w,b,n,z,F,N,C,B,e,l,k,yq⟩,bC v,R,?_,U,?_⟩,?_⟩
  ·refine k.KS.x2 r λq E=>?_;rcases E with rfl|rfl|⟨g,_⟩|⟨g,_⟩
   ·exact .inr ⟨98,z1,aw e.U2.1⟩
   ·refine .inr ⟨124,z1,?_⟩;rw[<-e.cb];exact(e.U2.2.1 0).zq
   ·exact .inl (by rw[f];show c.b<=q;omega)
   ·exact .inl (by rw[f];show c.b<=q;omega)
  ·show b.B0<=p.z
   rw[v];exact r.size
  ·refine r.mono λq E Z=>?_;rcases Z with rfl|rfl|⟨g,_⟩|⟨g,_⟩
   ·exact⟨⟨98,rfl,aw e.U2.1⟩,I.1⟩
   ·refine⟨⟨124,rfl,?_⟩,I.2.1⟩;rw[<-e.cb];exact(e.U2.2.1 0).zq
   ·omega
   ·omega
 ·rw[x,H,M,ac];have s:j.N-1=((c.n-1:Nat):Int):=by rw[e.xN];have:=u.hn;omega
  rcases l.kind with⟨g,m,S,t,_⟩|⟨g,a0,m,S,t,T⟩
  ·exact .inl ⟨g,m,yq,t⟩
  ·refine .inr ⟨g,?_,?_,?_⟩
   ·rw[s,e.xS,m,<-Int.natCast_mul];omega
   ·rw[s,m,<-Int.natCast_ediv,t]
   ·rw[s,m,<-Int.natCast_emod,T]
end
theorem ia{es:List TypeId}(he:es.all (λa=>!((65::fw).contains a))=true):es.all (λa=>!(fw.contains a))=true∧es.contains 65=false:=by
 refine⟨bE.2 λa c=>?_,?_⟩
 ·have b:=bE.1 he a c;simp at b ⊢;exact b.2
 ·cases d:es.contains 65 with
  |false=>rfl
  |true=>
   have b:=bE.1 he 65 (by simpa using d);simp at b
def lF(lo:Nat)(W:World)(A:aY)(cp:Nat)(P:List bz):Prop:=ah W lo 65 26 A P.length cp (ai bz.cells P)
theorem lF.y4{lo:Nat}{A:aY}{cp:Nat}{P:List bz}{w b:World}{T:br}{es:List TypeId}(h:lF lo w A cp P)(e:au T w b)(d:∀a,T a->cI es w a)(he:es.all (λc=>!((65::fw).contains c))=true):lF lo b A cp P:=ah.y4 h e d (ia he).2
def n2(lo:Nat)(W:World)(y:Nat):Prop:=dx lo W y∨(lo<=y∧fm W 65 y)
def LI(c:el)(d:Nat)(L:ct)(W:World):Prop:=∃a b,lF c.lo W a b []∧OE c d L (yt a 0 b) W
def LR(c:el)(d:Nat)(e f:Int)(da:ByteArray)(g:Int)(L:ct)(t:Nat)(A:aY)(cp:Nat)(W:World):Prop:=lF c.lo W A cp []∧∃a,c.lo<=a∧(∀b,dg A b->b<a)∧a<=W.z∧xp c d e f da g L t (yt A 0 cp) a W
def LS(c:el)(d:Nat)(a b:Int)(da:ByteArray)(e:Int)(L:ct)(ya:Int)(tk m:Nat)(P:List bz)(A:aY)(cp:Nat)(W:World):Prop:=lF c.lo W A cp P∧fX c d a b da e L ya tk m P (yt A P.length cp) W
def LK(c:el)(d:Nat)(a b:Int)(da:ByteArray)(e:Int)(L:ct)(ya:Int)(tk m:Nat)(P:List bz)(i:Nat)(A:aY)(cp:Nat)(W:World):Prop:=lF c.lo W A cp (P.eraseIdx i)∧fX c d a b da e L ya tk m P (yt A (P.eraseIdx i).length cp) W
def LA(c:el)(d:Nat)(a b:Int)(da:ByteArray)(e:Int)(L:ct)(ya:Int)(tk m:Nat)(P P':List bz)(A:aY)(cp:Nat)(A':aY)(ca:Nat)(W:World):Prop:=lF c.lo W A cp P∧lF c.lo W A' ca P'∧fX c d a b da e L ya tk m (P++P') (yt A P.length cp) W
def LT(c:el)(d:Nat)(g h:Int)(da:ByteArray)(a:Int)(L:ct)(t:Nat)(W:World):Prop:=∃b f,(t=0∧LR c d g h da a L 0 b f W)∨(∃e,e<=100∧LS c d g h da a L (a+(t:Int)) (100-t) e [] b f W)
def LF(c:el)(d:Nat)(e f:Int)(da:ByteArray)(g:Int)(L:ct)(W:World):Prop:=∃a b,lF c.lo W a b []∧Sf c d e f da g L (yt a 0 b) W
def LZ(c:el)(d:Nat)(L:ct)(sn k:Nat)(f h i:Int)(W:World):Prop:=LI c d L W∧∃a l,cy W c.b a∧a.sb=c.sb∧a.kb=k∧a.N=c.n∧a.S=c.S∧a.NN sn=⟨f,h,i,-1⟩∧(∃e:Nat->ByteArray,(∀b,b<c.n->(e b).size=16)∧kw ((List.range c.n).map e)=d7∧∀b,b<c.n->∃g d j,a.HJ b sn=⟨true,g,d,j,e b,false,0,0,0,⟨#[]⟩⟩)∧a.pd=l
section
variable {c:el}{d:Nat}{b at_:Int}{da:ByteArray}{a ya:Int}{L:ct}{pv:Value}{lb t tk m i:Nat}{P P':List bz}{A A':aY}{cp ca:Nat}
theorem LI.Bw:mM (LI c d L):=λ_ _ _ _ ⟨A,cp,f,g⟩ e a b=>⟨A,cp,f.y4 e a b,OE.Bw _ _ _ _ g e a (ia b).1⟩
theorem xp.y4{w k:World}{T:br}{es:List TypeId}(h:xp c d b at_ da a L t pv lb w)(e:au T w k)(j:∀i,T i->cI es w i)(he:es.all (λo=>!((65::fw).contains o))=true):xp c d b at_ da a L t pv lb k:=by
 rcases h with⟨f,g⟩|⟨s,n,y,f,g,u,p,q,A,l,m,z,r,v,x⟩
 ·exact .inl ⟨f,g.y4 e j he⟩
 ·exact .inr ⟨az s e.size,n,y,f,g,az u e.size,p,q,A,l,m,z,r,V5.Bw _ _ _ _ v e j (ia he).1,x⟩
theorem LR.Bw:mM (LR c d b at_ da a L t A cp):=λ_ _ _ _ ⟨h,lb,i,j,k,l⟩ e f g=>⟨h.y4 e f g,lb,i,j,az k e.size,l.y4 e f g⟩
theorem LS.Bw:mM (LS c d b at_ da a L ya tk m P A cp):=λ_ _ _ _ e h f g=>⟨e.1.y4 h f g,fX.Bw _ _ _ _ e.2 h f (ia g).1⟩
theorem LK.Bw:mM (LK c d b at_ da a L ya tk m P i A cp):=λ_ _ _ _ e h f g=>⟨e.1.y4 h f g,fX.Bw _ _ _ _ e.2 h f (ia g).1⟩
theorem LA.Bw:mM (LA c d b at_ da a L ya tk m P P' A cp A' ca):=λ_ _ _ _ e h f g=>⟨e.1.y4 h f g,e.2.1.y4 h f g,fX.Bw _ _ _ _ e.2.2 h f (ia g).1⟩
theorem LT.Bw:mM (LT c d b at_ da a L t):=λ_ _ _ _ ⟨A,cp,e⟩ h f g=>⟨A,cp,e.imp (λe=>⟨e.1,LR.Bw _ _ _ _ e.2 h f g⟩) λ⟨m,i,j⟩=>⟨m,i,LS.Bw _ _ _ _ j h f g⟩⟩
theorem LF.Bw:mM (LF c d b at_ da a L):=λ_ _ _ _ ⟨A,cp,h,i⟩ g e f=>⟨A,cp,h.y4 g e f,Sf.Bw _ _ _ _ i g e (ia f).1⟩
theorem LZ.Bw{sn n:Nat}{f g h:Int}:mM (LZ c d L sn n f g h):=λ_ _ _ _ ⟨k,i,j,l,m⟩ e a b=>⟨LI.Bw _ _ _ _ k e a b,i,j,cy.Bw _ _ _ _ l e a (ia b).1,m⟩
theorem E'(o:iD c){sn m:Nat}(p:d<=6)(t:0<=a∧a<=100000)(q:XC c b at_ da sn m){W:World}(s:c.lo<=W.z)(h:LI c d L W):aC 14 #[pt c.pb 0,i6 a,.agg #[i6 b,i6 at_,sT da]] W (λg f=>g=.returned (i6 0)∧LT c d b at_ da a L 0 f∧au (dx c.lo W) W f):=by
 obtain⟨A,cp,i,n⟩:=h;refine(Gc o p t q n).mono λg f ⟨k,l,e⟩=>⟨k,⟨A,cp,.inl ⟨rfl,ah.y4 i e (λ_ h=>h.1) rfl,W.z,s,λj r=>(ah.own i j r).2,e.size,.inl ⟨rfl,l⟩⟩⟩,e⟩
theorem xp.busy{W:World}(h:xp c d b at_ da a L t pv lb W):∃g,A2 W c.pb 98 (am.cells g)∧g.busy=true:=by
 rcases h with⟨_,f,_,⟨q,n,v,_,_,_,_,_,⟨r,e,_⟩,i,_⟩,_⟩|⟨_,f,u,_,_,_,o,p,A,l,m,w,s,k,_⟩
 ·rw[f.pb.1]at e;exact⟨_,e,i.1.busy⟩
 ·obtain⟨g,e,i⟩:=k.U2;have j:=e.1;rw[f.pb.1]at j;exact⟨_,j,i.1.busy⟩
theorem OG{W:World}(h:LT c d b at_ da a L t W):(t<=99∧(∃A cp,LR c d b at_ da a L t A cp W)∧aC 15 #[pt c.pb 0] W (bf (bO_ true) W))∨(LF c d b at_ da a L W∧aC 15 #[pt c.pb 0] W (bf (bO_ false) W)):=by
 obtain⟨A,cp,⟨rfl,h⟩|⟨m,N,i,g,v,⟨k,q⟩,l,n⟩⟩:=h
 ·obtain⟨i,lb,k,q,l,n⟩:=h;obtain⟨f,o,p⟩:=xp.busy n;have e:=i7 f c.pb W o;rw[p]at e;exact .inl ⟨yq,⟨A,cp,i,lb,k,q,l,n⟩,e⟩
 ·rcases q with⟨x,y,B,C,D,M,E,u,j,s⟩|⟨f,F,j,s,G,w,J,r⟩
  ·have G:=u.tm;have w:Wp []=0:=rfl;have H:t<=99:=by omega
   have K:c.lo<=W.z:=by
    have:=g.hG.xs.XI;rw[g.pb.2.2.2.1]at this;omega
   have r:xp c d b at_ da a L t (yt A 0 cp) W.z W:=.inr ⟨bT _,g,v,l,n,k,x,y,B,C,D,M,E,u,yq,s⟩;obtain⟨f,o,p⟩:=xp.busy r;have e:=i7 f c.pb W o;rw[p]at e;exact .inl ⟨H,⟨A,cp,i,W.z,K,λz I=>(ah.own i z I).2,bT _,r⟩,e⟩
  ·rw[g.pb.1]at j;have e:=i7 _ c.pb W j.1;rw[show({f with ak:=yt none 0 0}:am).busy=f.busy from rfl,j.2.2]at e;exact .inr ⟨⟨A,cp,i,g,v,f,F,j,w,J,l,k⟩,e⟩
theorem pU{lo v8 e c:Nat}{es:List TypeId}{W:World}(i:fm W 98 e)(j:fm W 124 c)(f:lo<=e∧lo<=c∧lo<=v8∧lo<=lb)(he:es.all (λa=>fw.contains a)=true):∀b,be es v8 lb e c W b->n2 lo W b:=λb k=>by
 rcases k with rfl|rfl|⟨g,a,d,h⟩|⟨g,d⟩
 ·exact .inl ⟨⟨98,rfl,i⟩,f.1⟩
 ·exact .inl ⟨⟨124,rfl,j⟩,f.2.1⟩
 ·exact .inl ⟨⟨a,bE.1 he a (by simpa using d),h⟩,yq⟩
 ·exact .inr ⟨yq,d⟩
theorem IG{lo:Nat}{W:World}{f:Int}{L':List ar}(h:ah W lb 65 26 A' L'.length ca (aJ f L'))(a:lo<=lb):lF lo W A' ca (L'.map (eV f)):=by
 unfold lF;rw[<-xq,ey];exact h.below a
theorem M5(a4:iD c)(cn:0<=a∧a<=100000)(cb:t<=99){W:World}(h:LR c d b at_ da a L t A cp W):aC 16 #[pt c.pb 0,i6 (a+(t:Int)+1)] W (λk f=>∃P' A' ca,k=.returned (yt A' (List.length P') ca)∧LA c d b at_ da a L (a+(t:Int)+1) (99-t) 100 [] P' A cp A' ca f∧au (n2 c.lo W) W f):=by
 obtain⟨w,lb,Z,bs,cf,H⟩:=h;have ac:=a4.lo;have ad:∀(e:Cx c d b at_ da a L)(n:bK),fm W 98 c.pb->fm W 124 c.cb->n.pd=yt A 0 cp->n.sb=c.sb->aC 16 #[pt e.k.pb 0,i6 (a+(t:Int)+1)] W (λk f=>∃i o ca,k=.returned (yt o (List.length i) ca)∧ah f lb 65 26 o i.length ca (aJ e.k.Ar i)∧WM e.k e.OK (a+(t:Int)+1) (99-t) 100 (i.map (eV e.k.Ar)) f n∧au (be [141] e.k.B0 lb e.k.pb e.k.cb W) W f) ->
   aC 16 #[pt c.pb 0,i6 (a+(t:Int)+1)] W (λk f=>∃P' A' ca,k=.returned (yt A' (List.length P') ca)∧LA c d b at_ da a L (a+(t:Int)+1) (99-t) 100 [] P' A cp A' ca f∧au (n2 c.lo W) W f):=λe n q r bt I V=>by
  obtain⟨s,u,K,D,M,N,O,P,Q⟩:=e.pb;have S:=e.hG.xs.XI;rw[D]at S;rw[s,u]at V;refine V.mono λk f ⟨i,o,ca,z,B,C,v⟩=>?_;have a3:∀g,dg A g->¬be [141] e.k.B0 lb c.pb c.cb W g:=λg p x=>by
   have l:=ah.ty w g p;rcases x with rfl|rfl|⟨_,x⟩|⟨x,_⟩
   ·exact absurd (bS l q) (by decide)
   ·exact absurd (bS l r) (by decide)
   ·exact aN rfl l x
   ·have:=bs g p;omega
  refine⟨i.map (eV e.k.Ar),o,ca,by rw[ey];exact z,⟨ah.x2 w v a3,IG B Z,e,n,by rw[List.nil_append];exact C,bt,I⟩,v.mono λg _ p=>pU q r ⟨ac.1,ac.2.1,S.2.1,Z⟩ rfl g p⟩
 rcases H with⟨rfl,e,l,⟨ak,b1,Y,b9,an,aq,aR,aV,j,J,a0,a1⟩,E,F,G⟩|⟨R,e,n,l,a2,E,b2,b3,b5,b6,b7,cm,b8,T,F,G⟩
 ·obtain⟨s,u,K,D,M,N,O,P,Q⟩:=e.pb;have I:e.s.sb=c.sb:=e.hI.sb;have q:fm W 98 c.pb:=by
   obtain⟨y,j,_⟩:=j;rw[s]at j;exact aw j
  have r:fm W 124 c.cb:=by
   obtain⟨y,_,j⟩:=j;have:=j.1.zq;rw[show({Y with lb:=lb}:am).cb=Y.cb from rfl,J.1.cb,u]at this;exact this
  obtain⟨a6,a7,a8,a9,bb,bd,⟨y,bg,b0⟩,bk,bl⟩:=E
  exact ad e e.s q r F I (Lw e.hG.xs.tooO an yq j J (by rw[aq,aR];omega) ⟨a6,a7,a8,λm U=>a0 m _ U (a9 m U),bb,a1 _ bd,⟨y,bg,by rw[aV];exact b0⟩,bk,bl⟩ G l yq)
 ·obtain⟨s,u,K,D,M,N,O,P,Q⟩:=e.pb;obtain⟨b4,X,a5⟩:=T.U2;have q:fm W 98 c.pb:=by rw[<-s];exact aw X.1
  have r:fm W 124 c.cb:=by
   have:=X.2.zq;rw[a5.1.cb,u]at this;exact this
  refine ad e n q r l a2 ((Oi e.hG.xs.tooO T E F (tk:=99-t) (by rw[show 99-t+1=100-t by omega];exact G) yq).mono λk f ⟨i,o,ca,z,B,C,v⟩=>⟨i,o,ca,z,B.below R,C,v.mono λg _ p=>?_⟩);rcases p with h|h|h|⟨w,H⟩
  ·exact .inl h
  ·exact .inr (.inl h)
  ·exact .inr (.inr (.inl h))
  ·exact .inr (.inr (.inr ⟨az R w,H⟩))
theorem Rx{W:World}(h:LR c d b at_ da a L t A cp W):aC 15 #[pt c.pb 0] W (bf (bO_ true) W):=by
 obtain⟨k,lb,l,m,n,j⟩:=h;obtain⟨f,g,i⟩:=xp.busy j;have e:=i7 f c.pb W g;rw[i]at e;exact e
theorem Ii{W:World}(h:LF c d b at_ da a L W):aC 15 #[pt c.pb 0] W (bf (bO_ false) W):=by
 obtain⟨A,cp,k,i,n,e,j,g,m,l,o,p⟩:=h;have f:=i7 _ c.pb W g.1;rw[show({e with ak:=yt none 0 0}:am).busy=e.busy from rfl,g.2.2]at f;exact f
theorem M4{W:World}(h:LT c d b at_ da a L t W):(t<=99∧∃A cp,LR c d b at_ da a L t A cp W)∨LF c d b at_ da a L W:=(OG h).imp (λh=>⟨h.1,h.2.1⟩) λh=>h.1
theorem Rz{W:World}(hm:m<=100)(h:LS c d b at_ da a L (a+(t:Int)+1) (99-t) m [] A cp W):LT c d b at_ da a L (t+1) W:=⟨A,cp,.inr ⟨m,hm,by rw[show a+((t+1:Nat):Int)=a+(t:Int)+1 by omega,show 100-(t+1)=99-t by omega];exact h⟩⟩
theorem rW{lo:Nat}{S:br}{W f:World}(j:∀y,n2 lo W y->S y)(l:au S W f){y:Nat}(h:n2 lo f y):S y∨W.z<=y:=by
 by_cases i:y<W.z
 ·by_cases e:S y
  ·exact .inl e
  ·refine .inl (j y ?_);rcases h with⟨⟨g,k,d,b,a⟩,c⟩|⟨c,d,b,a⟩<;>rw[l.block y i e]at a
   ·exact .inl ⟨⟨g,k,d,b,a⟩,c⟩
   ·exact .inr ⟨c,d,b,a⟩
 ·exact .inr yq
theorem M6{lo:Nat}{W:World}:∀b,n2 lo W b->cI (65::fw) W b:=λb e=>by
 rcases e with⟨⟨d,c,a⟩,_⟩|⟨_,a⟩
 ·exact⟨d,by simp at c ⊢;exact .inr c,a⟩
 ·exact⟨65,z1,a⟩
theorem TL{lo:Nat}{w0 w:World}{S:br}{bk:ax}{wn:List Wn}{c:Nat}(hm:ab w0 S bk wn c w)(b:bk.all (λa=>!(65::fw).contains a.t)=true):∀a∈bk,¬n2 lo w a.g:=bI hm (es:=65::fw) M6 b
theorem LR.cell{W:World}(h:LR c d b at_ da a L t A cp W):W.cell? ⟨c.sb,4,none⟩=some (yt A 0 cp):=by
 obtain⟨y,lb,z,B,C,o⟩:=h;have m:∀f:bK,cy W c.b f->f.sb=c.sb->f.pd=yt A 0 cp->W.cell? ⟨c.sb,4,none⟩=some (yt A 0 cp):=λf i j k=>by
  rw[<-j,<-k];exact i.KS.at_ rfl
 rcases o with⟨_,e,_,_,k,n,_⟩|⟨_,e,D,i,j,_,q,r,u,v,w,E,x,p,_⟩
 ·have g:=k.1;rw[e.pb.2.2.1]at g;exact m _ g e.hI.sb n
 ·obtain⟨s,_,_,g⟩:=p.KS;have l:=g.1;rw[e.pb.2.2.1]at l;exact m _ l j i
end
variable {a W:World}{k:Be}{s:bK}{g:S2}{ya:Int}{tk m:Nat}{P:List bz}
theorem Dv{S T c:br}{w:World}(h:au S w a)(g:au T w a)(i:∀b,S b->T b->c b):au c w a:=⟨h.os,h.tape,h.output,h.size,λb f j=>by
 by_cases d:S b
 ·by_cases e:T b
  ·exact absurd (i b d e) j
  ·exact g.block b f e
 ·exact h.block b f d⟩
theorem RQ(c:cZ k){e o sq lm:Int}(b:WW k e o sq):ra k (k.OK e o sq lm).R:=by
 show ra k (k.aR e o sq)
 have d:=b.toWk;have h:=d.he;have n:=b.X3;unfold Be.aR;split
 ·rename_i f;obtain⟨a,g,_⟩:=b.XV f;exact FM c d λj m i l=>⟨IF c d a g yq,rfl⟩
 ·split
  ·rename_i a;exact rg c d (b.YG a.1 a.2).1
  ·exact mL c yq
theorem fH.We{k:OpE}{F:Nat->aZ->Prop}{b:cQ->Prop}{zv:Int}{v:Value}(h:fH k F b zv W s)(e:cy a k.b {s with pd:=v}):fH k F b zv a {s with pd:=v}:=by
 obtain⟨f,c,d⟩:=h;exact⟨e,congrArg (λs:bK=>{s with pd:=v}) c,d⟩
theorem iN.YH{w:World}{f y:Nat}{x:am}{c:CM}(h:iN w f x c)(e:au (λx=>x=y) w a)(g:fm w 54 y):iN a f x c:=by
 have d:∀x,x=y->cI [54] w x:=λx b=>by subst b;exact⟨54,z1,g⟩
 exact⟨h.1.x2 e (λb=>aN rfl (aw h.1) (d _ b)),λi=>(h.2.1 i).y4 e d rfl rfl,h.2.2⟩
theorem WM.We{v:Value}(h:WM k g ya tk m P W s)(e:au (λl=>l=s.sb) W a)(i:fm W 54 s.sb)(n:cy a k.b {s with pd:=v}):WM k g ya tk m P a {s with pd:=v}:=by
 have J:∀b,b=s.sb->cI [54] W b:=λb j=>by subst j;exact⟨54,z1,i⟩
 obtain⟨D,h⟩:=h;refine⟨az D e.size,?_⟩;rcases h with⟨r,t,A,p,q,o,w,d,f⟩|⟨b,x,E,f,F,G,H,I⟩
 ·obtain⟨M,L⟩:=d.Wj.W2;obtain⟨b,y,c⟩:=d.U2;obtain⟨u,z,B,C⟩:=d.KS;exact .inl ⟨r,t,A,p,q,o,w,{d with U2:=⟨b,y.y4 e J rfl rfl rfl,c.1,c.2.1,c.2.2.1,c.2.2.2.1,L.Bw b o _ _ _ c.2.2.2.2 e λl K=>.inl λj=>by subst K;exact aN rfl i j⟩,KS:=⟨u,z,B,C.We n⟩},f⟩
 ·exact .inr ⟨b,x,E.YH e i,f,F,G,H.We n,I⟩
theorem WM.Xu(h:WM k g ya tk m P W s):cy W k.b s:=by
 obtain⟨_,⟨f,i,A,d,e,p,n,c,_⟩|⟨l,o,_,_,_,_,b,_⟩⟩:=h
 ·obtain⟨j,_,_,a⟩:=c.KS;exact a.1
 ·exact b.1
theorem RR(P:List bz):P.length<=Wp P:=by
 induction P with
 |nil=>exact bT _
 |cons a b c=>
  show b.length+1<=(bif a.an then 1 else 2)+Wp b
  cases a.an<;>simp<;>omega
theorem WM.len(h:WM k g ya tk m P W s):P.length<=m:=by
 have:=RR P;obtain⟨_,⟨d,e,A,b,c,o,i,n,a,_⟩|⟨f,j,_,_,_,_,l,_,a⟩⟩:=h<;>omega
section
variable {c:el}{d:Nat}{b at_:Int}{da:ByteArray}{f ya:Int}{L:ct}{pv:Value}{lb t tk m i:Nat}{P P':List bz}{A A':aY}{cp ca:Nat}{W:World}
theorem fX.len(h:fX c d b at_ da f L ya tk m P pv W):P.length<=m:=by
 obtain⟨e,g,a,_⟩:=h;exact a.len
theorem fX.zq(h:fX c d b at_ da f L ya tk m P pv W):∃j k q n v,A2 W c.sb 54 [i6 j,i6 k,yt q c.n n,.pointer v,pv]:=by
 obtain⟨g,a,i,r,s⟩:=h;have t:=i.Xu;have e:=t.KS;unfold bK.cells at e;have l:a.N=c.n:=by
  have o:a={g.k.s0 with HJ:=a.HJ,NN:=a.NN,ids:=a.ids,says:=a.says,pd:=a.pd}:=by
   obtain⟨_,⟨y,z,A,w,x,F,D,u,_⟩|⟨C,E,_,_,_,_,e,_⟩⟩:=i
   ·obtain⟨B,_,_,p⟩:=u.KS;exact p.2.1
   ·exact e.2.1
  rw[o];show g.k.s0.N=c.n;rw[g.pb.2.2.2.2.2.2.1];exact g.hI.sN
 rw[r,s,l]at e;exact⟨_,_,_,_,_,e⟩
theorem fX.cell(h:fX c d b at_ da f L ya tk m P pv W):W.cell? ⟨c.sb,4,none⟩=some pv:=by
 obtain⟨_,_,_,_,_,a⟩:=h.zq;exact a.at_ rfl
theorem fX.We{a:World}{v:Value}(h:fX c d b at_ da f L ya tk m P pv W)(l:au (λn=>n=c.sb) W a)(q:∀s,cy W c.b s->s.sb=c.sb->s.pd=pv->cy a c.b {s with pd:=v}):fX c d b at_ da f L ya tk m P v a:=by
 obtain⟨e,r,j,o,g⟩:=h;have i:=j.Xu;have p:=aw i.KS;rw[e.pb.2.2.1]at i;have k:=q r i g o;rw[<-e.pb.2.2.1]at k;rw[<-g]at l;exact⟨e,_,j.We l p k,rfl,g⟩
theorem fX.lo(h:fX c d b at_ da f L ya tk m P pv W):c.lo<=W.z:=by
 obtain⟨a,g,⟨e,_⟩,_⟩:=h;have:=a.hG.xs.XI;rw[a.pb.2.2.2.1]at this;omega
theorem M7(B:iD c)(hm:m<=100){l:bz}(h:LS c d b at_ da f L ya tk m P A cp W)(C:P[i]?=some l):aC 17 #[pt c.sb 0,i6 (i:Int)] W (λp a=>∃A' g,p=.returned (.agg l.cells.toArray)∧LK c d b at_ da f L ya tk m P i A' g a∧au (dx c.lo W) W a):=by
 obtain⟨z,o⟩:=h;obtain⟨j,E,r,y,e⟩:=id o;have k:=r.Xu;have n:=aw k.KS;rw[j.pb.2.2.1]at k;have G:=o.len;rw[e]at n;have s:=N2 k ⟨A,cp,y,z⟩ o.lo yq C;rw[e]at s;refine s.mono λp a ⟨u,⟨t,v,⟨A',g,w,x⟩⟩,q⟩=>⟨A',g,u,⟨x,?_⟩,q.mono λF _ D=>?_⟩
 ·obtain rfl:t=.slice A' (P.eraseIdx i).length g:=w;refine⟨j,{E with pd:=yt A' (P.eraseIdx i).length g},r.We (by rw[e];exact q) (by rw[e];exact n) (by rw[j.pb.2.2.1,e];exact v),rfl,e⟩
 ·subst D;exact⟨⟨54,rfl,n⟩,B.Yo⟩
theorem vl(F:iD c){l:bz}(h:LK c d b at_ da f L ya tk (m+1) P i A cp W)(aR:P[i]?=some l) :
  (l.an=false∧c.AQ=true∧0<=c.zz∧l.to=c.zz∧LS c d b at_ da f L ya tk m (P.eraseIdx i) A cp W) ∨
  (l.an=false∧(c.AQ=true->l.to≠c.zz)∧(l.to<c.n∨l.to=100)∧aC 18 #[pt c.sb 0,i6 ya,.agg l.cells.toArray] W (λj a=>∃k,j=.returned (.tuple #[.agg (bz.cells k).toArray,bO_ true])∧(lF c.lo a A cp (P.eraseIdx i)∧fX c d b at_ da f L ya tk m (P.eraseIdx i++[k]) (yt A (P.eraseIdx i).length cp) a)∧au (dx c.lo W) W a)) ∨
  (l.an=true∧l.to=c.Ar∧aC 19 #[pt c.pb 0,i6 ya,.agg l.cells.toArray] W (λj a=>∃P' A' ca,j=.returned (yt A' (List.length P') ca)∧LA c d b at_ da f L ya tk m (P.eraseIdx i) P' A cp A' ca a∧au (dx c.lo W) W a)):=by
 obtain⟨C,M⟩:=h;have R:=M.lo;obtain⟨e,Q,y,z,B⟩:=id M;obtain⟨I,J,bg,K,an,bk,aq,x,bl⟩:=e.pb;have aV:e.k.n=c.n:=by
  have:=e.hG.xs.sN;rw[aq,e.hI.sN]at this;exact this.symm
 have N:=e.hG.xs.XI;rw[K]at N;rcases N6 e.hG.xs.tooO (RQ e.hG.xs e.hG.Wv) y aR with⟨p,n,g,r⟩|⟨p,⟨n,g⟩,r⟩|⟨p,n,g⟩
 ·have o:c.AQ=true:=by
   cases o:c.AQ with
   |true=>rfl
   |false=>
    rw[x,o]at g;exact absurd (show(0:Int)<=-1 from g) (by decide)
  rw[x,aA o]at n g;exact .inl ⟨p,o,g,n,C,e,Q,r,z,B⟩
 ·refine .inr (.inl ⟨p,λo=>?_,?_,?_⟩)
  ·rw[x,aA o]at n;exact n
  ·rw[aV]at g;exact g
  ·rw[B]at r;refine r.mono λj a ⟨k,a6,t,u,v,w,q⟩=>⟨k,t,⟨ah.y4 C q (λ_ h=>h.1) rfl,e,a6,u,w.trans z,v⟩,q.mono λbb _ O=>?_⟩;obtain⟨⟨j,ac,ad⟩,H,bd⟩:=O;rw[K]at H;exact⟨⟨j,by simpa using bE.1 (show([61,73,3,63]:List TypeId).all fw.contains=true from rfl) j (by simpa using ac),ad⟩,H⟩
 ·refine .inr (.inr ⟨p,n.trans an,?_⟩);rw[I,J]at g;refine g.mono λj a ⟨Y,X,ca,t,u,v,w,q⟩=>?_;have a7:fm W 98 c.pb:=by
   rw[<-I];obtain⟨_,⟨U,V,A,S,T,a9,Z,D,_⟩|⟨s,ak,E,_⟩⟩:=y
   ·obtain⟨s,G,_⟩:=D.U2;exact aw G.1
   ·exact aw E.1
  have a8:fm W 124 c.cb:=by
   rw[<-J];obtain⟨_,⟨U,V,A,S,T,a9,Z,D,_⟩|⟨s,ak,E,a1,_⟩⟩:=y
   ·obtain⟨s,G,a3⟩:=D.U2;have:=G.2.zq;rw[a3.1.cb]at this;exact this
   ·have:=(E.2.1 0).zq;rw[a1]at this;exact this
  have a0:lF c.lo a A cp (P.eraseIdx i):=ah.y4 C q (λ_ h=>h) rfl;refine⟨Y.map (eV e.k.Ar),X,ca,by rw[ey];exact t,⟨a0,IG u R,e,Q,v,z,B⟩,Dv (w.mono λk _ a2=>pU a7 a8 ⟨F.lo.1,F.lo.2.1,N.2.1,R⟩ rfl k a2) q λk a4 a5=>⟨a5,a4.elim (λh=>h.2) λh=>h.1⟩⟩
theorem qL(h:LA c d b at_ da f L ya tk m P P' A cp A' ca W)(hm:m<=100) :
  ∃e g a,(Builtin.append_ #[50,50] 50 #[yt A P.length cp,yt A' P'.length ca]).run prog W=.ok (yt e (P++P').length g) a∧(lF c.lo a e g (P++P')∧fX c d b at_ da f L ya tk m (P++P') (yt A P.length cp) a)∧au (dg A) W a:=by
 obtain⟨n,o,j⟩:=h;have p:=j.len;rw[bM]at p;obtain⟨e,g,a,k,i,l⟩:=mu (P:=prog) W _ _ 50 50 65 (.agg #[i6 0,i6 0,i6 0,bO_ false,i6 0,i6 0,i6 0,i6 0,i6 0,i6 0,i6 0,i6 0,sT ⟨#[]⟩,i6 0,i6 0,i6 0,bO_ false,i6 0,i6 0,i6 0,sT ⟨#[]⟩,bO_ false,i6 0,i6 0,i6 0,sT ⟨#[]⟩]) 26 232 _ P.length _ _ _ P'.length _ _ v7 v7 v7 (by decide) n o (vm _) yq (by decide) j.lo;rw[<-bM]at k i;rw[rh]at i;exact⟨e,g,a,k,⟨i,fX.Bw _ _ _ _ j l (bW n) rfl⟩,l⟩
theorem uI(h:lF c.lo W A' ca P∧fX c d b at_ da f L ya tk m P pv W) :
  ∃a,(Instr.storeAt 50 (pt c.sb 4) (yt A' P.length ca)).run prog W=.ok () a∧LS c d b at_ da f L ya tk m P A' ca a∧au (λj=>j=c.sb) W a∧a.z=W.z:=by
 obtain⟨p,q⟩:=h;obtain⟨D,E,H,G,I,i⟩:=q.zq;obtain⟨a,u,w,e,x⟩:=cG (P:=prog) (t:=50) (o:=4) (v:=yt A' P.length ca) v7 i rfl (by show 4+1<=5;omega) (aU rfl) rfl;refine⟨a,u,⟨ah.x2 p e (λj y r=>?_),q.We e λs k l F=>?_⟩,e,x⟩
 ·subst r;exact absurd (bS (ah.ty p _ y) (aw i)) (by decide)
 ·refine k.We (by rw[l];exact e) ?_;have g:=k.KS;unfold bK.cells at g ⊢;rw[l]at g ⊢;have n:([i6 (s.N:Int),i6 (s.S:Int),yt (ae s.gO) s.N s.cO,pt s.kb 0,s.pd]:av)=_:=(g.inj i).2;simp only[List.cons.injEq]at n;obtain⟨z,A,B,C,_⟩:=n;show A2 a c.sb 54 [i6 (s.N:Int),i6 (s.S:Int),yt (ae s.gO) s.N s.cO,pt s.kb 0,yt A' P.length ca];rw[z,A,B,C];exact w
theorem Ij(G:iD c){sn x:Nat}(r:XC c b at_ da sn x){W:World}(h:LF c d b at_ da f L W) :
  ∃o,aC 20 #[pt c.pb 0] W (bf (.tuple #[i6 0,sT o,i6 ((d:Int)+1)]) W)∧aC 15 #[pt c.pb 0] W (bf (bO_ false) W)∧(b=1->L[at_.toNat]?=some o)∧LI c (d+1) (if b=2 then L.set at_.toNat da else L) W∧(b=3->∃K s t u,LZ c (d+1) L sn K s t u W):=by
 obtain⟨A,cp,p,a,g,e,n,j,E,D,Y,a8⟩:=h;obtain⟨ac,ad,y,ak,an,aq,aR,aV,a0⟩:=a.pb;have Z:a.sn=sn:=by
  rcases a.ho.kind with⟨z,B,_⟩|⟨z,w,B,a1,C,a2⟩<;>rcases r.kind with⟨H,I,_⟩|⟨H,M,I,a5,J,a6⟩
  ·omega
  ·omega
  ·omega
  ·obtain rfl:w=M:=by omega
   exact C.symm.trans J
 obtain⟨⟨k,i,q⟩,a4,U,S,T,_⟩:=N7 (ed:=(d:Int)) a.hI a.ho G.hn a.hG j E D;rw[Z]at q;have X:=(j.2.1 0).1.last;have a7:=a.hl;have F:c.b<=W.z:=by
  have:=a.hG.xs.hb;rw[y]at this;omega
 have R:kO c (2*(d+1:Nat)) n.last (d+1:Nat) (if b=2 then L.set at_.toNat da else L) k g e W:=by
  have v:(2*(d+1:Nat):Int)=2*(d:Int)+2:=by omega
  rw[v];exact i
 have l:LI c (d+1) (if b=2 then L.set at_.toNat da else L) W:=⟨A,cp,p,n.last,g,e,k,R,Y,⟨X,by rw[show((d+1:Nat):Int)=(d:Int)+1 by omega];omega⟩,F⟩;refine⟨e.dt,?_,?_,T,l,λV=>?_⟩
 ·have:=Dw _ c.pb W j.1;rw[show({e with ak:=yt none 0 0}:am).er=e.er from rfl,U,show({e with ak:=yt none 0 0}:am).ed=e.ed from rfl,i.XW]at this;exact this
 ·have:=i7 _ c.pb W j.1;rw[show({e with ak:=yt none 0 0}:am).busy=e.busy from rfl,S]at this;exact this
 ·obtain⟨N,O,P,Q⟩:=q V;rw[ay yq]at l;refine⟨g.kb,(g.NN sn).ep,(g.NN sn).hd,(g.NN sn).un,l,g,_,i.KS,i.sb,rfl,i.sN,i.sS,?_,⟨λm=>k m sn,O,P,Q⟩,rfl⟩;rw[<-N]
theorem M8(a:iD c){l:bz}(h:LK c d b at_ da f L ya tk (m+1) P i A cp W)(e:P[i]?=some l):(l.an=false∧c.AQ=true∧0<=c.zz∧l.to=c.zz∧LS c d b at_ da f L ya tk m (P.eraseIdx i) A cp W)∨(l.an=false∧(c.AQ=true->l.to≠c.zz)∧(l.to<c.n∨l.to=100))∨(l.an=true∧l.to=c.Ar):=(vl a h e).imp_right λh=>h.imp (λh=>⟨h.1,h.2.1,h.2.2.1⟩) λh=>⟨h.1,h.2.1⟩
theorem Ry(o:iD c){l:bz}(h:LK c d b at_ da f L ya tk (m+1) P i A cp W)(p:P[i]?=some l)(n:l.an=false)(q:c.AQ=true->l.to≠c.zz):aC 18 #[pt c.sb 0,i6 ya,.agg l.cells.toArray] W (λj a=>∃g,j=.returned (.tuple #[.agg (bz.cells g).toArray,bO_ true])∧(lF c.lo a A cp (P.eraseIdx i)∧fX c d b at_ da f L ya tk m (P.eraseIdx i++[g]) (yt A (P.eraseIdx i).length cp) a)∧au (dx c.lo W) W a):=by
 rcases vl o h p with⟨_,e,_,k,_⟩|⟨_,_,_,h⟩|⟨e,_⟩
 ·exact absurd k (q e)
 ·exact h
 ·rw[n]at e;cases e
theorem M9(k:iD c){l:bz}(h:LK c d b at_ da f L ya tk (m+1) P i A cp W)(n:P[i]?=some l)(g:l.an=true):aC 19 #[pt c.pb 0,i6 ya,.agg l.cells.toArray] W (λj a=>∃P' A' ca,j=.returned (yt A' (List.length P') ca)∧LA c d b at_ da f L ya tk m (P.eraseIdx i) P' A cp A' ca a∧au (dx c.lo W) W a):=by
 rcases vl k h n with⟨e,_⟩|⟨e,_⟩|⟨_,_,h⟩
 ·rw[g]at e;cases e
 ·rw[g]at e;cases e
 ·exact h
def LY(c:el)(d:Nat)(b at_:Int)(da:ByteArray)(f:Int)(L:ct)(ya:Int)(tk m:Nat)(P:List bz)(y:bz)(A:aY)(cp:Nat)(W:World):Prop:=lF c.lo W A cp P∧fX c d b at_ da f L ya tk m (P++[y]) (yt A P.length cp) W
theorem LY.Bw{y:bz}:mM (LY c d b at_ da f L ya tk m P y A cp):=λ_ _ _ _ a h e g=>⟨a.1.y4 h e g,fX.Bw _ _ _ _ a.2 h e (ia g).1⟩
def LB(c:el)(d:Nat)(b at_:Int)(da:ByteArray)(f:Int)(L:ct)(ya:Int)(tk m:Nat)(P:List bz)(pv:Value)(A:aY)(cp:Nat)(W:World):Prop:=lF c.lo W A cp P∧fX c d b at_ da f L ya tk m P pv W
theorem LB.Bw:mM (LB c d b at_ da f L ya tk m P pv A cp):=λ_ _ _ _ a h e g=>⟨a.1.y4 h e g,fX.Bw _ _ _ _ a.2 h e (ia g).1⟩
theorem KK{y:bz}{g:Nat}(h:LY c d b at_ da f L ya tk m P y A cp W)(i:c.lo<=g)(e:A2 W g 65 y.cells):LA c d b at_ da f L ya tk m P [y] A cp (ae g) 1 W:=⟨h.1,by
 have a:ai bz.cells [y]=y.cells:=by simp[ai]
 show ah W c.lo 65 26 (ae g) 1 1 (ai bz.cells [y])
 rw[a]
 exact jn (r:=[]) i (by rw[dD];exact e) (bT _) (by simp only[maxLen];omega) (by rw[lG]) (by rw[dD,lG]),h.2⟩
theorem Na(n:iD c){sn k:Nat}(o:XC c b at_ da sn k)(h:LF c d b at_ da f L W):aC 20 #[pt c.pb 0] W (λg a=>∃e,g=.returned (.tuple #[i6 0,sT e,i6 ((d:Int)+1)])∧LF c d b at_ da f L a∧(b=1->L[at_.toNat]?=some e)∧au (dx c.lo W) W a):=by
 obtain⟨e,l,_,m,_⟩:=Ij n o h;exact l.mono λg a ⟨j,i⟩=>⟨e,j,LF.Bw _ _ _ [] h i (λ_ h=>h.elim) rfl,m,i.mono λ_ _ h=>h.elim⟩
theorem LI.len(h:LI c d L W):L.length=c.S*(c.n-1):=by
 obtain⟨_,_,_,f,s,e,b,a,_⟩:=h;exact a.X9.len
end
def Xv(c d:Int)(lo N S b a:Nat)(W:World):Prop:=lo<=b∧lo<=a∧iN W b (Lm (N:Int) (S:Int) a) ⟨c,d,[]⟩
abbrev NP:=Xv 201 3145728
def XY(g h:Int)(lo b N S i f e:Nat)(zv:Int)(W:World):Prop:=Xv g h lo N S i f W∧b<=W.z∧lo<=b∧lo<=e∧∃a:bK,cy W b a∧a.sb=e∧xV lo a∧a.N=N∧a.S=S∧(∀c,a.NN c=⟨0,0,0,-1⟩)∧a.ids=[0,0]∧a.says.length=2∧a.pd=yt none 0 0∧∀d c,c<S->a.HJ d c=if (d:Int)=zv then Dn else qY
abbrev NS:=XY 201 3145728
variable {fr a:Int}
theorem Xv.Bw{lo N S i b:Nat}:mM (Xv fr a lo N S i b):=λ_ _ _ _ ⟨c,d,e⟩ h f g=>⟨c,d,iN.Bw _ _ _ _ e h f (ia g).1⟩
theorem NP.Bw{lo N S b a:Nat}:mM (NP lo N S b a):=Xv.Bw
theorem XY.Bw{lo b N S n g o:Nat}{zv:Int}:mM (XY fr a lo b N S n g o zv):=λ_ _ _ _ ⟨h,i,j,k,f,l,m⟩ c d e=>⟨Xv.Bw _ _ _ _ h c d e,az i c.size,j,k,f,cy.Bw _ _ _ _ l c d (ia e).1,m⟩
theorem NS.Bw{lo b N S c a d:Nat}{zv:Int}:mM (NS lo b N S c a d zv):=XY.Bw
theorem Dx{nr bt:Int}{N S lo:Nat}(m:0<=nr∧nr<2)(l:1<=bt∧bt<=524287)(p:3<=N∧N<=6)(q:1<=S∧S<=8)(w:World)(r:lo<=w.z):aC 8 #[.agg #[i6 (N:Int),i6 (S:Int)],i6 nr,i6 bt] w (λc b=>∃d e,c=.returned (pt d 0)∧Xv (200+nr) (bt*1048576) lo N S d e b∧au (dx lo w) w b):=
 (RT (N:Int) (S:Int) nr bt yq m l w).mono λc b ⟨j,k,f,n,o,g,h,i⟩=>⟨j,k,f,⟨yq,yq,g,λs=>⟨⟨Nat.zero_le _,by show(0:Int)<=bt*1048576;omega,λ_ a=>(by cases a),λ_ a=>(by cases a)⟩,none,0,h,ah.nil _ _ _ _⟩,rfl⟩,i.mono λ_ _ a=>a.elim⟩
theorem Rw{N S lo:Nat}(e:3<=N∧N<=6)(f:1<=S∧S<=8)(w:World)(g:lo<=w.z):aC 8 #[.agg #[i6 (N:Int),i6 (S:Int)],i6 1,i6 3] w (λc b=>∃a d,c=.returned (pt a 0)∧NP lo N S a d b∧au (dx lo w) w b):=Dx (by decide) (by decide) e f w g
theorem Ih{N S lo j i:Nat}(r:3<=N∧N<=6)(s:1<=S∧S<=8)(w:World)(l:lo<=w.z)(h:Xv fr a lo N S j i w):aC 9 #[.agg #[i6 (N:Int),i6 (S:Int)]] w (λf d=>∃k m,f=.returned (pt k 0)∧XY fr a lo m N S j i k (-1) d∧au (dx lo w) w d):=
 (RM N S r s w).mono λf d ⟨g,p,q,⟨b,c,v⟩,e⟩=>⟨g.sb,d.z,p,⟨Xv.Bw _ _ _ [] h e (λ_ h=>h.elim) rfl,bT _,az l e.size,yq,g,q,rfl,⟨by have:=c.1;omega,by have:=c.2.1;omega,by have:=c.2.2.1;omega,λo t=>az l (c.2.2.2 o t)⟩,b.sN,b.sS,λn=>by rw[b.NN],b.ids,by rw[b.says];rfl,b.pd,λu n _=>by rw[b.HJ,ay yq]⟩,e.mono λ_ _ h=>h.elim⟩
theorem N8{lo b N S u q o n:Nat}(D:n<N)(C:S<=8){w:World}(h:NS lo b N S u q o (-1) w):aC 12 #[pt o 0,i6 (n:Int)] w (λa p=>a=Jx∧NS lo b N S u q o (n:Int) p∧au (dx lo w) w p):=by
 obtain⟨m,y,z,A,d,B,rfl,r,rfl,rfl,f⟩:=h;refine(NI d b n lo D C r w B).mono λa p ⟨v,x,g⟩=>⟨v,⟨⟨m.1,m.2.1,?_⟩,az y g.size,z,A,d.SS n d.S,x,rfl,r,rfl,rfl,f.1,f.2.1,f.2.2.1,f.2.2.2.1,λc i t=>?_⟩,g.mono λj _ ⟨⟨a,e,k⟩,l⟩=>⟨⟨a,by simp at e;subst e;decide,k⟩,l⟩⟩
 ·obtain⟨_,_,e,k,l⟩:=m;have s:∀j,y9 lo w j->cI [61] w j:=λ_ h=>h.1;exact⟨e.x2 g (λE=>aN rfl (aw e) (s _ E)),λF=>(k F).y4 g s rfl rfl,l⟩
 ·show(if c=n∧i<d.S then Dn else d.HJ c i)=_
  rw[f.2.2.2.2 c i t,ay (show ¬((c:Int)=-1)by omega)];by_cases a:c=n
  ·rw[aA ⟨a,t⟩,aA yq]
  ·rw[ay yq,ay yq]
theorem KN{lo b N S d c a:Nat}{ls:Int}(i:0<=ls∧ls<(N:Int))(g:S<=8){w:World}(h:NS lo b N S d c a (-1) w):aC 12 #[pt a 0,i6 ls] w (λf e=>f=Jx∧NS lo b N S d c a ls e∧au (dx lo w) w e):=by
 obtain⟨j,rfl⟩:=Int.eq_ofNat_of_zero_le i.1;exact N8 yq g h
abbrev N9(fr:Int)(lo b c a N S d:Nat)(AQ:Bool)(zz:Int):el:=⟨lo,b,c,a,N,S,d,AQ,zz,fr⟩
abbrev Ls:=N9 201
theorem M2{lo b N S d c e:Nat}{zv zz:Int}{AQ:Bool}(f:3<=N∧N<=6)(g:1<=S∧S<=8)(i:-1<=zz∧zz<(N:Int)){W:World}(h:XY fr a lo b N S d c e zv W)(j:200<=fr∧fr<202:=by decide):iD (N9 fr lo b d c N S e AQ zz):=⟨f,g,i,⟨h.1.1,h.1.2.1,h.2.2.1⟩,h.2.2.2.1,j⟩
theorem vn{lo b N S s k t:Nat}{zv zz:Int}{AQ:Bool}(B:3<=N∧N<=6)(l:(zv=-1∧(AQ=true∨zz=-1))∨(zv=zz∧0<=zz∧AQ=false)){W:World}(h:XY fr a lo b N S s k t zv W)(J:200<=fr∧fr<202:=by decide)(F:0<=a∧a<=4000000:=by decide):∃d p v,kO (N9 fr lo b s k N S t AQ zz) 0 a 0 (List.replicate (S*(N-1)) d7) v d p W∧d.pd=yt none 0 0∧(∀c,(p.lv c).has=false)∧b<=W.z:=by
 obtain⟨w,x,H,I,d,y,rfl,z,rfl,rfl,g,q,A,E,u⟩:=h;refine⟨d,Lm (d.N:Int) (d.S:Int) k,λ_ _=>d7,⟨y,rfl,rfl,rfl,⟨0,by rw[q];show([0,0]:bB)[Int.toNat (fr-200)]?=some 0;rcases (show fr=200∨fr=201 by omega)with rfl|rfl<;>rfl,F.1⟩,by rw[q];rfl,A,z,w.2.2,rfl,rfl,rfl,rfl,RJ B,λc r=>?_⟩,E,λ_=>rfl,x⟩;refine⟨decide (0<=zv),-1,⟨⟨0,0,0,g c,yq,.inl rfl,λh=>Bool.noConfusion h⟩,.inl ⟨rfl,λ_ _=>rfl⟩,λh=>?_,λf D o=>?_,λf D o C=>?_,⟨cS _,by show(0:Int)<=0;omega⟩,⟨cS _,by show(0:Int)<=1000000;decide⟩⟩⟩
 ·have h:=gV h;rcases l with⟨e,_⟩|⟨e,m,n⟩
  ·omega
  ·exact⟨n,m⟩
 ·have i:d.HJ f c=qY:=by
   rw[u f c r,ay];intro i;rcases o with j|j
   ·rcases l with⟨e,_⟩|⟨e,m,n⟩
    ·omega
    ·exact j (i.trans e)
   ·have:=of_decide_eq_false j;omega
  refine⟨0,0,0,d7,i,?_,?_,yq,by decide,λ_=>rfl,λh=>Bool.noConfusion h⟩
  ·rw[g c];exact⟨cS _,cS _⟩
  ·rw[g c];exact⟨cS _,cS _⟩
 ·have G:=gV C;refine⟨0,?_,cS _,?_⟩
  ·show d.HJ f c=_
   rw[u f c r,aA]
   ·rfl
   ·rcases l with⟨e,_⟩|⟨e,m,n⟩
    ·omega
    ·exact o.trans e.symm
  ·rw[g c];exact cS _
theorem nG{lo b N S d c e:Nat}{zv zz:Int}{AQ:Bool}(n:3<=N∧N<=6)(o:(zv=-1∧(AQ=true∨zz=-1))∨(zv=zz∧0<=zz∧AQ=false)){W:World}(h:XY fr a lo b N S d c e zv W)(p:200<=fr∧fr<202:=by decide)(f:0<=a∧a<=4000000:=by decide):LI (N9 fr lo b d c N S e AQ zz) 0 (List.replicate (S*(N-1)) d7) W:=by
 obtain⟨i,j,g,k,l,_,m⟩:=vn n o h p f;exact⟨none,0,ah.nil _ _ _ _,a,i,j,g,k,l,⟨f.1,by show a<=4000000+100*0;omega⟩,m⟩
theorem M3(x:i1):Xb x=1∨Xb x=2∨Xb x=3:=by
 have a:=fx (x.v 1) 7 yq;unfold Xb;omega
theorem TK{c:el}(h:iD c){x:i1}{d:Int}{q:Nat}{da:ByteArray}(s:Xb x=d)(e:Xz (c.S:Int) (c.n:Int) x=(q:Int))(a:XS x=da)(m:d=3->c.AQ=true->c.zz<0):∃i j,XC c d (q:Int) da i j∧(d=3->i=q∧q<c.S)∧(d≠3->q<c.S*(c.n-1)):=by
 have r:=h.hn;have l:=h.hS;have o:=M3 x;unfold Xz at e;unfold XS at a;have k:(c.S:Int)*((c.n:Int)-1)=((c.S*(c.n-1):Nat):Int):=by rw[Int.natCast_mul,Int.natCast_sub yq];rfl
 have p:1*2<=c.S*(c.n-1):=Nat.mul_le_mul l.1 yq;by_cases g:Xb x=3
 ·rw[aA g]at e;rw[ay yq]at a;have n:=fx (x.v 2) (c.S:Int) yq;exact⟨q,0,⟨yq,yq,.inl ⟨yq,rfl,rfl,a.symm,m yq⟩⟩,λ_=>⟨rfl,yq⟩,λb=>by omega⟩
 ·rw[ay g,k]at e;have n:=fx (x.v 2) ((c.S*(c.n-1):Nat):Int) yq;have f:q<c.S*(c.n-1):=by omega
  refine⟨q/(c.n-1),q%(c.n-1),⟨Nat.div_lt_of_lt_mul (by rw[Nat.mul_comm];exact f),Nat.mod_lt _ yq,.inr ⟨?_,q,rfl,f,rfl,rfl⟩⟩,λb=>by omega,λ_=>f⟩;rcases o with b|b|b
  ·rw[ay yq]at a;exact .inl ⟨yq,a.symm⟩
  ·rw[aA b]at a;exact .inr ⟨yq,by rw[<-a];exact KW _ _⟩
  ·omega
theorem KM{c:el}{d sn f:Nat}{L:ct}{a b e:Int}{W:World}(h:LZ c d L sn f a b e W)(hs:sn<c.S):aC 21 #[pt f 0,i6 (sn:Int)] W (bf (.tuple #[.agg #[i6 a,i6 b,i6 e,i6 (-1)],bO_ true]) W):=by
 obtain⟨_,g,k,i,l,rfl,m,n,j,_⟩:=h;exact La g c.b sn a b e (-1) yq j W i
theorem Fa{c:el}(p:iD c){d sn q:Nat}{L:ct}{e f i:Int}{W:World}(h:LZ c d L sn q e f i W)(hs:sn<c.S):aC 22 #[pt c.sb 0,i6 (sn:Int)] W (bf (bO_ true) W):=by
 obtain⟨_,j,r,n,o,s,a,t,u,⟨g,k,l,m⟩,_⟩:=h;have v:=p.hn;have b:=vg j c.b sn g yq yq (by rw[a];exact k) (by rw[a];exact l) W n (by rw[a];exact m);rw[o]at b;exact b
theorem LZ.cell{c:el}{d sn a:Nat}{L:ct}{b e f:Int}{W:World}(h:LZ c d L sn a b e f W):W.cell? ⟨c.sb,3,none⟩=some (pt a 0):=by
 obtain⟨_,j,k,g,i,rfl,_⟩:=h;rw[<-i];exact g.KS.at_ rfl
theorem zh  (w:World):aC 26 #[.agg #[i6 0,i6 0]] w (bf (bO_ false) w):=by
 refine cH (S:=z8) (n:=14) Tryz.func26 (ab.none w _) ?_;refine z6 23 (dz 14 0x2000010108000010008002000800) [2] [vV] [(w.z,0,2),(w.z,0,1),(w.z,1,1)] [.code [1,1]] [⟨w.z,23,true,[i6 0,i6 0]⟩] [] (w.z+1) ?_;refine B1 [] [bO_ false] [] ?_;intro b a;exact⟨rfl,a.x2⟩
theorem Tv  (w:World):aC 8 #[.agg #[i6 0,i6 0],i6 0,i6 1] w (bf (.pointer none) w):=by
 refine cH (S:=z8) (n:=34) Tryz.func8 (ab.none w _) ?_;refine z6 12 (dz 3 33556480) [1,2,3,6,7] [] [(w.z,0,2)] [.ops (Ac 12) [1,2,3,4,5,6,7,8,9,10,11,12,13,14,15,16,17,18],y6 13,.code [1,1]] [⟨w.z,23,true,[i6 0,i6 0]⟩] [] (w.z+1) ?_;refine DV (bO_ false) _ _ (some 8) [] tI rfl (λb a=>zh b) λc d=>?_;refine z6 26 (dz 19 0x131103110311031100) [1,2,3,6] (rE 13 tT) [] [y6 53,.code [1,1]] [⟨w.z,23,true,[i6 0,i6 0]⟩] [] c ?_;refine B1 [] [.pointer none] [] ?_;intro b a;exact⟨rfl,a.x2⟩
def WI(k:Be)(l0:Int):HB:=Wm k 0 0 (l0+1) k.E1 (-1)
def WN(k:Be)(l0:Int):HB:=WY k 0 0 (WI k l0).last k.E1 (-1) 0
def WR(k:Be)(l0:Int):HB:=J5 k false 0 0 (WN k l0).last k.E1 (-1) 1
def Yc(k:Be)(l0:Int):HB:=J5 k true 0 0 (WR k l0).last k.E1 (-1) 1
structure WS(k:Be)(l0 lm:Int):Prop where
 xs:cZ k
 kd:k.kd=2
 Qn:k.Qn=false
 z:k.z<0
 zl:k.zl<0
 Wv:WW k k.E1 (-1) 0
 n:k.n=3
 bd:0<=l0∧l0+90<=lm∧lm<=800000000
section
variable {k:Be}{l0 lm:Int}
theorem mN(h:WS k l0 lm):(0<=(WI k l0).last∧(WI k l0).last<=l0+10)∧(0<=(WN k l0).last∧(WN k l0).last<=l0+20):=by
 have j:=h.n;have i:=h.bd;have e:=zo k 0 0 (l0+1) k.E1 (-1);have f:=mP (k:=k) 0 0 (WI k l0).last k.E1 (-1) 0;have a:=vo h.xs (-1);have d:0<=(Wm k 0 0 (l0+1) k.E1 (-1)).last:=by unfold HB.last;show 0<=l0+1+_;omega
 have b:(WI k l0).last=(Wm k 0 0 (l0+1) k.E1 (-1)).last:=rfl;have c:(WN k l0).last=(WY k 0 0 (WI k l0).last k.E1 (-1) 0).last:=rfl;have g:(k.R (-1)).length<=6:=by rw[a];split;omega;split<;>omega
 omega
theorem Ta(h:WS k l0 lm):k.oc (-1)≠(k.n:Int)-1:=by
 have b:=h.n;have a:k.oc (-1)=-1:=by unfold Be.oc jV;rw[aA rfl]
 omega
theorem T5(h:WS k l0 lm){b:Int}(c:Xm k b):False:=by
 obtain⟨a,d⟩:=c;have:=h.z;have:=h.zl;rcases a with a|a<;>omega
theorem Dy(h:WS k l0 lm):0<=(WR k l0).last∧(WR k l0).last<=l0+30:=by
 have b:=mN h;have d:=kP (c:=false) (t:=0) (ta:=0) (zv:=(WN k l0).last) (e:=k.E1) (o:=-1) (sq:=1) h.xs;have f:=lJ h.xs (-1);have a:(WR k l0).last=(J5 k false 0 0 (WN k l0).last k.E1 (-1) 1).last:=rfl;omega
def WZ(k:Be)(l0 lm:Int):S2:=⟨λb a=>(k.OK k.E1 (-1) 0 lm).X b a∧(WR k l0).last<a.last,(k.OK k.E1 (-1) 0 lm).R,(k.OK k.E1 (-1) 0 lm).L⟩
theorem Stp.OK{g b:S2}{N:HB->Prop}{p:HB}(h:Stp k g N p)(I:∀a,g.X a ⟨k.Ar,p.last,[]⟩->b.X a ⟨k.Ar,p.last,[]⟩)(H:b.R=g.R)(G:b.L=g.L):Stp k b N p:={h with on:=λj z A a J l f i B C D E F=>(h.on j z A a J l f i B C D E F).mono λL M ⟨x,⟨K,w,m,n,o,c⟩,y⟩=>⟨x,⟨K,w,m,n,o,c.imp_right λc=>c.imp_right λ⟨q,r,d,s,t,e,u,v⟩=>⟨q,r,d,s,t,by rw[d]at e ⊢;exact I _ e,by rw[H];exact u,by rw[G];exact v⟩⟩,y⟩}
theorem pW(h:WS k l0 lm):Stp k (WZ k l0 lm) z8 (Yc k l0):=by
 have f:=Dy h;have j:=h.bd;refine Stp.OK (Ln h.xs h.Wv h.kd ⟨yq,yq⟩:ci k (k.OK k.E1 (-1) 0 lm) 0 (Yc k l0)) (λb a=>⟨a,?_⟩) rfl rfl;have g:=kP (c:=true) (t:=0) (ta:=0) (zv:=(WR k l0).last) (e:=k.E1) (o:=-1) (sq:=1) h.xs;have i:=lJ h.xs (-1);have d:(Yc k l0).last=(J5 k true 0 0 (WR k l0).last k.E1 (-1) 1).last:=rfl;show _<(Yc k l0).last;omega
theorem IJ(h:WS k l0 lm){n:Nat}{N:HB->Prop}(f:∀b,N b->∃a,a+1=n∧ci k (WZ k l0 lm) a b)(g:N (Yc k l0)):Stp k (WZ k l0 lm) N (WR k l0):=by
 have i:=mN h;have j:=h.bd;obtain⟨c,d,e⟩:=h.Wv.XV h.kd;exact tn h.xs f h.Wv.toWk c d yq e ⟨yq,yq⟩ (λ_=>g) (λh=>by cases h)
theorem pX(h:WS k l0 lm):ci k (WZ k l0 lm) 1 (WR k l0):=IJ h ci.nn (pW h)
theorem IK(h:WS k l0 lm){n:Nat}{N:HB->Prop}(c:∀b,N b->∃a,a+1=n∧ci k (WZ k l0 lm) a b)(d:N (WR k l0)):Stp k (WZ k l0 lm) N (WN k l0):=by
 have g:=mN h;have i:=h.bd;obtain⟨e,f,_⟩:=h.Wv.XV h.kd;exact IL h.xs h.kd c h.Wv.toWk e f yq ⟨yq,yq⟩ (Ta h) d
theorem pY(h:WS k l0 lm):ci k (WZ k l0 lm) 2 (WN k l0):=IK h ci.nn (pX h)
theorem IM(h:WS k l0 lm){n:Nat}{N:HB->Prop}(e:∀b,N b->∃a,a+1=n∧ci k (WZ k l0 lm) a b)(f:N (WN k l0)):Stp k (WZ k l0 lm) N (WI k l0):=by
 have d:=mN h;have g:=h.bd;have j:=h.zl;exact zp h.xs e h.Wv.he h.Wv.ho ⟨yq,yq⟩ (λi c _=>(T5 h c).elim) (λc=>yq) (λ_=>vp (lm:=lm) h.xs h.Wv h.kd ⟨yq,d.1.1,by show(WI k l0).last+20<=lm;omega,g.2.2⟩ (Ta h) f)
theorem vq(h:WS k l0 lm):ci k (WZ k l0 lm) 3 (WI k l0):=IM h ci.nn (pY h)
theorem IN(h:WS k l0 lm){N:HB->Prop}(a:N (WI k l0)):Stp k (WZ k l0 lm) N (Xn k 0 0 l0 (-1)):=by
 have b:=h.bd;exact zr h.xs yq ⟨yq,yq⟩ a
def Xo(k:Be)(l0:Int):Nat->HB
 |0=>Xn k 0 0 l0 (-1)
 |1=>WI k l0
 |2=>WN k l0
 |3=>WR k l0
 |_=>Yc k l0
def awN:Nat->Nat
 |0=>1
 |1=>3
 |_=>2
theorem Tb(h:WS k l0 lm):∀a,a<=4->ci k (WZ k l0 lm) (4-a) (Xo k l0 a)∧Stp k (WZ k l0 lm) (λd=>a<4∧d=Xo k l0 (a+1)) (Xo k l0 a)∧(∀d,(a<4∧d=Xo k l0 (a+1))->∃s,s+1=4-a∧ci k (WZ k l0 lm) s d)∧(a<4->(Xo k l0 a).last<=(WR k l0).last):=by
 have g:=mN h;have P:=kP (c:=false) (t:=0) (ta:=0) (zv:=(WN k l0).last) (e:=k.E1) (o:=-1) (sq:=1) h.xs;have R:=mP (k:=k) 0 0 (WI k l0).last k.E1 (-1) 0;have K:l0+1<=(WI k l0).last:=by show l0+1<=l0+1+_;omega
 have u:(WR k l0).last=(J5 k false 0 0 (WN k l0).last k.E1 (-1) 1).last:=rfl;have v:(WN k l0).last=(WY k 0 0 (WI k l0).last k.E1 (-1) 0).last:=rfl;have J:(Xo k l0 0).last=l0+1:=rfl;intro a M;have f:a=0∨a=1∨a=2∨a=3∨a=4:=by omega
 rcases f with rfl|rfl|rfl|rfl|rfl
 ·exact⟨IN h (N:=ci k (WZ k l0 lm) 3) (vq h),IN h ⟨by decide,rfl⟩,λd b=>⟨3,rfl,by rw[b.2];exact vq h⟩,λ_=>by omega⟩
 ·exact⟨vq h,IM h (n:=3) (λd b=>⟨2,rfl,by rw[b.2];exact pY h⟩) ⟨by decide,rfl⟩,λd b=>⟨2,rfl,by rw[b.2];exact pY h⟩,λ_=>by show(WI k l0).last<=_;omega⟩
 ·exact⟨pY h,IK h (n:=2) (λd b=>⟨1,rfl,by rw[b.2];exact pX h⟩) ⟨by decide,rfl⟩,λd b=>⟨1,rfl,by rw[b.2];exact pX h⟩,λ_=>by show(WN k l0).last<=_;omega⟩
 ·exact⟨pX h,IJ h (n:=1) (λd b=>⟨0,rfl,by rw[b.2];exact pW h⟩) ⟨by decide,rfl⟩,λd b=>⟨0,rfl,by rw[b.2];exact pW h⟩,λ_=>cS _⟩
 ·refine⟨pW h,?_,λd b=>absurd b.1 (by decide),λb=>absurd b (by decide)⟩;have q:=pW h;exact{ q with on:=λo g i j r z w x f m p E F=>(q.on o g i j r z w x f m p E F).mono λe Q ⟨u,⟨H,D,A,B,C,l⟩,v⟩=>⟨u,⟨H,D,A,B,C,l.imp_right λl=>l.imp_left λ⟨d,y,_⟩=>y.elim⟩,v⟩,gone:=λG I j r g i f m p=>(q.gone G I j r g i f m p).elim λ_ h=>h.elim λ_ h=>h.1.elim}
theorem IP(h:WS k l0 lm):∀a,a<=4->(Xo k l0 a).A1.length=awN a:=by
 have l:=h.n;have p:=kP (c:=false) (t:=0) (ta:=0) (zv:=(WN k l0).last) (e:=k.E1) (o:=-1) (sq:=1) h.xs;have q:=kP (c:=true) (t:=0) (ta:=0) (zv:=(WR k l0).last) (e:=k.E1) (o:=-1) (sq:=1) h.xs;have r:=mP (k:=k) 0 0 (WI k l0).last k.E1 (-1) 0;have m:=vo h.xs (-1);have e:k.oc (-1)=-1:=by unfold Be.oc jV;rw[aA rfl]
 rw[ay yq,ay yq]at m;have s:(k.W (-1)).length=2:=by
  unfold Be.W dq;rw[e,ay yq,ay yq];rfl
 have i:∀b:HB,b.A1.length=b.P.length:=λb=>dL ..;have d:∀b:HB,b.last=b.zv+(b.P.length:Int):=λb=>rfl;intro a n;have j:a=0∨a=1∨a=2∨a=3∨a=4:=by omega
 rw[i];rcases j with rfl|rfl|rfl|rfl|rfl
 ·rfl
 ·show(dK k.n (-1) (k.sn:Int) k.E1).length=3
  rw[l];rfl
 ·have f:=d (WY k 0 0 (WI k l0).last k.E1 (-1) 0);have g:(WY k 0 0 (WI k l0).last k.E1 (-1) 0).zv=(WI k l0).last:=rfl;show(WY k 0 0 (WI k l0).last k.E1 (-1) 0).P.length=2;omega
 ·have f:=d (J5 k false 0 0 (WN k l0).last k.E1 (-1) 1);have g:(J5 k false 0 0 (WN k l0).last k.E1 (-1) 1).zv=(WN k l0).last:=rfl;show(J5 k false 0 0 (WN k l0).last k.E1 (-1) 1).P.length=2;omega
 ·have f:=d (J5 k true 0 0 (WR k l0).last k.E1 (-1) 1);have g:(J5 k true 0 0 (WR k l0).last k.E1 (-1) 1).zv=(WR k l0).last:=rfl;show(J5 k true 0 0 (WR k l0).last k.E1 (-1) 1).P.length=2;omega
theorem RU{g:S2}{ya:Int}{n:Nat}{p:HB}{A D zL:List ar}{d P:List bz}{W:World}{s:bK}(w:k.z<0)(hs:k.Qn=false)(b:V5 k g ya n p A [] D zL d P W s)(o:∀a∈P,a.an=false):D=[]∧d=[]∧zL.Perm A:=by
 obtain⟨t,r⟩:=b.Wj.W2;have m:D=[]:=by
  cases D with
  |nil=>rfl
  |cons j l=>
   obtain⟨_,_,_,c,e,f⟩:=b.XX j A4;have h:=r.Yb c e;omega
 have q:d=[]:=by
  cases d with
  |nil=>rfl
  |cons a l=>
   have e:=b.st a A4;have f:a∈P:=b.WB.symm.subset (by unfold fO;simp);have h:=o a f
   cases e with
   |ask c _ _ _ _ i=>rw[hs]at i;cases i
   |say c x _ _ _=>cases h
   |mute c v u=>omega
 subst m q;exact⟨rfl,rfl,by simpa using b.perm⟩
theorem Dz{g:S2}{ya:Int}{n:Nat}{p:HB}{A D zL:List ar}{i P:List bz}{W:World}{s:bK}(r:k.z<0)(hs:k.Qn=false)(c:V5 k g ya n p A [] D zL i P W s)(o:∀d∈P,d.an=false):V5 k g ya n p zL [] [] zL [] (zL.map (eV k.Ar)) W s:=by
 obtain⟨rfl,rfl,b⟩:=RU r hs c o;refine{ c with perm:=by simp,Xh:=λf e=>c.Xh f (by rw[dD]at e ⊢;exact b.subset e),XX:=λt q=>(by cases q),WB:=by unfold fO;simp,KS:=?_};obtain⟨h,j,l,m⟩:=c.KS;refine⟨h,λa=>j ((lH b _).1 a),l,m.mono (λu v _ a=>?_) (λd a=>?_) (cS _)⟩
 ·unfold HB.F at a ⊢;rwa [lH b]
 ·unfold HB.K at a ⊢;rwa [lH b]
theorem Oc{g:S2}{ya:Int}{n:Nat}{p:HB}{o:ar}{ls zL:List ar}{W:World}{s:bK}(r:oO k)(t:V5 k g ya n p (o::ls) [] [] zL [] ((o::ls).map (eV k.Ar)) W s)(q:k.B0<=W.z):aC 18 #[pt s.sb 0,i6 ya,.agg (eV k.Ar o).cells.toArray] W (λc b=>∃a,c=.returned (.tuple #[.agg (iB k.Ar p.sy o).cells.toArray,bO_ true])∧V5 k g ya n p ls [o] [] zL [] (ls.map (eV k.Ar)++[iB k.Ar p.sy o]) b a∧a.sb=s.sb∧a.pd=s.pd∧au (Du k.toOpE W) W b):=by
 refine(IQ r t (A':=ls) (P':=ls.map (eV k.Ar)) (List.Perm.refl _) (by unfold fO;simp) q).mono λc b ⟨d,a,h,u,e,i,j,l⟩=>?_;have f:=e.WB;unfold fO at f;have m:[d].Perm [iB k.Ar p.sy o]:=(List.perm_append_left_iff _).1 (by simpa using f);obtain rfl:d=iB k.Ar p.sy o:=by simpa using m
 exact⟨a,h,e,i,j,l⟩
theorem Od{g:S2}{ya:Int}{n:Nat}{p:HB}{N:HB->Prop}{o:ar}{ls zL:List ar}{P:List bz}{W:World}{s:bK}(F:oO k)(H:k.z<0)(hs:k.Qn=false)(v:Stp k g N p)(C:∀a,N a->∃e,e+1=n∧ci k g e a)(G:V5 k g ya n p ls [o] [] zL [] P W s)(D:k.B0<=W.z):aC 19 #[pt k.pb 0,i6 ya,.agg (iB k.Ar p.sy o).cells.toArray] W (λu b=>∃c l m,u=.returned (yt l (List.length c) m)∧ah b W.z 65 26 l c.length m (aJ k.Ar c)∧(k.B0<=b.z∧((c=[]∧ls≠[]∧∃t,V5 k g ya n p ls [] [] t [] (ls.map (eV k.Ar)) b s)∨(ls=[]∧∃a e,N a∧c=a.A1∧e+1=n∧V5 k g ya e a a.A1 [] [] a.A1 [] (a.A1.map (eV k.Ar)) b s)∨(c=[]∧ls=[]∧∃i d,iN b k.pb i d∧i.cb=k.cb∧d.Ar=k.Ar∧g.X i d∧fH k.toOpE g.R g.L d.last b s∧d.last=p.last)))∧au (be FO k.B0 W.z k.pb k.cb W) W b∧au (DA W) W b):=by
 refine(DB F G v C (o:=o) (B':=[]) (P':=ls.map (eV k.Ar)) (List.Perm.refl _) (by unfold fO;simp) D).mono λu b ⟨c,l,m,I,J,O,K,L,M⟩=>⟨c,l,m,I,J,⟨O,?_⟩,L,M⟩;rcases K with⟨rfl,t,j⟩|⟨a,e,Q,R,T,h,E,rfl,_,f,j⟩|⟨rfl,h,_,i,d,y,f,q,z,A,_,B⟩
 ·refine .inl ⟨rfl,λw=>?_,t,j⟩;subst w;have h:=j.perm;simp at h;exact j.ne h
 ·have r:ls=[]:=by
   rcases f with f|f
   ·exact f.1
   ·have q:=(v.brk f).1;rw[hs]at q;cases q
  subst r;refine .inr (.inl ⟨rfl,a,e,h,rfl,E,Dz H hs j λx r=>?_⟩);obtain⟨S,_,rfl⟩:=aT.1 (show x∈a.A1.map (eV k.Ar)by simpa using r);rfl
 ·exact .inr (.inr ⟨rfl,h,i,d,y,f,q,z,A,B⟩)
end
theorem VZ{c:el}{d:Nat}{u ya:Int}{da:ByteArray}{L:ct}(p:c.zz=-1)(t:c.n=3)(X:Cx c d 2 u da ya L)(y:(X.x.lv X.sn).has=false)(s:X.lm<=800000000)(i:X.last+90<=X.lm):WS X.k X.last X.lm∧X.e=X.k.E1∧X.o=-1∧X.sq=0∧(∀k l,X.Q0 k l->Rf X.k X.k.E1 k l)∧∀f,X.L0 f->∃g q,f=⟨X.k.E1-1,g,q,-1⟩∧(g=0∨g=X.k.Ar):=by
 obtain⟨D,G,e⟩:=X.hG.eq;have E:X.k.z=-1:=by
  rw[e];show(if c.AQ=true then c.zz else -1)=-1;rw[p];split<;>rfl
 have F:X.k.zl=-1:=by
  rw[e];show(if X.gone=true then c.zz else -1)=-1;rw[p];split<;>rfl
 have w:X.k.kd=2:=by rw[e];rfl
 have x:X.k.n=3:=by rw[e];exact t
 have v:(X.k.Wf X.k.sn).has=false:=by rw[e];exact y
 have j:X.o=-1:=by
  rcases X.hG.oz with b|⟨b,h,_⟩
  ·exact b
  ·omega
 obtain⟨C,⟨_,B,o,z,A⟩|⟨⟨_,b,_⟩,_⟩⟩:=X.hG.mode
 ·rcases o.YZ with⟨a,h,r⟩|⟨_,_,⟨a,h⟩,_⟩
  ·have n:=o.Wv;rw[a,j]at n;exact⟨⟨X.hG.xs,w,r,yq,yq,n,x,⟨X.hl.1,i,s⟩⟩,a,j,B,z,λf i=>by have m:=A f i;rw[<-h,j]at m;exact m⟩
  ·rcases a with a|a<;>omega
 ·rw[v]at b;cases b
def Y0(c:el)(L:ct)(da:ByteArray)(lb:Nat)(W:World):Prop:=∃a:Cx c 0 2 0 da 0 L,(WS a.k a.last a.lm∧a.e=a.k.E1∧a.o=-1∧a.sq=0∧(∀e f,a.Q0 e f->Rf a.k a.k.E1 e f)∧∀d,a.L0 d->∃b g,d=⟨a.k.E1-1,b,g,-1⟩∧(b=0∨b=a.k.Ar))∧a.k.B0<=lb∧T6 a.k 0 0 a.last (-1) lb W∧fH a.k.toOpE a.Q0 a.L0 a.last W a.s∧a.k.B0<=W.z
theorem Lr{c:el}(p:iD c)(q:c.zz=-1)(T:c.n=3){e:Int}{L:ct}{M:Nat->Nat->ByteArray}{s:bK}{x:am}{W:World}{da:ByteArray}(a:kO c 0 e 0 L M s x W)(C:∀F,(x.lv F).has=false)(i:XC c 2 0 da 0 0)(N:c.b<=W.z)(a4:0<=e∧e<=4000000):aC 14 #[pt c.pb 0,i6 0,.agg #[i6 2,i6 0,sT da]] W (λl j=>l=.returned (i6 0)∧Y0 c L da W.z j∧au (dx c.lo W) W j):=by
 replace a:kO c (2*(0:Nat)) e (0:Nat) L M s x W:=a;obtain⟨b,l,G,U,ac,I,H,g⟩:=Tc p a (ya:=0) i yq N yq;have B:=p.lo;obtain⟨k,h⟩:∃k:Cx c 0 2 0 da 0 L,k=⟨0,0,e,e+90,s,x,M,W,b,l,G,U,ac,I,H,a,i,g,yq⟩:=⟨_,rfl⟩;have P:=VZ q T k (by rw[h];exact C 0) (by rw[h];show e+90<=_;omega) (by rw[h];exact cS _);subst h;obtain⟨aq,a6,d⟩:=id g.eq;have Q:b.n=c.n:=by rw[d];rfl
 have R:b.S=c.S:=by rw[d];rfl
 have E:b.sn=0:=by rw[d];rfl
 have X:b.cn=0:=by rw[d];rfl
 have A:b.kd=2:=by rw[d];rfl
 have z:b.da=da:=by rw[d];rfl
 have D:b.pb=c.pb:=by rw[d];rfl
 have y:b.cb=c.cb:=by rw[d];rfl
 have r:b.B0=W.z:=by rw[d];rfl
 have u:b.Wf=x.lv:=by rw[d];rfl
 have ad:b.ed=0:=by rw[d];exact a.XW
 have Y:b.Ar=c.Ar:=by rw[d];rfl
 obtain⟨a3,O,Z⟩:=a.str 0 i.Wi;have S:iN W b.pb x ⟨b.Ar,e,[]⟩:=by rw[D,Y];exact a.U2
 have V:=p.hS;have a5:1*2<=c.S*(c.n-1):=Nat.mul_le_mul V.1 yq;have ak:Sub b 0 0 x e:=⟨by rw[Q];exact a.xN,by rw[R];exact a.xS,by rw[y];exact a.cb,a.U2.2.2,by rw[ad];exact a.XW,u.symm,by rw[u,E];exact Z.sc,yq,?_,yq,yq⟩
 ·have v:=vr g.xs ak (t:=0) (O:=-1) ⟨yq,yq⟩ (.inr (.inl ⟨yq,by rw[u];exact C _⟩)) S yq;rw[A,z,D,y,r]at v;refine v.mono λaR j ⟨J,K,n⟩=>⟨J,⟨_,P,bC r,K,g.KS.x2 n λm w=>?_,?_⟩,n.mono λm w q=>?_⟩
  ·rcases w with rfl|rfl|⟨f,_⟩|⟨f,_⟩
   ·exact .inr ⟨98,z1,aw a.U2.1⟩
   ·refine .inr ⟨124,z1,?_⟩;rw[<-a.cb];exact(a.U2.2.1 0).zq
   ·exact .inl (by rw[d];show c.b<=m;omega)
   ·exact .inl (by rw[d];show c.b<=m;omega)
  ·show b.B0<=j.z
   rw[r];exact n.size
  ·rcases q with rfl|rfl|⟨f,_⟩|⟨f,_⟩
   ·exact⟨⟨98,rfl,aw a.U2.1⟩,B.1⟩
   ·refine⟨⟨124,rfl,?_⟩,B.2.1⟩;rw[<-a.cb];exact(a.U2.2.1 0).zq
   ·omega
   ·omega
 ·rw[A,z,E,X];have o:x.N-1=((c.n-1:Nat):Int):=by rw[a.xN];omega
  rcases i.kind with⟨f,_⟩|⟨f,an,aV,a0,a1,a2⟩
  ·omega
  ·refine .inr ⟨f,?_,?_,?_⟩
   ·rw[o,a.xS,<-Int.natCast_mul];omega
   ·rw[o];simp
   ·rw[o];simp
def XL:ByteArray:=⟨#[48,49,50,51,52,53,54,55,56,57,97,98,99,100,101,102]⟩
structure Yj(c:el)(h0 pa sb:Nat):Prop where
 ok:iD c
 lo:c.lo=h0
 pb:c.pb=pa
 sb:c.sb=sb
 n:c.n=3
 S:c.S=1
 Ar:c.Ar=200
 zz:c.zz=-1
 AQ:c.AQ=false
def Og:ct:=List.replicate (1*(3-1)) d7
def EW(h0 pa:Nat)(W:World):Prop:=∃a,Xv 200 1048576 h0 3 1 pa a W
def EX(c:el)(h0 pa f:Nat)(W:World):Prop:=Yj c h0 pa f∧∃e a b,kO c 0 1048576 0 Og b e a W∧(∀d,(a.lv d).has=false)∧c.b<=W.z
def yB(c:el)(h0 pa b:Nat)(W:World):Prop:=Yj c h0 pa b∧∃a,a<=W.z∧Y0 c Og XL a W
def mQ(c:el)(g:Nat)(W:World):Prop:=A2 W g 3 [i6 1,i6 3,i6 2,i6 2,i6 2]∧c.b<=g
def CG(c:el)(h0 pa a g:Nat)(W:World):Prop:=yB c h0 pa a W∧mQ c g W
def zt:Nat->Nat
 |0=>9
 |1=>6
 |2=>4
 |3=>2
 |_=>0
abbrev Y1(c:el):=Cx c 0 2 0 XL 0 Og
def S1(c:el)(h0 pa e g m:Nat)(ls:List ar)(W:World):Prop:=Yj c h0 pa e∧mQ c g W∧∃(X:Y1 c)(s:bK),WS X.k X.last X.lm∧(X.e=X.k.E1∧X.o=-1∧X.sq=0)∧X.k.B0<=W.z∧s.sb=c.sb∧((∃a f,a<=4∧m=zt a+ls.length∧ls≠[]∧ls.length<=awN a∧V5 X.k (WZ X.k X.last X.lm) 0 (4-a) (Xo X.k X.last a) ls [] [] f [] (ls.map (eV X.k.Ar)) W s)∨(m=0∧ls=[]∧∃d b,iN W c.pb d b∧X.OK.X d b∧fH X.k.toOpE X.OK.R X.OK.L b.last W s))
def XF(c:el)(h0 pa b g m:Nat)(o:ar)(ls:List ar)(sy:dw)(W:World):Prop:=Yj c h0 pa b∧mQ c g W∧∃(X:Y1 c)(s:bK),WS X.k X.last X.lm∧(X.e=X.k.E1∧X.o=-1∧X.sq=0)∧X.k.B0<=W.z∧s.sb=c.sb∧∃a d,a<=4∧m=zt a+ls.length+1∧ls.length+1<=awN a∧sy=(Xo X.k X.last a).sy o∧V5 X.k (WZ X.k X.last X.lm) 0 (4-a) (Xo X.k X.last a) ls [o] [] d [] (ls.map (eV X.k.Ar)++[iB X.k.Ar (Xo X.k X.last a).sy o]) W s
section
variable {c:el}{h0 pa a g m:Nat}{ls:List ar}{o:ar}{sy:dw}{W:World}
theorem mQ.Bw:W6 (mQ c g):=λ_ _ _ _ ⟨a,b⟩ f d e=>⟨a.x2 f (λh=>aN (lI e _ rfl) (aw a) (d _ h)),b⟩
theorem EW.Bw:mM (EW h0 pa):=λ_ _ _ _ ⟨b,a⟩ e c d=>⟨b,Xv.Bw _ _ _ _ a e c d⟩
theorem EX.Bw:W6 (EX c h0 pa a):=λ_ _ _ _ ⟨l,h,i,g,b,j,k⟩ d e f=>⟨l,h,i,g,{b with KS:=cy.Bw _ _ _ _ b.KS d e f,U2:=iN.Bw _ _ _ _ b.U2 d e f},j,az k d.size⟩
theorem yB.Bw:mM (yB c h0 pa a):=λ_ _ _ _ ⟨w,u,l,i,m,n,⟨v,o,p⟩,q,r⟩ b e g=>by
 have h:=(ia g).1
 have d:=lI h
 have s:=(ia g).2
 obtain⟨j,f,k⟩:=o
 exact⟨w,u,az l b.size,i,m,n,⟨v,⟨j,f.x2 b (λt=>aN (d _ rfl) (aw f) (e _ t)),k.y4 b e (d _ rfl) (d _ rfl) s⟩,p⟩,fH.Bw _ _ _ _ q b e h,az r b.size⟩
theorem CG.Bw:mM (CG c h0 pa a g):=λ_ _ _ _ b f d e=>⟨yB.Bw _ _ _ _ b.1 f d e,mQ.Bw _ _ _ _ b.2 f d (ia e).1⟩
theorem S1.Bw:W6 (S1 c h0 pa a g m ls):=λ_ _ _ _ ⟨x,w,l,o,r,s,t,u,v⟩ b d e=>⟨x,mQ.Bw _ _ _ _ w b d e,l,o,r,s,az t b.size,u,v.imp (λ⟨n,y,f,h,i,j,k⟩=>⟨n,y,f,h,i,j,V5.Bw _ _ _ _ k b d e⟩) λ⟨f,h,p,q,i,j,k⟩=>⟨f,h,p,q,iN.Bw _ _ _ _ i b d e,j,fH.Bw _ _ _ _ k b d e⟩⟩
theorem XF.Bw:W6 (XF c h0 pa a g m o ls sy):=λ_ _ _ _ ⟨v,u,f,i,q,r,s,t,h,w,j,k,l,n,p⟩ b d e=>⟨v,mQ.Bw _ _ _ _ u b d e,f,i,q,r,az s b.size,t,h,w,j,k,l,n,V5.Bw _ _ _ _ p b d e⟩
theorem mQ.U2{es:List TypeId}{v8 d b lb:Nat}{w e:World}(h:mQ c g w)(f:au (be es v8 lb d b w) w e)(t1:fm w 98 d)(t2:fm w 124 b)(he:es.contains 3=false):mQ c g e:=⟨h.1.x2 f λa=>by
 rcases a with rfl|rfl|⟨_,a⟩|⟨_,a⟩
 ·exact absurd (bS (aw h.1) t1) (by decide)
 ·exact absurd (bS (aw h.1) t2) (by decide)
 ·exact aN he (aw h.1) a
 ·exact absurd (bS (aw h.1) a) (by decide),h.2⟩
theorem VP{lo:Nat}(w:World)(g:lo<=w.z):aC 8 #[.agg #[i6 3,i6 1],i6 0,i6 1] w (λb a=>∃pa,b=.returned (pt pa 0)∧EW lo pa a∧au (dx lo w) w a):=
 (Dx (nr:=0) (bt:=1) (N:=3) (S:=1) (by decide) (by decide) (by decide) (by decide) w g).mono λ_ _ ⟨h,c,d,e,f⟩=>⟨h,d,⟨c,e⟩,f⟩
theorem VQ{h0 pa:Nat}(w:World)(h:EW h0 pa w):aC 9 #[.agg #[i6 3,i6 1]] w (λg b=>∃a i,g=.returned (pt a 0)∧EX i h0 pa a b∧au (dx h0 w) w b):=by
 obtain⟨l,h⟩:=h;have q:h0<=w.z:=by
  have c:=h.2.2.1.lt;have:=h.1;omega
 refine(Ih (N:=3) (S:=1) (by decide) (by decide) w q h).mono λ_ b ⟨a,f,c,d,p⟩=>?_;obtain⟨j,k,e,m,_,n,o⟩:=vn (zz:=-1) (AQ:=false) (zv:=-1) (by decide) (.inl ⟨rfl,.inr rfl⟩) d;exact⟨a,N9 200 h0 f pa l 3 1 a false (-1),c,⟨⟨M2 (by decide) (by decide) (by decide) d,rfl,rfl,rfl,rfl,rfl,rfl,rfl,rfl⟩,j,k,e,m,n,o⟩,p⟩
section
variable (w:World)
theorem Tw(h:EX c h0 pa a w):aC 14 #[pt pa 0,i6 0,.agg #[i6 2,i6 0,sT XL]] w (λi g=>i=.returned (i6 0)∧yB c h0 pa a g∧au (dx h0 w) w g):=by
 obtain⟨b,q,r,p,l,m,n⟩:=h;have d:=b.n;have o:=b.S;have f:=Lr (da:=XL) b.ok b.zz b.n l m ⟨yq,yq,.inr ⟨.inr ⟨rfl,by decide⟩,0,rfl,by rw[d,o];decide,by rw[d],by rw[d]⟩⟩ n (by decide);rw[b.lo,b.pb]at f;exact f.mono λ_ _ ⟨j,k,e⟩=>⟨j,⟨b,_,e.size,k⟩,e⟩
theorem Tx(h:yB c h0 pa a W):c.b<=W.z:=by
 obtain⟨m,l,e,b,f,g,i,j,k⟩:=h;have d:=b.hG.xs.hb;rw[b.pb.2.2.1]at d;omega
theorem Rh(h:CG c h0 pa a g w):aC 16 #[pt pa 0,i6 0] w (λr k=>∃q j ls,r=.returned (yt q (List.length ls) j)∧S1 c h0 pa a g 10 ls k∧ah k h0 65 26 q ls.length j (aJ 200 ls)∧au (λe=>dx h0 w e∨(h0<=e∧fm w 65 e)) w k):=by
 obtain⟨⟨d,X,a9,b,⟨f,Q,U,aV,I,aR⟩,O,⟨D,p,G⟩,⟨Y,Z,ac,A,ad,ak,an⟩,E⟩,V⟩:=h;obtain⟨u,v,a3,M,N,a4,a5,a6,a7⟩:=b.pb;have R:b.k.Ar=200:=N.trans d.Ar;have H:=d.ok.lo;have F:=b.hG.xs.XI;rw[M]at F;have S:=Tb f 0 (by decide);have l:=IP f 0 (by decide);have B:fm w 98 pa:=by
  obtain⟨J,i,_⟩:=id p;rw[u,d.pb]at i;exact aw i
 have C:fm w 124 c.cb:=by
  obtain⟨J,_,i⟩:=id p;have:=i.1.zq;rw[show({D with lb:=X}:am).cb=D.cb from rfl,G.1.cb,v]at this;exact this
 have x:=vu (ya:=0) b.hG.xs.tooO S.1 p G ⟨rfl,cS _,(by decide:(0:Int)<=0+1)⟩ (s:=b.s) ⟨Y,Z,ac,λm z=>FR (I m _ (A m z)) (I m _ (A m z)),ad,.inl ⟨⟨_,A4,rfl⟩,aR _ ak⟩,an⟩ E O;rw[u,v,d.pb]at x;refine x.mono λr k ⟨K,j,L,t,⟨a1,a2,a8,P⟩,n⟩=>?_;rw[R]at t;have aq:=Dz f.z f.Qn P λa0 T=>by
  obtain⟨o,_,rfl⟩:=aT.1 T;rfl
 refine⟨K,j,(Xo b.k b.last 0).A1,L,⟨d,V.U2 n B C rfl,b,b.s,f,⟨Q,U,aV⟩,az E n.size,b.hI.sb,.inl ⟨0,_,by decide,?_,?_,bC l,aq⟩⟩,t.below (by rw[<-d.lo];omega),n.mono λe _ W=>?_⟩
 ·show 10=9+_
  rw[l];rfl
 ·intro h;rw[h]at l;cases l
 ·have y:=pU (lo:=c.lo) B C ⟨by rw[<-d.pb];exact H.1,H.2.1,F.2.1,yq⟩ rfl e W;rw[d.lo]at y;exact y
def l9:Nat->Nat
 |0=>0|1=>1|2=>2|3=>1|4=>2|5=>1|6=>2|7=>1|8=>2|9=>3|_=>1
theorem MD(h:S1 c h0 pa a g m ls W):ls.length=l9 m∧m<=10:=by
 obtain⟨z,y,p,q,s,t,u,v,⟨b,B,e,rfl,f,i,r⟩|⟨rfl,rfl,_⟩⟩:=h
 ·have j:0<ls.length:=List.length_pos_iff.2 f;have k:∀b,b<=4->∀d,0<d->d<=awN b->d=l9 (zt b+d)∧zt b+d<=10:=by
   intro b x;have l:b=0∨b=1∨b=2∨b=3∨b=4:=by omega
   intro d A o;have w:awN b<=3:=by unfold awN;split<;>omega
   have n:d=1∨d=2∨d=3:=by omega
   rcases l with rfl|rfl|rfl|rfl|rfl<;>rcases n with rfl|rfl|rfl<;>first|exact⟨rfl,by decide⟩|exact absurd o (by decide)
  exact k b e _ j i
 ·exact⟨rfl,by decide⟩
theorem Rl(h:S1 c h0 pa a g m ls w)(hm:m≠0):aC 15 #[pt pa 0] w (bf (bO_ true) w):=by
 obtain⟨k,x,b,n,s,t,u,v,⟨l,y,o,p,q,r,f⟩|⟨h,_⟩⟩:=h
 ·obtain⟨d,i,j⟩:=f.U2;have e:=i7 _ b.k.pb w i.1;rw[show({d with ak:=yt none 0 0}:am).busy=d.busy from rfl,j.1.busy,b.pb.1,k.pb]at e;exact e
 ·exact absurd h hm
theorem Ty(h:S1 c h0 pa a g m (o::ls) w):aC 18 #[pt a 0,i6 0,.agg #[i6 200,i6 o.to,i6 o.id,bO_ false,i6 o.q.kind,i6 o.q.Al,i6 o.q.BV,i6 o.q.seq,i6 o.q.mask,i6 o.q.node,i6 o.q.oe,i6 o.q.os,sT o.q.block,i6 0,i6 0,i6 0,bO_ false,i6 0,i6 0,i6 0,sT ⟨#[]⟩,bO_ false,i6 0,i6 0,i6 0,sT ⟨#[]⟩]] w (λb d=>∃sy:dw,b=.returned (.tuple #[.agg #[i6 o.to,i6 200,i6 o.id,bO_ true,i6 0,i6 0,i6 0,i6 0,i6 0,i6 0,i6 0,i6 0,sT ⟨#[]⟩,i6 sy.st,i6 sy.ep,i6 sy.ou,bO_ sy.rc.used,i6 sy.rc.Bf,i6 sy.rc.de,i6 sy.rc.ds,sT sy.rc.block,bO_ sy.rc.op,i6 sy.rc.ie,i6 sy.rc.is,i6 sy.rc.mask,sT sy.rc.A9],bO_ true])∧XF c h0 pa a g m o ls sy d∧au (dx h0 w) w d):=by
 obtain⟨f,j,e,L,E,F,l,n,⟨q,K,A,B,V,C,D⟩|⟨_,h,_⟩⟩:=h
 ·obtain⟨P,Q,x,y,z,R,S,T,U⟩:=e.pb;have H:e.k.Ar=200:=z.trans f.Ar;have p:=(Oc e.hG.xs.tooO D l).mono (R':=λb d=>∃sy:dw,b=.returned (.tuple #[.agg (iB e.k.Ar (λ_=>sy) o).cells.toArray,bO_ true])∧XF c h0 pa a g m o ls sy d∧au (dx h0 w) w d) λb d ⟨J,r,s,t,N,i⟩=>⟨_,r,⟨f,⟨j.1.x2 i λI=>by
   have G:=I.2.2;have W:=j.2;rw[x]at G;omega,j.2⟩,e,J,E,F,az l i.size,t.trans n,q,K,A,by rw[B,List.length_cons];omega,C,rfl,s⟩,i.mono λM _ ⟨⟨b,u,v⟩,k,O⟩=>⟨⟨b,by simpa using bE.1 (show([61,73,3,63]:List TypeId).all fw.contains=true from rfl) b (by simpa using u),v⟩,by rw[y,f.lo]at k;exact k⟩⟩
  rw[n,f.sb,H]at p;exact p
 ·cases h
theorem Tz(h:XF c h0 pa a g m o ls sy w):aC 19 #[pt pa 0,i6 0,.agg #[i6 o.to,i6 200,i6 o.id,bO_ true,i6 0,i6 0,i6 0,i6 0,i6 0,i6 0,i6 0,i6 0,sT ⟨#[]⟩,i6 sy.st,i6 sy.ep,i6 sy.ou,bO_ sy.rc.used,i6 sy.rc.Bf,i6 sy.rc.de,i6 sy.rc.ds,sT sy.rc.block,bO_ sy.rc.op,i6 sy.rc.ie,i6 sy.rc.is,i6 sy.rc.mask,sT sy.rc.A9]] w (λp i=>∃k j f,p=.returned (yt k (List.length f) j)∧(S1 c h0 pa a g (m-1) (ls++f) i∧0<m)∧ah i w.z 65 26 k f.length j (aJ 200 f)∧au (dx h0 w) w i):=by
 obtain⟨e,X,d,J,l,r,U,V,b,b1,A,rfl,bb,rfl,B⟩:=h;obtain⟨q,z,a5,S,T,a6,a7,a8,a9⟩:=d.pb;have W:d.k.Ar=200:=T.trans e.Ar;have C:=d.hG.xs.XI;rw[S,e.lo]at C;have H:=e.ok.lo;obtain⟨b0,ak,an,aq⟩:=Tb l b A;obtain⟨a4,t,x⟩:=B.U2;have F:fm w 98 pa:=by
  have:=aw t.1;rw[q,e.pb]at this;exact this
 have G:fm w 124 c.cb:=by
  have:=t.2.zq;rw[x.1.cb,z]at this;exact this
 have D:=(Od d.hG.xs.tooO l.z l.Qn ak an B U).mono (R':=λp i=>∃k j f,p=.returned (yt k (List.length f) j)∧(S1 c h0 pa a g (zt b+ls.length+1-1) (ls++f) i∧0<zt b+ls.length+1)∧ah i w.z 65 26 k f.length j (aJ d.k.Ar f)∧au (dx h0 w) w i) λp i ⟨L,K,j,M,N,⟨O,P⟩,u,Q⟩=>by
  rw[q,z,e.pb]at u;refine⟨K,j,L,M,⟨⟨e,X.U2 u F G rfl,d,J,l,r,O,V,?_⟩,yq⟩,N,Dv (u.mono λy _ Z=>pU (lo:=h0) F G ⟨by rw[<-e.pb,<-e.lo];exact H.1,by rw[<-e.lo];exact H.2.1,C.2.1,yq⟩ rfl y Z) Q λy t x=>⟨x,t.elim (λh=>h.2) λh=>h.1⟩⟩;rcases P with⟨rfl,a1,a2,v⟩|⟨rfl,a3,I,⟨n,rfl⟩,rfl,bk,v⟩|⟨rfl,rfl,aR,R,ac,bl,bs,E,ad,bt⟩
  ·rw[dD];exact .inl ⟨b,a2,A,yq,a1,yq,v⟩
  ·obtain rfl:I=4-(b+1):=by omega
   have s:=IP l (b+1) yq;have a0:∀b,b<4->zt b=zt (b+1)+awN (b+1):=by decide
   have aV:∀b,0<awN b:=by intro b;unfold awN;split<;>decide
   rw[List.nil_append];refine .inl ⟨b+1,_,n,by rw[s];have:=a0 b n;show zt b+0+1-1=_;omega,λh=>?_,bC s,v⟩;rw[h]at s;have:=aV (b+1);rw[<-s]at this;exact absurd this (by decide)
  ·have n:b=4:=by
    refine Decidable.byContradiction λn=>?_;have bd:=aq yq;have bg:=E.2;omega
   subst n;refine .inr ⟨rfl,rfl,aR,R,by rw[<-q];exact ac,?_⟩;have Y:d.OK=d.k.OK d.k.E1 (-1) 0 d.lm:=by
    unfold Cx.OK;rw[r.1,r.2.1,r.2.2]
   rw[Y];exact⟨E.1,ad⟩
 rw[q,e.pb,W]at D;exact D
theorem Oh(h:S1 c h0 pa a g 0 ls W):Yj c h0 pa a∧∃b d f m u,iN W c.pb b d∧b.er=0∧b.busy=false∧b.dt=⟨#[]⟩∧b.ed=1∧kO c 2 u 1 (Og.set 0 XL) m f b W:=by
 obtain⟨l,E,e,f,p,A,B,C,⟨v,F,w,x,o,y,z⟩|⟨_,_,b,d,k,j,r⟩⟩:=h
 ·have:=List.length_pos_iff.2 o;omega
 ·obtain⟨⟨n,i,_⟩,D,t,s,_,_⟩:=N7 (ed:=((0:Nat):Int)) e.hI e.ho l.ok.hn e.hG k j r;have q:=j.1;refine⟨l,b,d,f,n,d.last,k,t,s,?_,i.XW,i⟩;rw[q.Y2,ay (by rw[p.kd];decide)]
theorem HW(h:S1 c h0 pa a g 0 ls w):aC 15 #[pt pa 0] w (bf (bO_ false) w)∧aC 20 #[pt pa 0] w (bf (.tuple #[i6 0,sT ⟨#[]⟩,i6 1]) w):=by
 obtain⟨k,b,n,m,l,o,d,e,f,i,j,_⟩:=Oh h;rw[k.pb]at d;refine⟨?_,?_⟩
 ·have:=i7 _ pa w d.1;rw[show({b with ak:=yt none 0 0}:am).busy=b.busy from rfl,f]at this;exact this
 ·have:=Dw _ pa w d.1;rw[show({b with ak:=yt none 0 0}:am).er=b.er from rfl,show({b with ak:=yt none 0 0}:am).ed=b.ed from rfl,show({b with ak:=yt none 0 0}:am).dt=b.dt from rfl,e,i,j]at this;exact this
theorem IR(h:S1 c h0 pa a g 0 ls W):∃(b:bK)(d:Nat->ByteArray),cy W c.b b∧b.sb=a∧b.N=3∧b.S=1∧d 0=XL∧(∀m,m<3->(d m).size=16)∧kw ((List.range 3).map d)=d7∧∀m,m<3->∃j k l,b.HJ m 0=⟨true,j,k,l,d m,false,0,0,0,⟨#[]⟩⟩:=by
 obtain⟨i,x,y,b,d,B,_,_,_,_,_,e⟩:=Oh h;have o:=i.S;have p:=i.n;have f:=e.X9;obtain⟨A,w,u⟩:=e.str 0 yq;rw[p,o]at f;refine⟨b,λm=>d m 0,e.KS,e.sb.trans i.sb,e.sN.trans p,e.sS.trans o,?_,f.sz 0 (by decide),f.X1 0 (by decide),λm f=>?_⟩
 ·have n:=f.at_ 0 (by decide);have q:(Og.set 0 XL)[0]?=some XL:=rfl;rw[q]at n;exact(ap n).symm
 ·have z:=i.zz;obtain⟨j,k,l,v,s,_,_,_,_,t,_⟩:=u.Xw m yq (.inl yq);have r:=t (.inl yq);subst r;exact⟨j,k,l,s⟩
theorem KA(h:S1 c h0 pa a g 0 ls w):aC 22 #[pt a 0,i6 0] w (λi e=>i=.returned (bO_ true)∧S1 c h0 pa a g 0 ls e∧au (dx h0 w) w e):=by
 have o:=h;obtain⟨j,f,k,rfl,b,q,r,l,m,n⟩:=IR h;exact(vg j c.b 0 f yq yq (by rw[b];exact l) (by rw[b];exact m) w k (by rw[b];exact n)).mono λ_ _ ⟨p,d⟩=>⟨p,S1.Bw _ _ _ [] o d (λ_ h=>h.elim) rfl,d.mono λ_ _ h=>h.elim⟩
theorem Rm(h:S1 c h0 pa a g 0 ls W):∃e r j s,a<W.z∧W.cell? ⟨a,2,none⟩=some (yt (ae e) 3 r)∧e<W.z∧W.cell? ⟨e,0,none⟩=some (yt (ae j) 1 s)∧j<W.z∧W.cell? ⟨j,4,none⟩=some (sT ⟨#[48,49,50,51,52,53,54,55,56,57,97,98,99,100,101,102]⟩)∧fm W 54 a∧fm W 83 e∧fm W 61 j:=by
 obtain⟨b,C,d,rfl,t,u,w,_,_,y⟩:=IR h;obtain⟨n,o,p,m⟩:=y 0 yq;rw[w]at m;have B:=(d.Wz 0 yq).own _ ⟨_,rfl,rfl⟩;have z:=d.rws.own _ ⟨_,rfl,rfl⟩;have A:(b.Wd 0)[0]?=some ⟨true,n,o,p,XL,false,0,0,0,⟨#[]⟩⟩:=by rw[bK.Wd,ew,ek yq];exact congrArg some m
 have k:=d.KS.at_ (i:=2) (v:=yt (ae b.gO) b.N b.cO) rfl;have l:=dj (f:=b.Xg) (λ_=>rfl) d.rws (i:=0) (x:=0) (by rw[ek yq]) 0 _ rfl;have q:=dj nL (d.Wz 0 yq) A 4 _ rfl;rw[t]at k;rw[u]at l;exact⟨b.gO,b.cO,(b.row 0).1,(b.row 0).2,d.KS.lt,k,z.2,l,B.2,q,aw d.KS,d.rws.ty _ ⟨_,rfl,rfl⟩,(d.Wz 0 yq).ty _ ⟨_,rfl,rfl⟩⟩
end
def Wq:Nat->Nat
 |0=>10|1=>9|2=>6|3=>4|4=>2|_=>0
theorem Ri:∀a,a<5->Wq a-l9 (Wq a)=Wq (a+1)∧Wq a≠0:=by decide
theorem CH(m:Nat):l9 m<=3:=by unfold l9;split<;>omega
theorem Rj(h:S1 c h0 pa a g m ls W):A2 W g 3 [i6 1,i6 3,i6 2,i6 2,i6 2]:=h.2.1.1
theorem Kz(i:Nat)(h:i<5):([Value.int .i64 1,i6 3,i6 2,i6 2,i6 2]:av)[i]?=some (i6 ((l9 (Wq i):Nat):Int)):=by
 have a:i=0∨i=1∨i=2∨i=3∨i=4:=by omega
 rcases a with rfl|rfl|rfl|rfl|rfl<;>rfl
theorem ui{W:World}{g o:Nat}{x:Value}(h:W.cell? ⟨g,o,none⟩=some x):∀(a:Nat)(b:Value),[x][a]?=some b->W.cell? ⟨g,o+a,none⟩=some b:=λa b c=>by
 match a,c with
 |0,c=>cases c;exact h
end
def Tu:av:=[i6 2,i6 0,sT ⟨#[48,49,50,51,52,53,54,55,56,57,97,98,99,100,101,102]⟩]
section
variable (o:ar)(pa b:Nat)(k:el)(w a:World)
def ER:av:=([i6 200,i6 o.to,i6 o.id,bO_ false]++o.q.cells++[i6 0,i6 0,i6 0]++ka)
def oB(sy:dw):av:=[i6 o.to,i6 200,i6 o.id,bO_ true]++rp 8 (i6 0)++([sT ⟨#[]⟩,i6 sy.st,i6 sy.ep,i6 sy.ou]++sy.rc.cells)
def ET:aH:=[1,1,1,1,1,1,1,1,0,1,0,0,1,0,0,1,1,0,1,0,0,1,0,0,1]
def EU:aH:=[1,1,1,1,1,1,1,1,0,1,0,0,1,0,0,1,1,0,1,0,0,1,1]
def uh:aH:=[1,1,1,1,1,1,1,1,0,1,0,0,1,0,0,1,1,1]
def qG:aH:=[1,1,1,1,1,1,1,1,0,1,0,0,1,1]
def EV:aH:=[1,1,1,1,1,1,1,1,1,1,1]
def mt:aH:=[1,1,1,1,1,1,1,1,1]
@[simp] def oC:ax:=[⟨w.z,23,true,[i6 3,i6 1]⟩]
@[simp] def MB:ax:=[⟨w.z,23,false,[i6 3,i6 1]⟩,⟨a.z,3,false,[i6 1,i6 3,i6 2,i6 2,i6 2]⟩]
def Vc(m:Nat)(st:St)(c:World):Prop:=
 ∃(i:Nat)(ls:List ar)(A:aY)(d:Nat)(z:Nat),(m+i=5)∧S1 k w.z pa b (a.z) (Wq i) ls c∧ah c w.z 65 26 A ls.length d (aJ 200 ls)∧st=⟨[(0,bO_ false),(2,pt pa 0),(3,pt b 0),(4,i6 0),(5,yt (ae a.z) 5 5),(6,yt A ls.length d),(7,i6 (i:Int))],[],[],z⟩
def Vd(A:aY)(ca:Nat)(ls:List ar)(w:World)(a:World)(f:World)(i:Nat)(m:Nat)(st:St)(d:World):Prop:=
 ∃(c:Nat)(e:List ar)(B:aY)(g:Nat)(z:Nat),(m+c=ls.length∧c<=ls.length)∧S1 k w.z pa b (a.z) (Wq i-c) (ls.drop c++e) d∧f.z<=d.z∧ah d w.z 65 26 A ls.length ca (aJ 200 ls)∧ah d f.z 65 26 B e.length g (aJ 200 e)∧st=⟨[(0,bO_ false),(2,pt pa 0),(3,pt b 0),(4,i6 0),(5,yt (ae a.z) 5 5),(6,yt A ls.length ca),(7,i6 (i:Int)),(8,yt B e.length g),(9,i6 (c:Int))],[],[],z⟩
end
theorem Ky  (w:World):aC 6 #[] w (λN K=>N=.returned (bO_ true)∧au z8 w K):=by
 refine cH (S:=z8) (n:=111) Tryz.func6 (ab.none w _) ?_;refine z6 16 (dz 5 0x20008020008000) [0,1,16] [] [(w.z,0,2),(w.z,0,2)] [.ops (Ac 14) [1,2],y6 15] (oC w) [] (w.z+1) ?_;refine Ip (w:=w) (S':=dx (w.z) w) (Y:=Nat) (λd=>pt d 0) (λd=>oC w) (λd m=>EW w.z d m) (v7:_=some (8,[.agg #[i6 3,i6 1],i6 0,i6 1],some 17,[])) tI (λo a=>?_) (λd b9 de b0=>?_)
 ·have p:=(a.wide (S':=dx (w.z) w) (λ_ b=>b.elim));refine(VP o p.x2.size).mono λN K H=>?_;obtain⟨d,G,I,u⟩:=H;exact⟨d,G,I,p.A3 (λ_ b=>b) u (fq p.x2) (bI a (es:=fw) (λ_ b=>b.1) rfl)⟩
 have cO:=de;refine z6 12 (dz 5 0) [0,1,2,20,21] [fF] [] [.ops (Ac 60) [4,5,6],y6 61,y6 31] (oC w) [] b9.z ?_;refine W3 (.pointer none) 8 [.agg #[i6 0,i6 0],i6 0,i6 1] (some 22) [false=false] ⟨rfl,tI⟩ rfl (λo a=>by
  exact Tv o) λcp cC=>?_
 replace cC:b9.z<=cp:=cC;refine z6 11 (dz 4 536903744) [0,2,25] [fF,fF,fF] [(w.z,0,2)] [.ops (Ac 62) [1,2],y6 63] (oC w) [] cp ?_;refine Ip (w:=w) (S':=dx (w.z) w) (Y:=Nat×el) (λc=>pt c.1 0) (λc=>oC w) (λc m=>EX c.2 w.z d c.1 m) (v7:_=some (9,[.agg #[i6 3,i6 1]],some 26,[])) tI (λo a=>?_) (λc ca df cs=>?_)
 ·have p:=(ab.A0 b0 a);have t:=(EW.Bw _ _ _ _ cO a.x2 (ag b0) rfl);refine(VQ o t).mono λN K H=>?_;obtain⟨k,s,G,I,u⟩:=H;exact⟨(k,s),G,I,p.A3 (λ_ b=>b) u (fq p.x2) (bI a (es:=fw) (λ_ b=>b.1) rfl)⟩
 obtain⟨k,s⟩:=c;have b4:=df;replace b4:EX s w.z d k ca:=b4;refine z6 9 (dz 3 0) [0,2,3,27,28] [] [] [.ops (Ac 126) [2,3],y6 127] (oC w) [] ca.z ?_;refine Ip (w:=w) (S':=dx (w.z) w) (Y:=Unit) (λ_=>i6 0) (λ_=>oC w) (λ_ m=>yB s w.z d k m) (v7:_=some (14,[pt d 0,i6 0,aE (Tu)],some 29,[])) tI (λo a=>?_) (λc9 l ds cA=>?_)
 ·have p:=(ab.A0 cs a);have t:=(EX.Bw _ _ _ _ b4 a.x2 (ag cs) rfl);refine(Tw o t).mono λN K H=>?_;obtain⟨G,I,u⟩:=H;exact⟨(),G,I,p.A3 (λ_ b=>b) u (fq p.x2) (bI a (es:=fw) (λ_ b=>b.1) rfl)⟩
 have cP:=ds;have eP:=Tx cP;refine Aq 13 (dz 4 0) [0,2,3,4,5,31] [] [] [.ops (Ac 510) [1,2],y6 511] ⟨[(0,bO_ false),(2,pt d 0),(3,pt k 0),(4,i6 0),(5,yt (ae l.z) 5 5),(31,pt d 0)],[⟨w.z,23,true,[i6 3,i6 1]⟩,⟨l.z,3,true,[i6 1,i6 3,i6 2,i6 2,i6 2]⟩],[],l.z+1⟩ ?_;refine dH (Ex:=MB w l) [false,false] rfl (λaV a O=>?_);have eg:yB s w.z d k aV:=(yB.Bw _ _ _ _ cP a.x2 (ag cA) rfl);have b1:ab w (dx (w.z) w) (MB w l) [] aV.z aV:=ab.A0 cA O;clear a O;have en:CG s w.z d k (l.z) aV:=⟨eg,b1.at_ 1 rfl,eP⟩;refine fM [0,2,3,4,5,31] [false,false] ?_;refine Ip (w:=w) (S':=dx (w.z) w) (Y:=(aY)×Nat×(List ar)) (λc=>yt c.1 c.2.2.length c.2.1) (λc=>[]) (λc m=>S1 s w.z d k (l.z) 10 c.2.2 m∧ah m w.z 65 26 c.1 c.2.2.length c.2.1 (aJ 200 c.2.2)) (v7:_=some (16,[pt d 0,i6 0],some 32,[])) tI (λo a=>?_) (λc cb dt b2=>?_)
 ·have p:=(ab.A0 b1 a);have t:=(CG.Bw _ _ _ _ en a.x2 (ag b1) rfl);refine(Rh o t).mono λN K H=>?_;obtain⟨L,y,g,G,I,e1,u⟩:=H;exact⟨(L,y,g),G,⟨I,e1⟩,p.A3 (λ_ b=>b) u (λA z=>z.elim (fq p.x2 A) (λb=>.inr b.1)) (bI a (es:=65::fw) (λA z=>MC A z) rfl)⟩
 obtain⟨L,y,g⟩:=c;obtain⟨b5,e2⟩:=dt;replace b5:S1 s w.z d k (l.z) 10 g cb:=b5;refine Aq 11 (dz 2 0) [0,2,3,4,5,6,7] [] [] [y6 4090,.zq 0,.code mt] ⟨[(0,.bool false),(2,pt d 0),(3,pt k 0),(4,i6 0),(5,.slice (ae l.z) 5 5),(6,.slice L g.length y),(7,i6 0)],[],[],cb.z⟩ ?_;refine bm (w:=w) (S':=dx (w.z) w) (Vc d k s w l) 5 v7 (λc6 a=>⟨⟨0,g,L,y,_,rfl,S1.Bw _ _ _ _ b5 a.x2 (ag b2) rfl,e2.kT a b2,rfl⟩,ab.A0 b2 a⟩) ?_;rintro b8 _ q ⟨e,g,L,y,c4,gs,an,b6,rfl⟩ J R dd;obtain⟨d3,gC⟩:=MD an;have cr:=CH (Wq e);have d4:∀A,dg L A->A<q.z:=λA z=>(b6.own A z).2;have cB:w.z<=q.z:=J.x2.size;by_cases cn:e<5
 ·skip;obtain⟨eR,e0⟩:=Ri e cn;have bt:=Rj an;refine aD [⟨l.z,0+e*1,[i6 ((l9 (Wq e):Nat):Int)]⟩] (λ_ A z=>?_) ?_
  ·obtain rfl:=aG.1 z;refine⟨λb=>aN rfl (aw bt) (ag J _ b),bt.lt,λj v bg=>?_⟩
   match j,bg with
   |0,bg=>cases bg;exact(by have ak:=bt.at_ (Kz e cn);simpa using ak)
  refine z6 25 [y2,y2,FN,y2,y2,y2,y2,HA,⟨false,0,[⟨true,0,0,1⟩]⟩,y2,y2,y2] [0,2,3,4,5,6,7,44,45] [dT (((e:Int):Int)<5),oE ((0:Int)<=(e:Int)∧(e:Int)<((5:Nat):Int)),oE ((((g.length:Nat):Int)!=((l9 (Wq e):Nat):Int))=false) (c8.2 yq)] [(l.z,0+e*1,1)] [.ops (Ac 261776) [9,10,11],y6 261777,y6 130889,.zq 1,.code qG,.inv R,.zq 0,.code mt] [] [⟨l.z,0+e*1,[i6 ((l9 (Wq e):Nat):Int)]⟩] q.z ?_;refine W3 (bO_ true) 15 [pt d 0] (some 46) [(((g.length:Nat):Int)!=((l9 (Wq e):Nat):Int))=false] ⟨c8.2 yq,tI⟩ rfl (λo a=>by
   have t:=(S1.Bw _ _ _ _ an a.x2 (ag J) rfl);exact Rl o t e0) λcK cR=>?_
  replace cR:q.z<=cK:=cR;refine Aq 18 (dz 5 64) [0,2,3,4,5,6,7,8,9] (rE 2 (oE ((((g.length:Nat):Int)!=((l9 (Wq e):Nat):Int))=false) (c8.2 yq))++[fF]) [] [y6 2094234,.zq 2,.code uh,.zq 1,.code qG,.inv R,.zq 0,.code mt] ⟨[(0,bO_ false),(2,pt d 0),(3,pt k 0),(4,i6 0),(5,yt (ae l.z) 5 5),(6,yt L g.length y),(7,i6 (e:Int)),(8,z7),(9,i6 0)],[],[⟨l.z,0+e*1,[i6 ((l9 (Wq e):Nat):Int)]⟩],cK⟩ ?_;refine aD [] (λ_ _ b=>by cases b) ?_;have ep:S1 s w.z d k (l.z) (Wq e) (g.drop 0++[]) q:=by rw[dD];exact an
  have fz:ah q q.z 65 26 none 0 0 (aJ 200 ([])):=ah.nil _ _ _ _;have fb:q.z<=q.z:=bT _;refine bm (w:=w) (S':=dx (w.z) w) (Vd d k s L y g w l q e) g.length v7 (λc6 a=>⟨⟨0,[],none,0,_,⟨yq,yq⟩,S1.Bw _ _ _ _ ep a.x2 (ag J) rfl,az fb a.x2.size,b6.kT a J,fz.kT a J,rfl⟩,ab.A0 J a⟩) ?_;rintro b8 _ a2 ⟨i,h,C,D,c4,eS,c1,f1,aR,c3,rfl⟩ Q a1 eq;obtain⟨gI,gA⟩:=eS;by_cases co:i<g.length
  rotate_left
  ·skip;refine di (f:=23) (hs:=[y2,y2,y2,y2,y2,y2,y2,y2,HA,y2]) [0,2,3,4,5,6,7] [true] (v7:_=some (Res.mk [(decide (((i:Int):Int)<((g.length:Nat):Int)))=false,T0 .i64 ((e:Int)+1)] (aX []) [.inv R,.zq 0,.code mt] ⟨[(0,bO_ false),(2,pt d 0),(3,pt k 0),(4,i6 0),(5,yt (ae l.z) 5 5),(6,yt C h.length D),(7,i6 ((e:Int)+1))],[],[],a2.z⟩)) ⟨bZ yq,i0 yq,trivial⟩ ?_;obtain rfl:i=g.length:=by omega
   have O:=eR;rw[<-d3]at O;have e4:S1 s w.z d k (l.z) (Wq (e+1)) h a2:=by have ak:=c1;rwa [List.drop_of_length_le (bT _),List.nil_append,O]at ak
   have f0:=ah.below (base':=w.z) c3 cB;rw[<-aW e];intro a9 bl bd a;exact dd (4-e) _ a9 bl yq ⟨e+1,h,C,D,_,yq,S1.Bw _ _ _ _ e4 a.x2 (ag Q) rfl,f0.kT a Q,rfl⟩ bd (ab.A0 Q a)
  obtain⟨B,bk⟩:∃B,g[i]?=some B:=⟨_,cx co⟩;obtain⟨E,rfl,_⟩:=ah.cell (j:=i*26+0) (v:=i6 200) aR (ff (f:=EJ 200) (λ_=>rfl) bk (by decide));have e5:S1 s w.z d k (l.z) (Wq e-i) (B::(g.drop (i+1)++h)) a2:=by have ak:=c1;rwa [List.drop_eq_getElem_cons co,(cF.1 bk).2,List.cons_append]at ak
  refine aD [⟨E,0+i*26,ER B⟩] (λ_ A z=>?_) ?_
  ·simp only[bj,cv,or_false]at z;subst z;exact⟨λb=>aN rfl (aR.ty E ⟨_,rfl,rfl⟩) (ag Q _ b),(aR.own E ⟨_,rfl,rfl⟩).2,dj (f:=EJ 200) (λ_=>rfl) aR bk⟩
  refine z6 22 [y2,y2,y2,y2,FN,y2,y2,y2,HA,⟨false,0,[⟨true,0,0,26⟩]⟩] [0,2,3,4,5,6,7,8,9,56,60] [dT (((i:Int):Int)<((g.length:Nat):Int)),oE ((0:Int)<=(i:Int)∧(i:Int)<((g.length:Nat):Int))] [(E,0+i*26,26)] [.ops (Ac 67015496) [5,6,7,8,9,10,11],.code ET,.zq 3,.code EU,.inv a1,.zq 2,.code uh,.zq 1,.code qG,.inv R,.zq 0,.code mt] [] [⟨E,0+i*26,ER B⟩] a2.z ?_;refine aD [] (λ_ _ b=>by cases b) ?_;refine Ip (w:=w) (S':=dx (w.z) w) (Y:=dw) (λF=>.tuple #[aE (oB B F),bO_ true]) (λF=>[]) (λF m=>q.z<=m.z∧XF s w.z d k (l.z) (Wq e-i) B (g.drop (i+1)++h) F m∧ah m w.z 65 26 (ae E) g.length y (aJ 200 g)∧ah m q.z 65 26 C h.length D (aJ 200 h)) (v7:_=some (18,[pt k 0,i6 0,aE (ER B)],some 61,[])) tI (λo a=>?_) (λF U er a3=>?_)
  ·have p:=(ab.A0 Q a);have t:=(S1.Bw _ _ _ _ e5 a.x2 (ag Q) rfl);have W:=(az f1 a.x2.size);have T:=(aR.kT a Q);have M:=(c3.kT a Q);refine(Ty o t).mono λN K H=>?_;obtain⟨F,G,I,u⟩:=H;exact⟨F,G,⟨az W u.size,I,(T.y4 u (λ_ b=>b.1) rfl),(M.y4 u (λ_ b=>b.1) rfl)⟩,p.A3 (λ_ b=>b) u (fq p.x2) (bI a (es:=fw) (λ_ b=>b.1) rfl)⟩
  obtain⟨f2,e6,fo,ga⟩:=er;refine Aq 14 (dz 9 0x1a00080001a00080000) [0,2,3,4,5,6,7,8,9,64,65,66] [] [(U.z,0,26),(U.z,0,26)] [.ops ET [3,4,5],.zq 3,.code EU,.inv a1,.zq 2,.code uh,.zq 1,.code qG,.inv R,.zq 0,.code mt] ⟨[(0,bO_ false),(2,pt d 0),(3,pt k 0),(4,i6 0),(5,yt (ae l.z) 5 5),(6,yt (ae E) g.length y),(7,i6 (e:Int)),(8,yt C h.length D),(9,i6 (i:Int)),(64,yt C h.length D),(65,pt d 0),(66,aE (oB B F))],[⟨U.z,65,true,oB B F⟩],[],U.z+1⟩ ?_;refine dH (Ex:=[⟨U.z,65,false,oB B F⟩]) [false] rfl (λV a O=>?_);have f3:q.z<=V.z:=(az f2 a.x2.size);have e7:XF s w.z d k (l.z) (Wq e-i) B (g.drop (i+1)++h) F V:=(XF.Bw _ _ _ _ e6 a.x2 (ag a3) rfl);have fr:ah V w.z 65 26 (ae E) g.length y (aJ 200 g):=(fo.kT a a3);have gb:ah V q.z 65 26 C h.length D (aJ 200 h):=(ga.kT a a3);have a4:ab w (dx (w.z) w) [⟨U.z,65,false,oB B F⟩] [] V.z V:=ab.A0 a3 O;clear a O;refine fM [0,2,3,4,5,6,7,8,9,64,65,66] [false] ?_;refine fh (w:=w) (S':=dx (w.z) w) (Y:=(aY)×Nat×(List ar)) (λc=>yt c.1 c.2.2.length c.2.1) (λc=>[]) (λc m=>q.z<=m.z∧S1 s w.z d k (l.z) (Wq e-i-1) (g.drop (i+1)++h++c.2.2) m∧0<Wq e-i∧ah m w.z 65 26 (ae E) g.length y (aJ 200 g)∧ah m q.z 65 26 C h.length D (aJ 200 h)∧ah m w.z 65 26 c.1 c.2.2.length c.2.1 (aJ 200 c.2.2)) (λc=>[(67,yt c.1 c.2.2.length c.2.1),(0,bO_ false),(2,pt d 0),(3,pt k 0),(4,i6 0),(5,yt (ae l.z) 5 5),(6,yt (ae E) g.length y),(7,i6 (e:Int)),(8,yt C h.length D),(9,i6 (i:Int)),(64,yt C h.length D),(65,pt d 0),(66,aE (oB B F))]) (v7:_=some (19,[pt d 0,i6 0,aE (oB B F)],some 67,[])) tI (λ_=>rfl) (λo a=>?_) (λc bs eK aq=>?_)
  ·have p:=(ab.A0 a4 a);have W:=(az f3 a.x2.size);have t:=(XF.Bw _ _ _ _ e7 a.x2 (ag a4) rfl);have T:=(fr.kT a a4);have M:=(gb.kT a a4);refine(Tz o t).mono λN K H=>?_;obtain⟨X,Z,r,G,⟨I,fl⟩,fn,u⟩:=H;exact⟨(X,Z,r),G,⟨az W u.size,I,fl,(T.y4 u (λ_ b=>b.1) rfl),(M.y4 u (λ_ b=>b.1) rfl),fn.below p.x2.size⟩,p.A3 (λ_ b=>b) u (fq p.x2) (bI a (es:=fw) (λ_ b=>b.1) rfl)⟩
  obtain⟨X,Z,r⟩:=c;obtain⟨f7,a7,c2,fs,gc,gd⟩:=eK;replace a7:S1 s w.z d k (l.z) (Wq e-i-1) (g.drop (i+1)++h++r) bs:=a7;replace c2:0<Wq e-i:=c2;have eW:=MD a7;have gB:=CH (Wq e-i-1);simp only[bM,List.length_drop]at eW;refine Aq 3 [] [0,2,3,4,5,6,7,8,9,64,67] [] [] [.ops ET [4,5],.zq 3,.code EU,.inv a1,.zq 2,.code uh,.zq 1,.code qG,.inv R,.zq 0,.code mt] ⟨[(0,bO_ false),(2,pt d 0),(3,pt k 0),(4,i6 0),(5,yt (ae l.z) 5 5),(6,yt (ae E) g.length y),(7,i6 (e:Int)),(8,yt C h.length D),(9,i6 (i:Int)),(64,yt C h.length D),(67,yt X r.length Z)],[],[],bs.z⟩ ?_;have e8:S1 s w.z d k (l.z) (Wq e-(i+1)) (g.drop (i+1)++(h++r)) bs:=by rw[<-eA];exact a7
  refine dE (w:=w) (S':=dx (w.z) w) (Y:=aO) (dst:=some 68) (x:=Builtin.append_ #[50,50] 50 #[yt C h.length D,yt X r.length Z]) (λc=>yt c.1 (h.length+r.length) c.2) [] (λc m=>q.z<=m.z∧S1 s w.z d k (l.z) (Wq e-(i+1)) (g.drop (i+1)++(h++r)) m∧ah m w.z 65 26 (ae E) g.length y (aJ 200 g)∧ah m q.z 65 26 c.1 (h.length+r.length) c.2 (aJ 200 (h++r))) (λc=>[(68,yt c.1 (h.length+r.length) c.2),(0,bO_ false),(2,pt d 0),(3,pt k 0),(4,i6 0),(5,yt (ae l.z) 5 5),(6,yt (ae E) g.length y),(7,i6 (e:Int)),(8,yt C h.length D),(9,i6 (i:Int)),(64,yt C h.length D),(67,yt X r.length Z)]) v7 v7 (λ_=>rfl) (λo a=>?_) (λc cq eL a5=>?_)
  ·have p:=(ab.A0 aq a);have W:=(az f7 a.x2.size);have t:=(S1.Bw _ _ _ _ e8 a.x2 (ag aq) rfl);have T:=(fs.kT a aq);have M:=(gc.kT a aq);have e3:=(gd.kT a aq);obtain⟨c5,db,K,c7,cm,a0⟩:=mu (P:=Tryz.prog) o _ _ 50 50 65 (.agg #[i6 0,i6 0,i6 0,bO_ false,i6 0,i6 0,i6 0,i6 0,i6 0,i6 0,i6 0,i6 0,sT ⟨#[]⟩,i6 0,i6 0,i6 0,bO_ false,i6 0,i6 0,i6 0,sT ⟨#[]⟩,bO_ false,i6 0,i6 0,i6 0,sT ⟨#[]⟩]) 26 232 _ h.length _ _ _ r.length _ _ v7 v7 v7 (by decide) M e3 (py 200 r) yq (by decide) W;rw[show aJ 200 h++aJ 200 r=aJ 200 (h++r)by simp[aJ]]at cm;exact⟨(c5,db),K,c7,⟨az W a0.size,S1.Bw _ _ _ _ t a0 (bW M) rfl,(T.x2 a0 (λA z ed=>by have gn:=d4 A z;have gr:=(M.own A ed).1;omega)),cm⟩,p.A3 (λ_ b=>b) a0 (λA z=>.inr (az cB (M.own A z).1)) (bI a (bW M) rfl)⟩
  obtain⟨a8,bb⟩:=c;obtain⟨f8,e9,fv,gf⟩:=eL;refine di (f:=11) (hs:=[y2,y2,HA,y2]) [0,2,3,4,5,6,7,8,9] [true] (v7:_=some (Res.mk [T0 .i64 ((i:Int)+1)] (aX []) [.inv a1,.zq 2,.code uh,.zq 1,.code qG,.inv R,.zq 0,.code mt] ⟨[(0,bO_ false),(2,pt d 0),(3,pt k 0),(4,i6 0),(5,yt (ae l.z) 5 5),(6,yt (ae E) g.length y),(7,i6 (e:Int)),(8,yt a8 (h.length+r.length) bb),(9,i6 ((i:Int)+1))],[],[],cq.z⟩)) ⟨i0 yq,trivial⟩ ?_;have gl:ah cq q.z 65 26 a8 ((h++r).length) bb (aJ 200 (h++r)):=by rw[bM];exact gf
  rw[show h.length+r.length=(h++r).length from bM.symm,<-aW i];intro a9 bl bd a;exact eq (b8-1) _ a9 bl yq ⟨i+1,h++r,a8,bb,_,⟨yq,yq⟩,S1.Bw _ _ _ _ e9 a.x2 (ag a5) rfl,az f8 a.x2.size,fv.kT a a5,gl.kT a a5,rfl⟩ bd (ab.A0 a5 a)
 ·skip;refine z6 14 (dz 4 0) [0,2,3,4,71] [dF (((e:Int):Int)<5)] [] [.ops (Ac 2046) [1,2,3,4,5,6,7,8],y6 2047] [] [] q.z ?_;obtain rfl:e=5:=by omega
  have b7:S1 s w.z d k (l.z) 0 g q:=an;refine z6 3 [] [0,2,3,4,71] [] [] [.ops (Ac 2046) [1,2,3,4,5,6,7,8],y6 2047] [] [] q.z ?_;refine W3 (.tuple #[i6 0,sT ⟨#[]⟩,i6 1]) 20 [pt d 0] (some 72) [] tI rfl (λo a=>by
   have t:=(S1.Bw _ _ _ _ b7 a.x2 (ag J) rfl);exact(HW o t).2) λb3 cU=>?_
  replace cU:q.z<=b3:=cU;refine z6 29 (dz 23 0x10311031103110000000000) [0,3,90,91] ([tT,tT,tT,tT,tT,tT]++rE 3 (oE ((ByteArray.toList ⟨#[]⟩==ByteArray.toList ⟨#[]⟩)=true) (iS _))++[tT]) [] [.ops (Ac 4094) [16,17,18,19,20,21,22,23,24,25,26,27,28,29,30,31,32,33,34,35],.code EV] [] [] b3 ?_;refine W3 (bO_ false) 15 [pt d 0] (some 92) [true=true] ⟨rfl,tI⟩ rfl (λo a=>by
   have t:=(S1.Bw _ _ _ _ b7 a.x2 (ag J) rfl);exact(HW o t).1) λcL c0=>?_
  replace c0:b3<=cL:=c0;refine z6 7 (dz 4 4145) [0,3,95,96] [tT,tT,tT] [] [.ops (Ac 4094) [21,22,23,24,25,26,27,28,29,30,31,32,33,34,35],.code EV] [] [] cL ?_;refine Ip (w:=w) (S':=dx (w.z) w) (Y:=Unit) (λ_=>bO_ true) (λ_=>[]) (λ_ m=>S1 s w.z d k (l.z) 0 g m∧ah m w.z 65 26 L g.length y (aJ 200 g)) (v7:_=some (22,[pt k 0,i6 0],some 97,[true=true])) ⟨rfl,tI⟩ (λo a=>?_) (λc9 da eN a6=>?_)
  ·have p:=(ab.A0 J a);have t:=(S1.Bw _ _ _ _ b7 a.x2 (ag J) rfl);have T:=(b6.kT a J);refine(KA o t).mono λN K H=>?_;obtain⟨G,I,u⟩:=H;exact⟨(),G,⟨I,(T.y4 u (λ_ b=>b.1) rfl)⟩,p.A3 (λ_ b=>b) u (fq p.x2) (bI a (es:=fw) (λ_ b=>b.1) rfl)⟩
  obtain⟨fa,gK⟩:=eN;obtain⟨ac,cf,ad,cl,d1,du,d2,dv,cr,d0,ea,eb,ec⟩:=Rm fa;refine aD [⟨k,2,[yt (ae ac) 3 cf]⟩,⟨ac,0,[yt (ae ad) 1 cl]⟩,⟨ad,4,[sT (⟨#[48,49,50,51,52,53,54,55,56,57,97,98,99,100,101,102]⟩)]⟩] (λ_ A z=>?_) ?_
  ·simp only[bj,cv,or_false]at z;rcases z with rfl|rfl|rfl
   ·exact⟨λb=>aN rfl ea (ag a6 _ b),d1,ui du⟩
   ·exact⟨λb=>aN rfl eb (ag a6 _ b),d2,ui dv⟩
   ·exact⟨λb=>aN rfl ec (ag a6 _ b),cr,ui d0⟩
  refine z6 18 [WG,y2,FN,FN,FN,⟨true,0,[⟨true,0,0,1⟩]⟩,⟨true,1,[]⟩,⟨true,0,[⟨true,1,0,1⟩]⟩,⟨true,1,[]⟩,FN,⟨true,0,[⟨true,2,0,1⟩]⟩,FN,WG,y2] [0] [tT,tT,tT,tT,tT,tT,oE ((0:Int)<=0∧0<((3:Nat):Int)),tT,tT,oE ((0:Int)<=0∧0<((1:Nat):Int)),tT,tT,tT,tT] [(k,2,1),(ac,0,1),(ad,4,1)] [.code EV] [] [⟨k,2,[yt (ae ac) 3 cf]⟩,⟨ac,0,[yt (ae ad) 1 cl]⟩,⟨ad,4,[sT (⟨#[48,49,50,51,52,53,54,55,56,57,97,98,99,100,101,102]⟩)]⟩] da.z ?_;refine B1 [] [bO_ (ByteArray.toList (⟨#[48,49,50,51,52,53,54,55,56,57,97,98,99,100,101,102]⟩)==ByteArray.toList ⟨#[48,49,50,51,52,53,54,55,56,57,97,98,99,100,101,102]⟩)] [] ?_;intro o a;exact⟨dk (iS _),kx (ab.A0 a6 a).x2⟩
end Go.Proofs.YtcmpkkapkdlfhaaGreat
