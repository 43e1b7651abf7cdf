import Derived.Test.YtcmpkkapkdlfhaaGreatPil3
namespace Go.Proofs.YtcmpkkapkdlfhaaGreat
open Go.RowKit Tryz
set_option maxHeartbeats 4000000
set_option maxRecDepth 100000
def bq(w:World)(v8 lb d:Nat)(c:CM)(L:List ar)(v:Value):Prop:=bO 124 141 w v8 d c∧∃a b,v=yt a L.length b∧ah w lb 65 26 a L.length b (aJ c.Ar L)∧lb<=w.z
variable {w a w0:World}{v8 lb b pb d:Nat}{c:CM}{L:List ar}{v:Value}{T S:br}{es:List TypeId}{x:am}{bk:ax}{wn:List Wn}
theorem bq.y4(h:bq w v8 lb b c L v)(d:au T w a)(f:∀e,T e->cI es w e)(j:es.contains 124=false)(k:es.contains 141=false)(l:es.contains 65=false):bq a v8 lb b c L v:=by
 obtain⟨n,g,i,p,m,o⟩:=h;exact⟨n.y4 d f j k,g,i,p,m.y4 d f l,az o d.size⟩
def aP(w:World)(v8 pb:Nat)(x:am)(c:CM)(L:List ar):Prop:=∃v,A2 w pb 98 (am.cells {x with ak:=v})∧bq w v8 x.lb x.cb c L v
theorem aP.T'(h:aP w v8 pb x c L):∀a,be es v8 x.lb pb x.cb w a->cI (98::124::65::es) w a:=by
 obtain⟨v,d,f,_⟩:=h;rintro a (rfl|rfl|⟨_,e,he,b⟩|⟨_,b⟩)
 ·exact⟨98,z1,aw d⟩
 ·exact⟨124,z1,f.zq⟩
 ·exact⟨e,by simp at he ⊢;exact .inr (.inr (.inr he)),b⟩
 ·exact⟨65,z1,b⟩
def ib(w:World)(v8 pb:Nat)(x:am)(c:CM):Prop:=A2 w pb 98 (am.cells {x with ak:=yt none 0 0})∧bO 124 141 w v8 x.cb c
theorem ib.XM{lb':Nat}(h:ib w v8 pb x c)(a:lb'<=w.z):aP w v8 pb {x with lb:=lb'} c []:=
 ⟨yt none 0 0,h.1,h.2,none,0,rfl,ah.nil _ _ _ _,a⟩
theorem ib.y4(h:ib w v8 pb x c)(e:au T w a)(d:∀b,T b->cI es w b)(h0:es.contains 98=false)(f:es.contains 124=false)(g:es.contains 141=false):ib a v8 pb x c:=
 ⟨h.1.x2 e (λi=>aN h0 (aw h.1) (d _ i)),h.2.y4 e d f g⟩
theorem bv{c:List TypeId}{d:World}(f:au (be c v8 lb pb b w) w d)(he:es.all c.contains=true):∀a,be es v8 lb pb b d a->be c v8 lb pb b w a∨w.z<=a:=vk (λ_ e=>e) f he
theorem ab.HS{h:World}{g:Nat}{t:TypeId}{cs cs':av}(hm:ab w S (⟨g,t,true,cs⟩::bk) wn d h)(f:au T h a)(k:∀e,T e->S e∨w.z<=e)(j:A2 a g t cs')(l:∀c∈bk,¬T c.g):ab w S (⟨g,t,true,cs'⟩::bk) [] a.z a:=by
 refine⟨rfl,λc b=>?_,λc b m=>?_,hm.nd,hm.x2.trans f (λi o b=>(k i b).resolve_right yq),λx n=>by cases n⟩
 ·rcases bj.1 b with rfl|b
  ·exact j
  ·exact(hm.zq c (cz _ b)).x2 f (l c b)
 ·rcases bj.1 b with rfl|b
  ·exact hm.own ⟨g,t,true,cs⟩ A4 rfl
  ·exact hm.own c (cz _ b) m
theorem bQ{e:Bk}(hm:ab w0 S (e::bk) wn d w)(g:∀b,T b->cI es w b)(h:bk.all (λa=>!es.contains a.t)=true):∀a∈bk,¬T a.g:=λa c i=>by
 have f:=bE.1 h a c
 exact aN (by simpa using f) (aw (hm.zq a (cz _ c))) (g _ i)
theorem ab.D1{cs:av}(h:A2 w pb 98 cs):ab w (λb=>b=pb) [⟨pb,98,true,cs⟩] [] w.z w:=
 ab.start (bk:=[⟨pb,98,true,cs⟩]) (wn:=[]) (λc a=>by obtain rfl:=aG.1 a;exact h) (λc a _=>by obtain rfl:=aG.1 a;rfl) z1 z1
theorem gT(ya b:Int)(q:ck)(h:aP w v8 pb x c L)(z:c.zL.length<8∧c.last<1099511627776∧0<=b∧b<202)(s:L.length<=50)(u:v8<=w.z):aC 55 #[pt pb 0,i6 ya,i6 b,.agg #[i6 q.kind,i6 q.Al,i6 q.BV,i6 q.seq,i6 q.mask,i6 q.node,i6 q.oe,i6 q.os,sT q.block]] w (λd a=>d=Jx∧aP a v8 pb x (d6 c ya b {q with Al:=x.sn}) (L++[⟨b,c.last+1,{q with Al:=x.sn},af ya,af ya⟩])∧au (be [141] v8 x.lb pb x.cb w) w a):=by
 obtain⟨v,r,t,g,k,rfl,p,f⟩:=h;refine(SA x c pb v8 ya b q g k L z s w r t p u f).mono λd a y=>?_;obtain⟨i,j,l,m,n,o,e⟩:=y;exact⟨l,⟨_,m,n,i,j,z1,by simpa[d6]using o,az f e.size⟩,e⟩
theorem fR(f:Fn)(d e:Array Value)(h:aP w v8 pb x c L):aC 53 #[pt pb 0,.func f d e] w (λb a=>b=Jx∧aP a v8 pb {x with nx:=.func f d e,lg:=false} {c with zL:=[]} L∧au (be [] v8 x.lb pb x.cb w) w a):=by
 obtain⟨v,k,l,n,o,y,i,t⟩:=h;refine(LV {x with ak:=v} c pb v8 f d e w k l).mono λb a u=>?_;obtain⟨p,q,r,g⟩:=u;refine⟨p,⟨v,q,r v8,n,o,y,i.x2 g ?_,az t g.size⟩,g.mono λz _ s=>s.elim .inl (λh=>.inr (.inl h))⟩;rintro j m (b|b)
 ·exact eo (i.ty j m) b.symm (aw k) rfl
 ·exact eo (i.ty j m) b.symm l.zq rfl
theorem xt(h:aP w v8 pb x c L):aC 53 #[pt pb 0,.nilFunc] w (λb a=>b=Jx∧aP a v8 pb {x with nx:=.nilFunc,lg:=false} {c with zL:=[]} L∧au (be [] v8 x.lb pb x.cb w) w a):=by
 obtain⟨v,g,i,k,l,s,e,q⟩:=h;refine(Ak {x with ak:=v} c pb v8 w g i).mono λb a r=>?_;obtain⟨m,n,o,d⟩:=r;refine⟨m,⟨v,n,o v8,k,l,s,e.x2 d ?_,az q d.size⟩,d.mono λt _ p=>p.elim .inl (λh=>.inr (.inl h))⟩;rintro f j (b|b)
 ·exact eo (e.ty f j) b.symm (aw g) rfl
 ·exact eo (e.ty f j) b.symm i.zq rfl
theorem bq.kT{Ex:ax}{k:List Wn}{j:Nat}(h:bq w v8 lb b c L v)(hm:ab w (ao bk) Ex k j a)(e:ab w0 S bk wn d w)(f:((bk.filter (·.rw)).map (·.t)).contains 124=false:=by exact rfl)(g:((bk.filter (·.rw)).map (·.t)).contains 141=false:=by exact rfl)(i:((bk.filter (·.rw)).map (·.t)).contains 65=false:=by exact rfl):bq a v8 lb b c L v:=h.y4 hm.x2 (ag e) f g i
theorem bq.kU(h:bq w v8 lb b c L v)(hm:au (ao bk) w a)(e:ab w0 S bk wn d w)(f:((bk.filter (·.rw)).map (·.t)).contains 124=false:=by exact rfl)(g:((bk.filter (·.rw)).map (·.t)).contains 141=false:=by exact rfl)(i:((bk.filter (·.rw)).map (·.t)).contains 65=false:=by exact rfl):bq a v8 lb b c L v:=h.y4 hm (ag e) f g i
abbrev bL(es:List TypeId)(v8:Nat)(x:am)(pb:Nat)(w:World):Nat->Prop:=be es v8 x.lb pb x.cb w
def WC:Nat->ByteArray:=λ_=>⟨#[]⟩
def am.ended(x:am)(b:Int)(a:ByteArray):am:={x with busy:=false,kd:=0,at_:=0,da:=⟨#[]⟩,sn:=0,cn:=0,nx:=.nilFunc,lg:=false,en:=0,ep:=0,ou:=0,db:=false,te:=0,ts:=0,kn:=z7,rc:=z7,Wh:=false,rd:=z7,wr:=z7,bl:=WC,ud:=.pointer none,er:=b,dt:=a,ed:=x.ed+1}
section
variable (x:am)(c:CM)(L:List ar)(pb v8:Nat)(w:World)
theorem qd(k:Int)(j:ByteArray)(P:0<=x.ed∧x.ed<1099511627776)(w:World)(A:aP w v8 pb x c L):aC 47 #[pt pb 0,i6 k,sT j] w (λg h=>g=Jx∧aP h v8 pb (x.ended k j) {c with zL:=[]} L∧(∀f,bO 124 141 h f x.cb {c with zL:=[]})∧au (be [] v8 x.lb pb x.cb w) w h):=by
 obtain⟨d,s,z⟩:=A;have H:=aw s;refine cH (S:=(λe=>e=pb)) (n:=33) func47 (ab.D1 s) ?_;refine z6 9 (dz 4 270565376) [0,1,2,9] [] [(pb,2,1)] [.ops [0] [4],.code [1]] [bh pb {x with ak:=d}] [] w.z ?_;refine Ip (w:=w) (S':=bL [] v8 x pb w) (Y:=Unit) (λ_=>.tuple #[]) (λ_=>[bh pb {x with ak:=d}]) (λ_ p=>(∀f,bO 124 141 p f x.cb {c with zL:=[]})∧bq p v8 x.lb x.cb {c with zL:=[]} L d) (v7:_=some (79,[pt x.cb 0],some 10,[])) tI (λF a=>?_) (λO u K o=>?_)
 ·have M:=(a.wide (S':=bL [] v8 x pb w) (λ_ i=>.inl i));have J:=(z.y4 (es:=[98]) a.x2 (λe b=>by subst b;exact⟨98,z1,H⟩) rfl rfl rfl);obtain⟨m,t,v,E,r,C⟩:=J;refine(mJ m).mono λg h D=>?_;obtain⟨y,q,l⟩:=D;exact⟨(),y,⟨q,q v8,t,v,E,r.x2 l (λe b g=>eo (r.ty e b) g.symm m.zq rfl),az C l.size⟩,M.A3 (λ_ i=>i) l (λe b=>.inl (.inr (.inl b))) (λN B b=>by obtain rfl:=aG.1 B;exact eo (aw (a.at_ 0 rfl)) b.symm m.zq rfl)⟩
 obtain⟨G,I⟩:=K;refine Aq 39 (dz 27 0x1480800201480800001470800014608000000192c0800012b0800000) [] [JL (x.ed+1)] [(pb,43,1),(pb,44,25),(pb,70,1),(pb,71,1),(pb,72,1),(pb,72,1)] [] ⟨[],[⟨pb,98,true,am.cells {x with busy:=false,kd:=0,at_:=0,da:=⟨#[]⟩,sn:=0,cn:=0,nx:=.nilFunc,lg:=false,en:=0,ep:=0,ou:=0,db:=false,te:=0,ts:=0,kn:=z7,rc:=z7,Wh:=false,rd:=z7,wr:=z7,bl:=WC,ud:=.pointer none,ak:=d,er:=k,dt:=j,ed:=(x.ed+1)}⟩],[],u.z⟩ ?_;refine bN [] (v7:_=some ([],aX [])) ?_;intro F a;exact⟨rfl,⟨d,a.at_ 0 rfl,I.kT a o⟩,λf=>(G f).y4 a.x2 (ag o) rfl rfl,(ab.A0 o a).x2⟩
theorem vL(w:World)(o:aP w v8 pb x c L):aC 37 #[pt pb 0] w (λh f=>∃a d,h=.returned (yt a L.length d)∧ah f x.lb 65 26 a L.length d (aJ c.Ar L)∧ib f v8 pb x c∧au (be [] v8 x.lb pb x.cb w) w f∧au (λb=>b=pb) w f):=by
 obtain⟨j,g,m⟩:=o;have q:=aw g;refine cH (S:=(λb=>b=pb)) (n:=12) func37 (ab.D1 g) ?_;refine z6 27 (dz 12 0x1450800000145080000) [2] [] [(pb,69,1),(pb,69,1)] [y6 31] [bh pb {x with ak:=z7}] [] w.z ?_;refine B1 [] [j] [] ?_;intro s e;obtain⟨l,a,d,rfl,k,r⟩:=(m.y4 (es:=[98]) e.x2 (λb p=>by subst p;exact⟨98,z1,q⟩) rfl rfl rfl);exact⟨a,d,rfl,k,⟨e.at_ 0 rfl,l⟩,(e.wide (S':=bL [] v8 x pb w) (λ_ i=>.inl i)).x2,e.x2⟩
theorem LX(k:aP w v8 pb x c L):aC 37 #[pt pb 0] w (λe d=>∃a b,e=.returned (yt a L.length b)∧ah d x.lb 65 26 a L.length b (aJ c.Ar L)∧ib d v8 pb x c∧au (be [] v8 x.lb pb x.cb w) w d):=
 (vL x c L pb v8 w k).mono λ_ _ f=>by
  obtain⟨a,b,g,h,i,j,_⟩:=f
  exact⟨a,b,g,h,i,j⟩
end
def Us:av:=[i6 8]++rp 7 (i6 0)++[sT ⟨#[]⟩]
@[simp] def O8(x:am)(a:Nat)(ya:Int)(v2:Value):ax:=[bh a {x with nx:=.func (.func 54) #[pt a 0] #[],lg:=true,en:=ya,ak:=v2}]
theorem sJ(x:am)(c:CM)(L:List ar)(a:Nat)(v8:Nat)(ya:Int)(Q:c.last<1099511627776)(G:L.length<=50)(w:World)(I:aP w v8 a x c L)(z:v8<=w.z):aC 33 #[pt a 0,i6 ya] w (λj i=>j=Jx∧aP i v8 a {x with nx:=.func (.func 54) #[pt a 0] #[],lg:=true,en:=ya} (d6 {c with zL:=[]} ya 100 ⟨8,x.sn,0,0,0,0,0,0,⟨#[]⟩⟩) (L++[⟨100,c.last+1,⟨8,x.sn,0,0,0,0,0,0,⟨#[]⟩⟩,af ya,af ya⟩])∧au (be [141] v8 x.lb a x.cb w) w i):=by
 obtain⟨u,y,H⟩:=I;have K:=aw y;refine cH (S:=(λv=>v=a)) (n:=21) func33 (ab.D1 y) ?_;refine z6 8 (dz 3 0) [0,1,4,6] [] [] [.ops [0] [3],.code [1]] [bh a {x with ak:=u}] [] w.z ?_;refine Ip (w:=w) (S':=bL [141] v8 x a w) (Y:=Value) (λd=>.tuple #[]) (λd=>[bh a {x with nx:=.func (.func 54) #[pt a 0] #[],lg:=false,ak:=d}]) (λd k=>bq k v8 x.lb x.cb ({c with zL:=[]}) L d) (v7:_=some (53,[pt a 0,.func (.func 54) #[pt a 0] #[]],some 7,[])) tI (λg b=>?_) (λd E O B=>?_)
 ·have e:=(b.wide (S':=bL [141] v8 x a w) (λ_ D=>.inl D));have p:=(H.y4 (es:=[98]) b.x2 (λv J=>by subst J;exact⟨98,z1,K⟩) rfl rfl rfl);have h:aP g v8 a ({x with ak:=u}) c L:=⟨_,b.at_ 0 rfl,p⟩;refine(fR (.func 54) #[pt a 0] #[] h).mono λj i s=>?_;obtain⟨r,⟨l,o,t⟩,m⟩:=s;have q:=h.T' (es:=[]);exact⟨l,r,t,e.HS m (bv e.x2 rfl) o (bQ b q rfl)⟩
 have M:=O;refine z6 22 (dz 14 0x13308000013208000000) [17,18,19] [] [(a,50,1),(a,51,1)] [.ops [1,1] [3]] [bh a {x with nx:=.func (.func 54) #[pt a 0] #[],lg:=true,en:=ya,ak:=d}] [] E.z ?_;refine Ip (w:=w) (S':=bL [141] v8 x a w) (Y:=Value) (λf=>.tuple #[]) (λf=>O8 x a ya f) (λf k=>bq k v8 x.lb x.cb (d6 {c with zL:=[]} ya 100 ⟨8,x.sn,0,0,0,0,0,0,⟨#[]⟩⟩) (L++[⟨100,c.last+1,⟨8,x.sn,0,0,0,0,0,0,⟨#[]⟩⟩,af ya,af ya⟩]) f) (v7:_=some (55,[pt a 0,i6 ya,i6 100,aE (Us)],some 20,[])) tI (λg b=>?_) (λf F P C=>?_)
 ·have e:=(ab.A0 B b);have A:v8<=g.z:=az z e.x2.size;have p:=(M.kT b B);have h:aP g v8 a ({x with nx:=.func (.func 54) #[pt a 0] #[],lg:=true,en:=ya,ak:=d}) ({c with zL:=[]}) L:=⟨_,b.at_ 0 rfl,p⟩;refine(gT ya 100 (⟨8,0,0,0,0,0,0,0,⟨#[]⟩⟩) h ⟨z1,Q,by decide,by decide⟩ G A).mono λj i s=>?_;obtain⟨r,⟨l,o,t⟩,m⟩:=s;have q:=h.T' (es:=[141]);exact⟨l,r,t,e.HS m (bv e.x2 rfl) o (bQ b q rfl)⟩
 have N:=P;refine Aq 4 [] [] [] [] [] ⟨[],O8 x a ya f,[],F.z⟩ ?_;refine bN [] (v7:_=some ([],aX [])) ?_;intro g b;exact⟨rfl,⟨_,b.at_ 0 rfl,N.kT b C⟩,(ab.A0 C b).x2⟩
def Lm(N S:Int)(a:Nat):am:=⟨0,N,S,a,λ_=>zJ,false,0,0,⟨#[]⟩,0,0,.nilFunc,false,0,0,0,false,0,0,z7,z7,false,z7,z7,WC,.pointer none,z7,0,⟨#[]⟩,0⟩
section
variable (w:World)(N S nr bt:Int)
def wm(d:Nat×Nat):av:=[i6 N,i6 S,pt d.1 0,bO_ false]++rp 4 (i6 0)++[bO_ false]++rp 4 (i6 0)++[bO_ false]++rp 4 (i6 0)++[bO_ false]++rp 4 (i6 0)++[bO_ false]++rp 4 (i6 0)++[bO_ false]++rp 4 (i6 0)++[bO_ false]++rp 4 (i6 0)++[bO_ false]++rp 4 (i6 0)++[bO_ false,i6 0,i6 0,sT ⟨#[]⟩,i6 0,i6 0,.nilFunc,bO_ false,i6 0,i6 0,i6 0,bO_ false,i6 0,i6 0,z7,z7,bO_ false,z7,z7]++rp 6 (sT ⟨#[]⟩)++[.pointer none,z7,i6 0,sT ⟨#[]⟩,i6 0]
@[simp] def wo:ax:=[⟨w.z,23,true,[i6 N,i6 S]⟩]
@[simp] def O7(d:Nat×Nat):ax:=[⟨w.z,23,true,[i6 N,i6 S]⟩,⟨d.2,98,true,am.cells { (Lm N S d.1)with ak:=yt none 0 0}⟩]
@[simp] def AD(b:Nat)(w:World)(N:Int)(S:Int)(a:Nat):ax:=[⟨w.z,23,true,[i6 N,i6 S]⟩,bh b { (Lm N S a)with ak:=yt none 0 0}]
def Vv:Exit->Act->aI:=bodyPost prog f8 (λd c=>∃a b,d=.returned (pt a 0)∧w.z<=a∧w.z<=b∧A2 c a 98 (am.cells { (Lm N S b)with ak:=yt none 0 0})∧A2 c b 124 [i6 (200+nr),i6 (bt*1048576),z7]∧au z8 w c)
def Sx:bu:=[(1,i6 nr),(2,i6 bt),(3,pt w.z 0),(6,.pointer none)]
def Jn(d:Nat×Nat):List (Option Value):=[some (.agg #[i6 N,i6 S]),some (i6 nr),some (i6 (200+nr)),some (i6 bt),some (i6 (bt*1048576)),some (pt d.1 0),some (aE (wm N S d)),some (pt d.2 0),some (pt d.2 0)]
def Jo(_:Nat×Nat)(k:Nat):Bool:=(fL 9 [])[k]?.getD true
def AE(d:Nat×Nat):List (ax):=[wo w N S,wo w N S,wo w N S,O7 w N S d]
abbrev AF(w:World)(nr:Int)(bt:Int)(b:Nat)(d:Nat×Nat)(a:World):Prop:=match b with|0=>True|1=>w.z<=d.1∧A2 a d.1 124 [i6 (200+nr),i6 (bt*1048576),z7]|2=>w.z<=d.1∧A2 a d.1 124 [i6 (200+nr),i6 (bt*1048576),z7]|3=>w.z<=d.1∧A2 a d.1 124 [i6 (200+nr),i6 (bt*1048576),z7]|_=>True
def qk(z2:Nat)(a:Nat):Prop:=cY prog f8 [1,1,0] 34 [] (Vv w N S nr bt) [y6 15] (Sx w nr bt) (V7 9 [5,6,7]) 3 (Jn N S nr bt) Jo w z8 (AE w N S) z2 (AF w nr bt) a
end
theorem RT(N S nr bt:Int)(I:3<=N∧N<=6∧1<=S∧S<=8)(Y:0<=nr∧nr<2)(X:1<=bt∧bt<=524287)(w:World):aC 8 #[.agg #[i6 N,i6 S],i6 nr,i6 bt] w (λt k=>∃B C,t=.returned (pt B 0)∧w.z<=B∧w.z<=C∧A2 k B 98 (am.cells { (Lm N S C)with ak:=yt none 0 0})∧A2 k C 124 [i6 (200+nr),i6 (bt*1048576),z7]∧au z8 w k):=by
 refine cH (S:=z8) (n:=34) func8 (ab.none w _) ?_;refine z6 12 (dz 3 33556480) [1,2,3,6,7] [] [(w.z,0,2)] [.ops (Ac 12) [1,2,3,4,5,6,7,8,9,10,11,12,13,14,15,16,17,18],y6 13,.code [1,1]] (wo w N S) [] (w.z+1) ?_;refine DV (bO_ true) _ _ (some 8) [] tI rfl (λg e=>k9 N S I g) λm ac=>?_;refine Aq 24 (dz 18 0x40004000400040000) [1,2,3,6] ([fF,fF,fF]++rE 3 (dF ((nr:Int)<0))++rE 3 (dF ((nr:Int)>=2))++rE 3 (dF ((bt:Int)<1))++[dF ((bt:Int)>524287)]) [] [y6 14,y6 15] ⟨[(1,i6 nr),(2,i6 bt),(3,pt w.z 0),(6,.pointer none)],wo w N S,[],m⟩ ?_;have M:af (bt*1048576)=bt*1048576:=eH yq;have R:eh w z8 (AE w N S) (AF w nr bt):=by
  intro E a g k v d e c A
  match E,d,c with
  |0,d,c=>
   obtain rfl:=ap d;exact trivial
  |1,d,c=>
   obtain rfl:=ap d;refine⟨c.1,c.2.x2 A (λb=>?_)⟩;exact aN rfl (aw c.2) (ag e _ b)
  |2,d,c=>
   obtain rfl:=ap d;refine⟨c.1,c.2.x2 A (λb=>?_)⟩;exact aN rfl (aw c.2) (ag e _ b)
  |3,d,c=>
   obtain rfl:=ap d;refine⟨c.1,c.2.x2 A (λb=>?_)⟩;exact aN rfl (aw c.2) (ag e _ b)
  |E+4,d,c=>exact trivial
 have T:qk w N S nr bt m 5:=WO (s:=0) (f:=27) (args:=λa=>[i6 (200+nr),i6 (bt*1048576)]) (ob:=λa=>[]) (λ(a:Nat×Nat)(p:Nat)=>(p,a.2)) (λa=>pt a.1 0) (λa=>trivial) (λa g v d e c H=>by
  obtain rfl:=ap d;refine(FH (200+nr) (bt*1048576) g).mono λt k J=>?_;obtain⟨h,y,z,q,u⟩:=J;rw[M]at q;exact⟨h,y,rfl,⟨az e.x2.size z,q⟩,e.A3 (λ_ b=>b) u (λ_ b=>b.elim) (λD d b=>b.elim),u.size⟩)
 have U:qk w N S nr bt m 6:=Xa (s:=1) (x:=λa=>Instr.build 98 #[(0,.agg #[i6 N,i6 S]),(1,pt a.1 0)]) (λ(a:Nat×Nat)(_:Unit)=>a) (λa=>aE (wm N S a)) (λa g v d e c H=>by
  obtain rfl:=ap d;exact⟨(),g,(show(Instr.build 98 #[(0,.agg #[i6 N,i6 S]),(1,pt a.1 0)]).run prog g=.ok (aE (wm N S a)) g by kernel_rfl),rfl,c,e,bT _⟩)
 have V:qk w N S nr bt m 7:=Xa (s:=2) (x:=λa=>Instr.box 98 (aE (wm N S a))) (λ(a:Nat×Nat)(p:Nat)=>(a.1,p)) (λa=>pt a.2 0) (λa g v d e c H=>by
  obtain rfl:=ap d;obtain⟨k,y,z,q,u⟩:=IC (P:=prog) g 98 (aE (wm N S a));exact⟨g.z,k,y,rfl,⟨c.1,c.2.x2 q (λb=>b)⟩,e.Wc (q.mono (λ_ _ b=>b.elim)) z e.x2.size (λD d t=>absurd (e.zq D d).lt (by dsimp only at t;omega)),u⟩)
 have Q:∀p∈(f5 3 [1,3,8]++[rY 0 3 0 0 2 w.z,⟨2,3,HA,λ_=>[JL (200+nr)],λ_=>[]⟩,⟨4,3,HA,λ_=>[JL (bt*1048576)],λ_=>[]⟩]:List (fG (Nat×Nat))),qk w N S nr bt m p.i:=bp _ R (λa=>v7) v7 (λa W=>v7);have O:∀F,F<9->qk w N S nr bt m F:=f6 (l:=[5,6,7]) v7 Q ⟨T,U,V,trivial⟩;refine bD (Δ:=Nat×Nat) z8 (Jn N S nr bt) Jo (AE w N S) (AF w nr bt) [6] (λa=>[(6,pt a.2 0)]) (λa=>O7 w N S a) (0,0) (λ_ b=>b) v7 v7 v7 (λg e=>tI) v7 O (λa=>v7) (λa=>v7) (λa o ad K Z r=>?_);obtain⟨h,j⟩:=a;obtain⟨L,G⟩:=K;replace r:ab w z8 (AD j w N S h) [] o.z o:=r;change aF _ _ _ _ o (ao (AD j w N S h)) _ [y6 15] ⟨[(6,pt j 0)],AD j w N S h,[],o.z⟩;refine z6 3 [] [6] [] [] [y6 15] (AD j w N S h) [] o.z ?_;refine B1 [] [pt j 0] [] ?_;intro g e;exact⟨j,h,rfl,((r.own _ (aS (i:=1) rfl) rfl).resolve_left (λb=>b)),L,e.at_ 1 rfl,G.x2 e.x2 (λb=>aN rfl (aw G) (ag r _ b)),(ab.A0 r e).x2⟩
structure aL where
 HZ:Int
 zq:ByteArray
 (zL J8:Bool)
def aL.cells(p:aL):av:=[.int .i64 p.HZ,.string p.zq,bO_ p.zL,bO_ p.J8]
theorem i9(p:aL):p.cells.length=4:=rfl
def dA:List aL->Int->Int
 |[],a=>a
 |b::c,a=>bif b.zL then dA c (bif b.J8 then a else 1)else 0
variable {p:aL}{L:List aL}{i:Nat}{F:aL->aL}
theorem EE(h:L[i]?=some p)(s:Int):dA (L.drop i) s=bif p.zL then dA (L.drop (i+1)) (bif p.J8 then s else 1)else 0:=by
 have a:=(cF.1 h).1;have:L.drop i=p::L.drop (i+1):=by
  rw[List.drop_eq_getElem_cons a,(cF.1 h).2]
 rw[this];rfl
theorem Hx(h:L.length<=i)(s:Int):dA (L.drop i) s=s:=by
 rw[List.drop_of_length_le h];rfl
def og(c:Int)(p:aL):aL:=if p.HZ=c then{ p with zL:=true}else p
def od(c:Int)(p:aL):aL:=if p.HZ=c then{ p with J8:=true}else p
def pp(F:aL->aL)(i:Nat)(L:List aL):List aL:=(L.take i).map F++L.drop i
theorem yk(F:aL->aL)(L:List aL):pp F 0 L=L:=by simp[pp]
theorem EF(h:L.length<=i):pp F i L=L.map F:=by
 rw[pp,eX h,List.drop_of_length_le h,dD]
theorem np(h:L[i]?=some p):(pp F i L)[i]?=some p:=by
 have b:=(cF.1 h).1;have a:((L.take i).map F).length=i:=by simp;omega
 rw[pp,jY yq,a,Nat.sub_self,List.getElem?_drop,Nat.add_zero,h]
theorem wW(h:L[i]?=some p):(pp F i L).set i (F p)=pp F (i+1) L:=by
 have b:=(cF.1 h).1;have a:((L.take i).map F).length=i:=by simp;omega
 unfold pp;rw[List.set_append_right _ _ yq,a,Nat.sub_self,List.drop_eq_getElem_cons b,List.set_cons_zero,List.take_add_one,h];simp
theorem yl(h:L[i]?=some p)(a:F p=p):pp F (i+1) L=pp F i L:=by
 rw[<-wW h,a,xT (np h)]
def jN(st e s a:Int)(p:aL):ck:=⟨4,st,e,s,a,0,0,0,p.zq⟩
def so(st e s:Int)(_:aL):ck:=⟨5,st,e,s,0,0,0,0,⟨#[]⟩⟩
def kY(p:aL):av:=[.int .i64 p.HZ]
def ym(st e s a:Int)(p:aL):av:=(jN st e s a p).cells
def yn(st e s:Int)(p:aL):av:=(so st e s p).cells
theorem Hy(b:0<L.length)(h:∀a∈L,a.zL=false):dA L 2=0:=by
 cases L with
 |nil=>simp at b
 |cons p c=>simp[dA,h p z1]
theorem vB(f:0<L.length)(h:∀a∈L,a.zL=true∧a.J8=false):dA L 2=1:=by
 have e:∀(b:List aL),(∀a∈b,a.zL=true∧a.J8=false)->dA b 1=1:=by
  intro b
  induction b with
  |nil=>intro _;rfl
  |cons p b g=>
   intro h;have c:=h p z1;simp[dA,c.1,c.2,g (λa d=>h a (by simp[d]))]
 cases L with
 |nil=>simp at f
 |cons p b=>
  have c:=h p z1;simp[dA,c.1,c.2,e b (λa d=>h a (by simp[d]))]
theorem F2(h:∀a∈L,a.zL=true∧a.J8=true):dA L 2=2:=by
 induction L with
 |nil=>rfl
 |cons p e d=>
  have b:=h p z1;simp[dA,b.1,b.2,d (λa c=>h a (by simp[c]))]
def fJ(C:bB):Int:=C.foldl (λb a=>Xk b (1*((2^Int.toNat a:Nat):Int))) 0
theorem Mr(C:bB)(c:Int):fJ (C++[c])=Xk (fJ C) (1*((2^Int.toNat c:Nat):Int)):=by simp[fJ]
theorem QQ{c:Int}(h:0<=c∧c<6):1<=((2^Int.toNat c:Nat):Int)∧((2^Int.toNat c:Nat):Int)<=32:=by
 obtain⟨a,rfl⟩:∃a:Nat,c=(a:Int):=⟨c.toNat,yq⟩;have b:a<6:=by omega
 rw[cJ]
 match a,b with
 |0,_=>decide
 |1,_=>decide
 |2,_=>decide
 |3,_=>decide
 |4,_=>decide
 |5,_=>decide
theorem QR{a b:Int}(d:0<=a∧a<=63)(e:0<=b∧b<=63):0<=Xk a b∧Xk a b<=63:=by
 have c:=Nat.or_lt_two_pow (x:=a.toNat) (y:=b.toNat) (n:=6) yq yq;unfold Xk;omega
theorem S0:∀(a:bB),(∀b∈a,0<=b∧b<6)->0<=fJ a∧fJ a<=63:=by
 intro a;suffices f:∀(a:bB)(c:Int),0<=c∧c<=63->(∀b∈a,0<=b∧b<6)->0<=a.foldl (λc b=>Xk c (1*((2^Int.toNat b:Nat):Int))) c∧a.foldl (λc b=>Xk c (1*((2^Int.toNat b:Nat):Int))) c<=63 from f a 0 yq;intro a
 induction a with
 |nil=>intro c d _;exact d
 |cons b a i=>
  intro c d e;have j:=QQ (e b z1);exact i _ (QR d yq) (λg h=>e g (by simp[h]))
def dn(C:bB)(B:ct):List aL:=List.zipWith (λb a=>⟨b,a,false,false⟩) C B
theorem oV{C:bB}{B:ct}{n:Nat}(b:C.length=n)(a:B.length=n):(dn C B).length=n:=by simp[dn,b,a]
theorem sx{C:bB}{B:ct}{c:Int}{b:ByteArray}(d:C[i]?=some c)(a:B[i]?=some b):(dn C B).take (i+1)=(dn C B).take i++[⟨c,b,false,false⟩]:=by
 have:(dn C B)[i]?=some ⟨c,b,false,false⟩:=by
  rw[dn,List.getElem?_zipWith,d,a]
 rw[List.take_add_one,this];rfl
theorem jT{α:Type}{L:List α}{x:α}(h:L[i]?=some x):L.take (i+1)=L.take i++[x]:=by rw[List.take_add_one,h];rfl
theorem QE{P:Program}(w:World)(ts:Array TypeId)(t:TypeId)(x y z:Int):(Builtin.min_ ts t #[.int .i64 x,.int .i64 y,.int .i64 z]).run P w=.ok (.int .i64 (jC (jC x y) z)) w:=by
 simp[Builtin.min_,Builtin.min2,jC];rfl
theorem VH(h:i<6):TO (63/((2^Int.toNat (i:Int):Nat):Int)) 1=1:=by
 rw[cJ]
 match i,h with
 |0,_=>decide
 |1,_=>decide
 |2,_=>decide
 |3,_=>decide
 |4,_=>decide
 |5,_=>decide
def Cg(k:Nat):av:=[.int .i64 (k:Int)]
theorem nL(r:aZ):r.cells.length=10:=rfl
theorem rM{α:Type}{f:α->av}{w:World}{g z:Nat}{L:List α}(c:∀x,(f x).length=z)(e:∀(a:Nat)(b:Value),(ai f L)[a]?=some b->w.cell? ⟨g,0+a,none⟩=some b){x:α}(h:L[i]?=some x):∀(a:Nat)(b:Value),(f x)[a]?=some b->w.cell? ⟨g,0+i*z+a,none⟩=some b:=by
 intro a b d;have j:a<z:=by rw[<-c x];exact(cF.1 d).1
 rw[Nat.add_assoc];exact e _ _ ((ff c h j).trans d)
section
variable (s:bK)(c a:Int)(q:ck)(r d:aZ)(sy:dw)(n i:Nat)(w:World)(_:Unit)
def Ho:av:=([i6 c,i6 (n:Int),i6 a,bO_ false,i6 q.kind,i6 (i:Int),i6 q.BV,i6 q.seq,i6 q.mask,i6 q.node,i6 q.oe,i6 q.os,sT q.block,i6 0,i6 0,i6 0]++ka)
def QG:av:=rp 3 (i6 0)++[bO_ false]++rp 8 (i6 0)++[sT ⟨#[]⟩]++rp 3 (i6 0)++[bO_ false]++rp 3 (i6 0)++[sT ⟨#[]⟩,bO_ false]++rp 3 (i6 0)++[sT ⟨#[]⟩]
def UY:av:=[i6 (n:Int),i6 c,i6 a,bO_ true]++rp 8 (i6 0)++([sT ⟨#[]⟩,i6 0,i6 0,i6 0]++ka)
def Hp:av:=(r.cells)
def QI:av:=[i6 q.kind,i6 (i:Int),i6 q.BV,i6 q.seq,i6 q.mask,i6 q.node,i6 q.oe,i6 q.os,sT q.block]
def po:av:=(d.cells)
def rN:av:=([i6 sy.st,i6 sy.ep,i6 sy.ou]++sy.rc.cells)
def wT:av:=[i6 (n:Int),i6 c,i6 a,bO_ true]++rp 8 (i6 0)++([sT ⟨#[]⟩,i6 sy.st,i6 sy.ep,i6 sy.ou]++sy.rc.cells)
@[simp] def rO:ax:=[⟨s.sb,54,false,s.cells⟩,⟨w.z,65,true,Ho c a q n i⟩,⟨w.z+1,65,true,QG⟩,⟨w.z+2,65,true,UY c a n⟩]
@[simp] def QJ:ax:=[⟨s.sb,54,false,s.cells⟩,⟨w.z,65,true,Ho c a q n i⟩,⟨w.z+1,65,true,QG⟩,⟨w.z+2,65,true,wT c a sy n⟩]
theorem UZ:Out.prune [0,5,6,7,8,72] (fu prog 107 w z8 (aj (aa (al f18) (Ac 124))) (aj (aa (al f18) (Ac 124))).toList ⟨[(0,pt s.sb 0),(5,pt w.z 0),(6,pt (w.z+1) 0),(7,bO_ false),(8,pt (w.z+2) 0)],rO s c a q n i w,[],w.z+3⟩ [(false,.op y2),(false,.op (oA 1 1 1)),(false,.op y2),(false,.op y2),(false,.op y2),(false,.op (oA 1 1 1)),(false,.op y2),(false,.op y2),(false,.op y2),(false,.op y2),(false,.op (oA 0 0 1)),(false,.op y2),(false,.op ⟨false,3,[]⟩),(false,.op y2),(false,.op y2),(false,.op y2),(false,.op (oA 1 5 1)),(false,.op y2),(false,.op y2),(false,.op y2),(false,.op y2),(false,.op (oA 0 1 1)),(false,.op y2),(false,.op ⟨false,3,[]⟩),(false,.op y2),(false,.op y2),(false,.op y2),(false,.op (oA 1 5 1)),(false,.op y2),(false,.op ⟨false,3,[]⟩)])=some ⟨[(decide (((n:Int):Int)<0))=false,(decide (((n:Int):Int)<0))=false,(decide (((n:Int):Int)<0))=false,(decide (((n:Int):Int)<0))=false,(decide (((n:Int):Int)<0))=false,(decide (((n:Int):Int)<0))=false,(decide (((n:Int):Int)<0))=false,(decide (((n:Int):Int)<0))=false,(decide (((n:Int):Int)<0))=false,(decide (((n:Int):Int)>=(s.N:Int)))=false,(decide (((n:Int):Int)>=(s.N:Int)))=false,(decide (((n:Int):Int)>=(s.N:Int)))=false,(decide (((n:Int):Int)>=(s.N:Int)))=false,(decide (((n:Int):Int)>=(s.N:Int)))=false,(decide (((n:Int):Int)>=(s.N:Int)))=false,(decide (((n:Int):Int)>=(s.N:Int)))=false,(decide (((n:Int):Int)>=(s.N:Int)))=false,(decide (((n:Int):Int)>=(s.N:Int)))=false,(decide (((n:Int):Int)>=(s.N:Int)))=false,(decide (((i:Int):Int)>=(s.S:Int)))=false,(decide (((i:Int):Int)>=(s.S:Int)))=false,(decide (((i:Int):Int)>=(s.S:Int)))=false,(decide (((i:Int):Int)>=(s.S:Int)))=false,(decide (((i:Int):Int)>=(s.S:Int)))=false],aX [(w.z,1,1),(w.z,1,1),(s.sb,0,1),(w.z,5,1),(s.sb,1,1),(w.z,5,1)],⟨[(0,pt s.sb 0),(5,pt w.z 0),(6,pt (w.z+1) 0),(7,bO_ false),(8,pt (w.z+2) 0),(72,bO_ (decide (((i:Int):Int)<0)))],rO s c a q n i w,[],w.z+3⟩⟩:=v7
def SV:bu:=[(0,pt s.sb 0),(5,pt w.z 0),(6,pt (w.z+1) 0),(7,bO_ false),(8,pt (w.z+2) 0)]
def Kf(_:Unit):List (Option Value):=[some (pt s.sb 0),some (pt s.sb 0),some (pt s.sb 2),some (yt (ae s.gO) s.N s.cO),some (pt w.z 1),some (i6 (n:Int)),some (pt s.gO (0+n*1)),some (yt (ae ((s.row n).1)) s.S ((s.row n).2)),some (pt w.z 4),some (pt w.z 5),some (i6 (i:Int)),some (pt s.sb 0),some (pt s.sb 0),some (pt s.sb 2),some (yt (ae s.gO) s.N s.cO),some (pt w.z 1),some (i6 (n:Int)),some (pt s.gO (0+n*1)),some (yt (ae ((s.row n).1)) s.S ((s.row n).2)),some (pt w.z 4),some (pt w.z 5),some (i6 (i:Int)),some (pt ((s.row n).1) (0+i*10)),some (aE (Hp r)),some (pt w.z 4),some (aE (QI q i)),some (.tuple #[aE (po d),aE (rN sy)]),some (.tuple #[aE (po d),aE (rN sy)]),some (aE (po d)),some (aE (rN sy)),some (pt ((s.row n).1) (0+i*10)),some (.tuple #[]),some (pt (w.z+2) 13),some (.tuple #[])]
def Kg(_:Unit)(k:Nat):Bool:=(fL 34 [])[k]?.getD true
def Ch(_:Unit):List (ax):=[rO s c a q n i w,rO s c a q n i w,QJ s c a q sy n i w]
abbrev Ci(s:bK)(b:Nat)(d:aZ)(n:Nat)(i:Nat)(c:Nat)(_:Unit)(a:World):Prop:=match c with|0=>cy a b s|1=>cy a b (s.Wg n i d)|2=>cy a b (s.Wg n i d)|_=>True
def j8(b:Nat)(c:Int)(a:Int)(q:ck)(r:aZ)(d:aZ)(sy:dw)(n:Nat)(i:Nat)(w:World)(z2:Nat)(h:Nat):Prop:=cY prog f18 [1,1,1,1,1,0] 107 [] (bodyPost prog f18 (λg f=>g=.returned (.tuple #[aE (wT c a sy n),bO_ true])∧cy f b (s.Wg n i d)∧au (λe=>e=(s.row n).1) w f)) [y6 127] (SV s w) (V7 34 [31,33]) 2 (Kf s q r d sy n i w) Kg w (λe=>e=(s.row n).1) (Ch s c a q sy n i w) z2 (Ci s b d n i) h
end
theorem N4(s:bK)(b n i:Nat)(ya h g:Int)(q:ck)(r d:aZ)(sy:dw)(z:n<s.N)(X:i<s.S)(a9:s.N<=6)(o:s.HJ n i=r)(w:World)(y:cy w b s)(bd:b<=w.z)(ac:∀m,aC 40 #[.agg #[bO_ r.used,i6 r.Bf,i6 r.de,i6 r.ds,sT r.block,bO_ r.op,i6 r.ie,i6 r.is,i6 r.mask,sT r.A9],.agg #[i6 q.kind,i6 (i:Int),i6 q.BV,i6 q.seq,i6 q.mask,i6 q.node,i6 q.oe,i6 q.os,sT q.block]] m (bf (.tuple #[.agg #[bO_ d.used,i6 d.Bf,i6 d.de,i6 d.ds,sT d.block,bO_ d.op,i6 d.ie,i6 d.is,i6 d.mask,sT d.A9],.agg #[i6 sy.st,i6 sy.ep,i6 sy.ou,bO_ sy.rc.used,i6 sy.rc.Bf,i6 sy.rc.de,i6 sy.rc.ds,sT sy.rc.block,bO_ sy.rc.op,i6 sy.rc.ie,i6 sy.rc.is,i6 sy.rc.mask,sT sy.rc.A9]]) m)):aC 18 #[pt s.sb 0,i6 ya,.agg #[i6 h,i6 (n:Int),i6 g,bO_ false,i6 q.kind,i6 (i:Int),i6 q.BV,i6 q.seq,i6 q.mask,i6 q.node,i6 q.oe,i6 q.os,sT q.block,i6 0,i6 0,i6 0,bO_ false,i6 0,i6 0,i6 0,sT ⟨#[]⟩,bO_ false,i6 0,i6 0,i6 0,sT ⟨#[]⟩]] w (λG C=>G=.returned (.tuple #[.agg #[i6 (n:Int),i6 h,i6 g,bO_ true,i6 0,i6 0,i6 0,i6 0,i6 0,i6 0,i6 0,i6 0,sT ⟨#[]⟩,i6 sy.st,i6 sy.ep,i6 sy.ou,bO_ sy.rc.used,i6 sy.rc.Bf,i6 sy.rc.de,i6 sy.rc.ds,sT sy.rc.block,bO_ sy.rc.op,i6 sy.rc.ie,i6 sy.rc.is,i6 sy.rc.mask,sT sy.rc.A9],bO_ true])∧cy C b (s.Wg n i d)∧au (λj=>j=(s.row n).1) w C):=by
 refine cH (S:=z8) (n:=107) func18 (ab.start (bk:=[⟨s.sb,54,false,s.cells⟩]) (wn:=[]) (λb c=>by obtain rfl:=aG.1 c;exact y.KS) (λb c o=>by obtain rfl:=aG.1 c;cases o) z1 z1) ?_;have aR:=(y.Wz n z).own _ ⟨_,rfl,rfl⟩;have aV:fm w 61 (s.row n).1:=(y.Wz n z).ty _ ⟨_,rfl,rfl⟩;have an:=y.rws.own _ ⟨_,rfl,rfl⟩;have b1:(s.row n).1<w.z:=aR.2;have aq:(s.Wd n)[i]?=some r:=by rw[bK.Wd,ew,ek X];exact congrArg some o
 have bl:(s.Wd n).length=s.S:=by simp[bK.Wd]
 refine Aq 40 (dz 19 0x1011801a00380001021800100180010118000103180000) [0,5,6,7,8] [fF,oE (((n:Int)==100)=false) (cw.2 yq)] [(w.z,3,1),(w.z,1,1),(w.z,0,1),(w.z,2,1),(w.z+2,0,26),(w.z,1,1)] [y6 124,y6 125,y6 63] ⟨[(0,pt s.sb 0),(5,pt w.z 0),(6,pt (w.z+1) 0),(7,bO_ false),(8,pt (w.z+2) 0)],rO s h g q n i w,[],w.z+3⟩ ?_;refine dm _ _ v7 v7 v7 (UZ s h g q n i w) ⟨bZ yq,bZ yq,bZ yq,bZ yq,bZ yq,bZ yq,bZ yq,bZ yq,bZ yq,bZ yq,bZ yq,bZ yq,bZ yq,bZ yq,bZ yq,bZ yq,bZ yq,bZ yq,bZ yq,bZ yq,bZ yq,bZ yq,bZ yq,bZ yq,trivial⟩ λp Q=>?_;replace Q:w.z+3<=p:=Q;refine Aq 6 [y2] [0,5,6,7,8] [dF (((i:Int):Int)<0)] [] [y6 126,y6 127] ⟨[(0,pt s.sb 0),(5,pt w.z 0),(6,pt (w.z+1) 0),(7,bO_ false),(8,pt (w.z+2) 0)],rO s h g q n i w,[],p⟩ ?_;have ak:(s.row n).1≠s.sb:=λG=>absurd (bS aV (G▸aw y.KS)) (by decide);have R:eh w (λj=>j=(s.row n).1) (Ch s h g q sy n i w) (Ci s b d n i):=by
  intro u a m C bk c k e J
  match u,c,e with
  |0,c,e=>
   obtain rfl:=ap c;exact e.x2 J (λj ⟨F,c,o,D⟩=>by simp at c;rcases c with rfl|rfl|rfl|rfl<;>simp at o D<;>exact .inl yq)
  |1,c,e=>
   obtain rfl:=ap c;exact e.x2 J (λj ⟨F,c,o,D⟩=>by simp at c;rcases c with rfl|rfl|rfl|rfl<;>simp at o D<;>exact .inl yq)
  |2,c,e=>
   obtain rfl:=ap c;exact e.x2 J (λj ⟨F,c,o,D⟩=>by simp at c;rcases c with rfl|rfl|rfl|rfl<;>simp at o D<;>exact .inl yq)
  |u+3,c,e=>exact trivial
 have a3:j8 s b h g q r d sy n i w p 7:=fV (B:=0) (x:=λa=>Instr.loadAt 83 (pt s.gO (0+n*1))) (λa=>yt (ae ((s.row n).1)) s.S ((s.row n).2)) v7 (.inr ⟨31,by kernel_rfl,aS (i:=10) v7⟩) (λa=>v7) (λa=>v7) (λa=>v7) (λa=>v7) (λu a m bk I c k e=>by
   obtain rfl:u=0:=by omega
   exact gx v7 (dj (f:=s.Xg) (λ_=>rfl) e.rws (by rw[ek z]) 0 _ rfl))
 have a4:j8 s b h g q r d sy n i w p 18:=fV (B:=0) (x:=λa=>Instr.loadAt 83 (pt s.gO (0+n*1))) (λa=>yt (ae ((s.row n).1)) s.S ((s.row n).2)) v7 (.inr ⟨31,by kernel_rfl,aS (i:=21) v7⟩) (λa=>v7) (λa=>v7) (λa=>v7) (λa=>v7) (λu a m bk I c k e=>by
   obtain rfl:u=0:=by omega
   exact gx v7 (dj (f:=s.Xg) (λ_=>rfl) e.rws (by rw[ek z]) 0 _ rfl))
 have a5:j8 s b h g q r d sy n i w p 23:=fV (B:=0) (x:=λa=>Instr.loadAt 61 (pt ((s.row n).1) (0+i*10))) (λa=>aE (Hp r)) v7 (.inr ⟨31,by kernel_rfl,aS (i:=26) v7⟩) (λa=>v7) (λa=>v7) (λa=>v7) (λa=>v7) (λu a m bk I c k e=>by
   obtain rfl:u=0:=by omega
   exact uH (vs:=aZ.cells r) v7 v7 (dj nL (e.Wz n z) aq))
 have a6:j8 s b h g q r d sy n i w p 26:=eO (B:=2) (f:=40) (args:=λa=>[aE (Hp r),aE (QI q i)]) (ob:=λa=>[]) (λa=>.tuple #[aE (po d),aE (rN sy)]) v7 (.inl rfl) (λa=>v7) (λa=>v7) (λa=>v7) (λa=>trivial) (λu a m bk I c k e=>ac m) R;have a7:j8 s b h g q r d sy n i w p 31:=V8 (s:=0) (x:=λa=>Instr.storeAt 61 (pt ((s.row n).1) (0+i*10)) (aE (po d))) (λ(a:Unit)(_:Unit)=>a) (λa m bk c k e a0=>by
  obtain rfl:=ap c;obtain⟨C,H,K,V,W⟩:=fj (P:=prog) (t:=61) (v:=aE (po d)) (0+i*10) 10 (e.Wz n z) rfl yq v7 (aU rfl);rw[show(0+i*10)=i*10 by omega,show(aE (po d):Value).cells.toList=aZ.cells d from rfl,gF nL yq]at K;have L:au (λj=>j=(s.row n).1) m C:=V.mono (λj _ A=>gG j A);exact⟨(),C,H,rfl,e.Wg z L K,k.A3 (λ_ E=>E) L (λj A=>.inl A) (λF c A=>by simp at c;rcases c with rfl|rfl|rfl|rfl<;>simp only at A<;>first|exact ak A.symm|omega),bC W.symm⟩)
 have a8:j8 s b h g q r d sy n i w p 33:=V8 (s:=1) (x:=λa=>Instr.storeAt 63 (pt (w.z+2) 13) (aE (rN sy))) (λ(a:Unit)(_:Unit)=>a) (λa m bk c k e a0=>by
  obtain rfl:=ap c;obtain⟨C,H,Y,N,O⟩:=cG (P:=prog) (t:=63) (v:=aE (rN sy)) v7 (k.at_ 3 rfl) rfl (by show 13+13<=26;omega) (aU rfl) rfl;exact⟨(),C,H,rfl,e.x2 N (λj A=>.inl (by dsimp only at A;omega)),(k.PA 3 rfl rfl N Y).2,bC O.symm⟩)
 have a2:∀U∈(f5 2 [0,1,2,4,8,9,11,12,13,15,19,20,24,27,28,29,32]++[rY 3 2 0 2 1 s.sb,rY 5 2 1 1 1 w.z,⟨6,2,HA,λ_=>[oE ((0:Int)<=(n:Int)∧(n:Int)<((s.N:Nat):Int))],λ_=>[]⟩,rY 10 2 1 5 1 w.z,rY 14 2 0 2 1 s.sb,rY 16 2 1 1 1 w.z,⟨17,2,HA,λ_=>[oE ((0:Int)<=(n:Int)∧(n:Int)<((s.N:Nat):Int))],λ_=>[]⟩,rY 21 2 1 5 1 w.z,⟨22,2,HA,λ_=>[oE ((0:Int)<=(i:Int)∧(i:Int)<((s.S:Nat):Int))],λ_=>[]⟩,rY 25 2 1 4 9 w.z,⟨30,2,HA,λ_=>[oE ((0:Int)<=(i:Int)∧(i:Int)<((s.S:Nat):Int))],λ_=>[]⟩]:List (fG (Unit))),j8 s b h g q r d sy n i w p U.i:=bp _ R (λa=>v7) v7 (λa bb=>v7);have a1:∀M,M<34->j8 s b h g q r d sy n i w p M:=f6 (l:=[7,18,23,26,31,33]) v7 a2 ⟨a3,a4,a5,a6,a7,a8,trivial⟩;refine bD (Δ:=Unit) (λj=>j=(s.row n).1) (Kf s q r d sy n i w) Kg (Ch s h g q sy n i w) (Ci s b d n i) [6,7,8] (λa=>[(6,pt (w.z+1) 0),(7,.bool false),(8,pt (w.z+2) 0)]) (λa=>QJ s h g q sy n i w) () (λ_ E=>E.elim) v7 v7 v7 (λm k=>y.x2 k.x2.drew (λ_ E=>E.elim)) v7 a1 (λa=>v7) (λa=>v7) (λa T bt Z O ad=>?_);refine z6 9 (dz 3 0x1a00281a0038) [6,7] [] [(w.z+2,0,26),(w.z+1,0,26)] [y6 255] [⟨s.sb,54,false,s.cells⟩,⟨w.z,65,true,Ho h g q n i⟩,⟨w.z+1,65,true,wT h g sy n⟩,⟨w.z+2,65,true,wT h g sy n⟩] [] T.z ?_;refine B1 [[⟨false,2,0,26⟩]] [aE (wT h g sy n),.bool true] [(w.z+1,0,26)] ?_;intro m k;exact⟨rfl,Z.x2 k.x2 (λj ⟨F,c,o,D⟩=>by simp at c;rcases c with rfl|rfl|rfl|rfl<;>simp at o D<;>exact .inl yq),(ab.A0 ad k).x2⟩
def NU:av:=rp 16 (.int .u8 0)
def Fz(a:Nat->ByteArray)(F:Int)(d:Int)(q:Int)(n:Nat):av:=[bO_ true,i6 F,i6 d,i6 q,sT (a n),bO_ false,i6 0,i6 0,i6 0,sT ⟨#[]⟩]
def VY(s:bK)(i:Nat)(b:Nat->ByteArray)(w:World)  (m:Nat) (st:St) (c:World):Prop:=
 ∃(n:Nat)(A:aY)(a:Nat)(z:Nat),m+n=s.N∧n<=s.N∧ah c w.z 9 1 A n a (ba (((List.range s.N).map b).take n))∧st=⟨[(0,pt s.sb 0),(1,i6 (i:Int)),(4,bO_ false),(5,yt A n a),(6,i6 (n:Int))],[⟨s.sb,54,false,s.cells⟩],[],z⟩
theorem vg(s:bK)(b i:Nat)(a:Nat->ByteArray)(bs:1<=s.N∧s.N<=6)(aq:i<s.S)(ad:∀n,n<s.N->(a n).size=16)(aV:kw ((List.range s.N).map a)=d7)(w:World)(D:cy w b s)(a9:∀n,n<s.N->∃q r u,s.HJ n i=⟨true,q,r,u,a n,false,0,0,0,⟨#[]⟩⟩):aC 22 #[pt s.sb 0,i6 (i:Int)] w (λQ F=>Q=.returned (bO_ true)∧au z8 w F):=by
 refine cH (S:=z8) (n:=54) func22 (ab.start (bk:=[⟨s.sb,54,false,s.cells⟩]) (wn:=[]) (λb e=>by obtain rfl:=aG.1 e;exact D.KS) (λb e g=>by obtain rfl:=aG.1 e;cases g) z1 z1) ?_;refine Aq 17 (dz 3 0) [0,1,4,5,6] [] [] [y6 58,.zq 0,y6 15] ⟨[(0,pt s.sb 0),(1,i6 (i:Int)),(4,.bool false),(5,z7),(6,i6 0)],[⟨s.sb,54,false,s.cells⟩],[],w.z⟩ ?_;refine bm (w:=w) (S':=λ_=>False) (VY s i a w) s.N v7 (λbd c=>⟨⟨0,none,0,_,yq,yq,ah.nil _ _ _ _,rfl⟩,c⟩) ?_;rintro R _ d ⟨n,l,k,bb,b1,b0,C,rfl⟩ H I ak;have B:=D.x2 H.x2 (λ_ t=>t.elim);by_cases m:n<s.N
 rotate_left
 ·skip;have a5:n=s.N:=by omega
  rw[eX (by simp;omega)]at C;obtain⟨L,rfl,_,a3,_⟩:=ah.cell (j:=0) (v:=sT (a 0)) C (by simp[ba,ek (show 0<s.N by omega)]);refine z6 19 (dz 9 0x1000800000) [4,42] [dF (((n:Int):Int)<(s.N:Int))] [(s.sb,0,1)] [.ops (Ac 30) [1,2,3,4,5,6],y6 31] [⟨s.sb,54,false,s.cells⟩] [] d.z ?_;refine W3 (.tuple #[sT d7,i6 0]) 43 [yt (ae L) n k] (some 43) [] tI rfl (λo c=>by
    have y:=C.x2 c.x2 (λx _=>(λ⟨z,e,g,_⟩=>by obtain rfl:=aG.1 e;cases g));have t:=Rc ((List.range s.N).map a) (by simpa using ad) (by simp;omega) L k o (cD a3 c.x2.size) (λj v E=>by
     obtain⟨bg,Z,_,_,X⟩:=ah.cell y E;cases Z;rw[bG];exact X)
    rw[aV,ey,List.length_range,<-a5]at t;exact t) λp O=>?_
  replace O:d.z<=p:=O;refine Aq 16 (dz 10 0x1100000000) [4,48,49,50] [tT,tT] [] [.ops (Ac 62) [5,6,7,8],y6 63] ⟨[(4,bO_ false),(48,bO_ true),(49,sT d7),(50,yt (ae p) 16 16)],[⟨s.sb,54,false,s.cells⟩,⟨p,5,true,NU⟩],[],p+1⟩ ?_;refine FA (dst:=some 51) (x:=convert 34 9 (yt (ae p) 16 16)) (ob:=true=true) (sT d7) v7 (rfl) v7 rfl (λo c=>?_) ?_
  ·exact mA (P:=prog) o 34 9 5 _ _ _ _ _ (List.replicate 16 0) [] [] v7 v7 v7 (c.at_ 1 rfl) rfl rfl yP
  refine z6 7 (dz 3 49) [4] [tT,tT] [] [y6 63] [⟨s.sb,54,false,s.cells⟩,⟨p,5,true,NU⟩] [] (p+1) ?_;refine B1 [] [bO_ (ByteArray.toList d7==ByteArray.toList d7)] [] ?_;intro o c;exact⟨dk (iS _),(ab.A0 H c).x2⟩
 obtain⟨q,r,u,g⟩:=a9 n m;have a7:(s.Wd n)[i]?=some ⟨true,q,r,u,a n,false,0,0,0,⟨#[]⟩⟩:=by rw[bK.Wd,ew,ek aq];exact congrArg some g
 have a8:=(B.Wz n m).own _ ⟨_,rfl,rfl⟩;have a6:=B.rws.own _ ⟨_,rfl,rfl⟩;have aR:((List.range s.N).map a)[n]?=some (a n):=by rw[ew,ek m];rfl
 refine aD [⟨s.gO,0+n*1,[yt (ae ((s.row n).1)) s.S ((s.row n).2)]⟩,⟨(s.row n).1,0+i*10,Fz a q r u n⟩] (λ_ J A=>?_) ?_
 ·simp only[bj,cv,or_false]at A;rcases A with rfl|rfl
  ·exact⟨(λ⟨z,e,g,_⟩=>by obtain rfl:=aG.1 e;cases g),a6.2,dj (f:=s.Xg) (λ_=>rfl) B.rws (by rw[ek m])⟩
  ·exact⟨(λ⟨z,e,g,_⟩=>by obtain rfl:=aG.1 e;cases g),a8.2,dj nL (B.Wz n m) a7⟩
 refine Aq 51 [y2,y2,y2,y2,y2,oA 0 0 1,y2,FN,y2,y2,y2,oA 0 2 1,y2,HA,⟨false,0,[⟨true,0,0,1⟩]⟩,y2,HA,⟨false,0,[⟨true,1,0,10⟩]⟩,y2,oA 1 0 10,y2,oA 1 0 1,y2,y2,y2,oA 1 5 1,⟨false,3,[]⟩,y2,y2,y2,oA 1 4 1,y2] [0,1,4,5,6,36,39] [dT (((n:Int):Int)<(s.N:Int)),oE ((0:Int)<=(n:Int)∧(n:Int)<((s.N:Nat):Int)),oE ((0:Int)<=(i:Int)∧(i:Int)<((s.S:Nat):Int)),fF,fF,fF,fF] [(s.sb,0,1),(s.sb,2,1),(s.gO,0+n*1,1),((s.row n).1,0+i*10,10),(d.z,0,10),(d.z,0,1),(d.z,5,1),(d.z,4,1)] [.ops (Ac 3731) [4,5],.zq 1,y6 467,.inv I,.zq 0,y6 15] ⟨[(0,pt s.sb 0),(1,i6 (i:Int)),(4,bO_ false),(5,yt l n k),(6,i6 (n:Int)),(36,yt l n k),(39,yt (ae (d.z+1)) 1 1)],[⟨s.sb,54,false,s.cells⟩,⟨d.z,61,true,Fz a q r u n⟩,⟨d.z+1,9,true,[sT (a n)]⟩],[⟨s.gO,0+n*1,[yt (ae ((s.row n).1)) s.S ((s.row n).2)]⟩,⟨(s.row n).1,0+i*10,Fz a q r u n⟩],d.z+2⟩ ?_;refine dE (w:=w) (S':=z8) (Y:=aO) (dst:=some 40) (x:=Builtin.append_ #[32,32] 32 #[yt l n k,yt (ae (d.z+1)) 1 1]) (λh=>yt h.1 (n+1) h.2) [⟨s.sb,54,false,s.cells⟩] (λh V=>ah V w.z 9 1 h.1 (n+1) h.2 (ba (((List.range s.N).map a).take (n+1)))) (λh=>[(40,yt h.1 (n+1) h.2),(0,pt s.sb 0),(1,i6 (i:Int)),(4,bO_ false),(5,yt l n k),(6,i6 (n:Int)),(36,yt l n k),(39,yt (ae (d.z+1)) 1 1)]) v7 v7 (λ_=>rfl) (λo c=>?_) (λh U a2 a4=>?_)
 ·have G:=ab.A0 H c;have y:ah o w.z 9 1 l n k (ba (((List.range s.N).map a).take n)):=C.x2 c.x2 (λx _=>(λ⟨z,e,g,_⟩=>by obtain rfl:=aG.1 e;cases g));obtain⟨T,a1,F,m,M,ac,bl⟩:=ce (P:=prog) o w.z 32 32 9 (sT ⟨#[]⟩) 1 16 l n k (ba (((List.range s.N).map a).take n)) ⟨d.z+1,0,none⟩ 1 1 [sT (a n)] v7 v7 v7 (by decide) y rfl (λj x E=>by rw[bY,bG];exact(c.at_ 2 rfl).at_ E) (aU rfl) yq (by decide) G.x2.size;rw[show ba (((List.range s.N).map a).take n)++[sT (a n)]=ba (((List.range s.N).map a).take (n+1))by rw[List.take_add_one,aR];simp[ba]]at M;exact⟨(T,a1),F,m,M,(G.sub (Ex:=[⟨s.sb,54,false,s.cells⟩]) z1).A3 (λ_ t=>t) ac (λJ A=>.inr (y.own J A).1) (bI (G.sub (Ex:=[⟨s.sb,54,false,s.cells⟩]) z1) (bW y) rfl)⟩
 obtain⟨K,N⟩:=h;refine Aq 11 (dz 4 512) [0,1,4,5,6] [JL ((n:Int)+1)] [] [.inv I,.zq 0,y6 15] ⟨[(0,pt s.sb 0),(1,i6 (i:Int)),(4,bO_ false),(5,yt K (n+1) N),(6,i6 ((n:Int)+1))],[⟨s.sb,54,false,s.cells⟩],[],U.z⟩ ?_;rw[<-aW n];intro W a0 an c;exact ak (R-1) _ W a0 yq ⟨n+1,K,N,_,yq,yq,a2.x2 c.x2 (λx _=>(λ⟨z,e,g,_⟩=>by obtain rfl:=aG.1 e;cases g)),rfl⟩ an (ab.A0 a4 c)
structure bz where
 (fr to id:Int)
 an:Bool
 q:ck
 sy:dw
def bz.cells(l:bz):av:=[i6 l.fr,i6 l.to,i6 l.id,bO_ l.an,i6 l.q.kind,i6 l.q.Al,i6 l.q.BV,i6 l.q.seq,i6 l.q.mask,i6 l.q.node,i6 l.q.oe,i6 l.q.os,sT l.q.block,i6 l.sy.st,i6 l.sy.ep,i6 l.sy.ou,bO_ l.sy.rc.used,i6 l.sy.rc.Bf,i6 l.sy.rc.de,i6 l.sy.rc.ds,sT l.sy.rc.block,bO_ l.sy.rc.op,i6 l.sy.rc.ie,i6 l.sy.rc.is,i6 l.sy.rc.mask,sT l.sy.rc.A9]
def VJ:dw:=⟨0,0,0,⟨false,0,0,0,⟨#[]⟩,false,0,0,0,⟨#[]⟩⟩⟩
def eV(a:Int)(o:ar):bz:=⟨a,o.to,o.id,false,o.q,VJ⟩
theorem xq(a:Int)(l:List ar):aJ a l=ai bz.cells (l.map (eV a)):=by
 unfold aJ ai;rw[List.map_map];rfl
theorem rh(a b:List bz):ai bz.cells a++ai bz.cells b=ai bz.cells (a++b):=by simp[ai]
theorem lG(l:bz):l.cells.length=26:=rfl
theorem vm(l:List bz):∀b∈ai bz.cells l,b.oneCell'=true:=λb a=>by
 unfold ai at a
 obtain⟨e,d,a⟩:=List.mem_flatten.1 a
 obtain⟨c,_,rfl⟩:=aT.1 d
 exact(aU (l:=c.cells) rfl) b a
theorem yi{w:World}{v8 g n cp:Nat}{e:TypeId}{pre l post:List bz}(h:ah w v8 e 26 (ae g) n cp (ai bz.cells (pre++l++post))):∀(j:Nat)(v:Value),(ai bz.cells l)[j]?=some v->w.cell? ⟨g,pre.length*26+j,none⟩=some v:=by
 intro j v a;have b:ai bz.cells (pre++l++post)=ai bz.cells pre++ai bz.cells l++ai bz.cells post:=by simp[ai]
 have f:=iM lG pre;have k:=(cF.1 a).1;rw[b]at h;obtain⟨i,c,_,_,d⟩:=h.cell (j:=pre.length*26+j) (v:=v) (by rw[ip (by rw[bM];omega),jY yq,f,Nat.add_sub_cancel_left];exact a);cases c;exact d
theorem mK{l:List bz}{k:Nat}{x:bz}(h:l[k]?=some x):l=l.take k++[x]++l.drop (k+1)∧l.eraseIdx k=l.take k++l.drop (k+1):=by
 have a:=(cF.1 h).1;refine⟨?_,List.eraseIdx_eq_take_drop_succ ..⟩
 conv=>lhs;rw[<-List.take_append_drop k l,List.drop_eq_getElem_cons a]
 rw[(cF.1 h).2];simp
section
variable (e d c a b g n cp:Nat)(x:bz)
def QO:av:=[i6 (a:Int),i6 (b:Int),yt (ae d) a c,pt e 0,yt (ae g) n cp]
def Hu:av:=rp 3 (i6 0)++[bO_ false]++rp 8 (i6 0)++[sT ⟨#[]⟩]++rp 3 (i6 0)++[bO_ false]++rp 3 (i6 0)++[sT ⟨#[]⟩,bO_ false]++rp 3 (i6 0)++[sT ⟨#[]⟩]
def wV:av:=([i6 x.fr,i6 x.to,i6 x.id,bO_ x.an]++x.q.cells++[i6 x.sy.st,i6 x.sy.ep,i6 x.sy.ou]++x.sy.rc.cells)
@[simp] def Cq(f:Nat)(e:Nat)(d:Nat)(c:Nat)(a:Nat)(b:Nat)(g:Nat)(n:Nat)(cp:Nat)(x:bz)(w:World):ax:=[⟨f,54,true,QO e d c a b g n cp⟩,⟨w.z,65,true,Hu⟩,⟨w.z+1,65,true,wV x⟩]
end
theorem N3(a f j o m p g n cp k lo:Nat)(P:List bz)(x:bz)(a5:P.length=n)(a6:n<=100000)(R:P[k]?=some x)(w:World)(N:A2 w a 54 [i6 (f:Int),i6 (j:Int),yt (ae o) f m,pt p 0,yt (ae g) n cp])(y:ah w lo 65 26 (ae g) n cp (ai bz.cells P)):aC 17 #[pt a 0,i6 (k:Int)] w (λL t=>L=.returned (.agg #[i6 x.fr,i6 x.to,i6 x.id,bO_ x.an,i6 x.q.kind,i6 x.q.Al,i6 x.q.BV,i6 x.q.seq,i6 x.q.mask,i6 x.q.node,i6 x.q.oe,i6 x.q.os,sT x.q.block,i6 x.sy.st,i6 x.sy.ep,i6 x.sy.ou,bO_ x.sy.rc.used,i6 x.sy.rc.Bf,i6 x.sy.rc.de,i6 x.sy.rc.ds,sT x.sy.rc.block,bO_ x.sy.rc.op,i6 x.sy.rc.ie,i6 x.sy.rc.is,i6 x.sy.rc.mask,sT x.sy.rc.A9])∧∃v z,A2 t a 54 [i6 (f:Int),i6 (j:Int),yt (ae o) f m,pt p 0,yt v (n-1) z]∧ah t w.z 65 26 v (n-1) z (ai bz.cells (P.eraseIdx k))∧au (λc=>c=a) w t):=by
 refine cH (S:=(λc=>c=a)) (n:=35) func17 (ab.start (bk:=[⟨a,54,true,QO p o m f j g n cp⟩]) (wn:=[]) (λA e=>by obtain rfl:=aG.1 e;exact N) (λA e _=>by obtain rfl:=aG.1 e;rfl) z1 z1) ?_;have a8:=y.le;have a4:k<n:=by have:=(cF.1 R).1;omega
 have aR:=(y.own g ⟨_,rfl,rfl⟩).2;have V:g≠a:=λL=>absurd (bS (y.ty g ⟨_,rfl,rfl⟩) (L▸aw N)) (by decide);have a7:=N.lt;obtain⟨an,aq⟩:=mK R;refine aD [⟨g,0+k*26,x.cells⟩] (λ_ c d=>?_) ?_
 ·simp only[bj,cv,or_false]at d;subst d;exact⟨λB=>V B,aR,dj lG y R⟩
 refine Aq 32 [y2,y2,y2,y2,oA 0 4 1,y2,HA,⟨false,0,[⟨true,0,0,26⟩]⟩,y2,oA 2 0 26,y2,y2,y2,y2,y2,oA 0 4 1,y2,HA] [0,1,4,5,6,14,20] [oE ((0:Int)<=(k:Int)∧(k:Int)<((n:Nat):Int)),oE ((0:Int)<=(k:Int)∧(k:Int)<=((cp:Nat):Int))] [(a,4,1),(g,0+k*26,26),(w.z+1,0,26),(a,4,1)] [.ops (Ac 30) [7,8],y6 31] ⟨[(0,pt a 0),(1,i6 (k:Int)),(4,pt w.z 0),(5,pt (w.z+1) 0),(6,z7),(14,z7),(20,yt (ae g) k cp)],Cq a p o m f j g n cp x w,[⟨g,0+k*26,wV x⟩],w.z+2⟩ ?_;refine dE (w:=w) (S':=λc=>c=a) (Y:=aO) (dst:=some 21) (x:=Builtin.append_ #[50,50] 50 #[z7,yt (ae g) k cp]) (λb=>yt b.1 k b.2) (Cq a p o m f j g n cp x w) (λb E=>w.z+2<=E.z∧ah E (w.z+2) 65 26 b.1 k b.2 (ai bz.cells (P.take k))) (λb=>[(21,yt b.1 k b.2),(0,pt a 0),(1,i6 (k:Int)),(4,pt w.z 0),(5,pt (w.z+1) 0),(6,z7),(14,z7),(20,yt (ae g) k cp)]) v7 v7 (λ_=>rfl) (λi h=>?_) (λb ac U a0=>?_)
 ·have I:=h;have T:=y.x2 I.x2 (λc d Q=>V ((gG c d)▸Q));have H:w.z+2<=i.z:=by have a3:i.z=w.z+2:=h.size;omega
  have u:ah i (w.z+2) 65 26 none 0 0 (ai bz.cells ([]:List bz)):=ah.nil _ _ _ _;obtain⟨v,z,t,q,r,s,_⟩:=ce (P:=prog) i (w.z+2) 50 50 65 (aE (Hu)) 26 232 none 0 0 _ ⟨g,0,none⟩ k cp (ai bz.cells (P.take k)) v7 v7 v7 (by decide) u (by rw[iM lG];simp;try omega) (λC M K=>by
   have J:=yi (pre:=[]) (l:=P.take k) (post:=P.drop k) (by rw[<-(show P=[]++P.take k++P.drop k by simp)];exact T) C M K;rw[bY];simpa using J) (vm _) yq (by decide) H
  rw[rh,List.nil_append,bG]at r;rw[bG]at q;exact⟨(v,z),t,q,⟨az H s.size,r⟩,I.A3 (λ_ B=>B) s (λc d=>.inr (by have:=(u.own c d).1;omega)) (λA e d=>by have G:=(u.own _ d).1;simp at e;rcases e with rfl|rfl|rfl<;>simp at G<;>omega)⟩
 obtain⟨D,F⟩:=b;refine Aq 16 (dz 10 0x320010408000000) [4,5,22,23,30] [JL ((k:Int)+1),oE (((0:Int)<=((k:Int)+1)∧((k:Int)+1)<=((n:Nat):Int))∧True) (⟨yq,tI⟩)] [(a,4,1)] [.ops (Ac 62) [9,10,11,12],y6 63] ⟨[(4,pt w.z 0),(5,pt (w.z+1) 0),(22,pt a 0),(23,yt D k F),(30,yt (some ⟨g,bif Nat.beq cp (k+1)then 0 else 0+(k+1)*26,none⟩) (n-(k+1)) (cp-(k+1)))],Cq a p o m f j g n cp x w,[],ac.z⟩ ?_;refine dE (w:=w) (S':=λc=>c=a) (Y:=aO) (dst:=some 31) (x:=Builtin.append_ #[50,50] 50 #[yt D k F,yt (some ⟨g,bif Nat.beq cp (k+1)then 0 else 0+(k+1)*26,none⟩) (n-(k+1)) (cp-(k+1))]) (λb=>yt b.1 (n-1) b.2) (Cq a p o m f j g n cp x w) (λb E=>w.z+2<=E.z∧ah E (w.z+2) 65 26 b.1 (n-1) b.2 (ai bz.cells (P.eraseIdx k))) (λb=>[(31,yt b.1 (n-1) b.2),(4,pt w.z 0),(5,pt (w.z+1) 0),(22,pt a 0),(23,yt D k F),(30,yt (some ⟨g,bif Nat.beq cp (k+1)then 0 else 0+(k+1)*26,none⟩) (n-(k+1)) (cp-(k+1)))]) v7 v7 (λ_=>rfl) (λi h=>?_) (λb ad Z a1=>?_)
 ·have I:=ab.A0 a0 h;have T:=y.x2 I.x2 (λc d Q=>V ((gG c d)▸Q));have H:w.z+2<=i.z:=az U.1 h.x2.size;have u:ah i (w.z+2) 65 26 D k F (ai bz.cells (P.take k)):=U.2.x2 h.x2 (λc d ⟨A,e,ak,O⟩=>by have G:=(U.2.own c d).1;simp at e;rcases e with rfl|rfl|rfl<;>simp at O<;>omega);obtain⟨v,z,t,q,r,s,_⟩:=ce (P:=prog) i (w.z+2) 50 50 65 (aE (Hu)) 26 232 D k F _ ⟨g,bif Nat.beq cp (k+1)then 0 else 0+(k+1)*26,none⟩ (n-(k+1)) (cp-(k+1)) (ai bz.cells (P.drop (k+1))) v7 v7 v7 (by decide) u (by rw[iM lG];simp;try omega) (λC M K=>by
   have J:=yi (pre:=P.take k++[x]) (l:=P.drop (k+1)) (post:=[]) (by rw[<-(show P=P.take k++[x]++P.drop (k+1)++[]by rw[dD];exact an)];exact T) C M K;rw[bY];have aV:=(cF.1 K).1;rw[iM lG,List.length_drop]at aV;have a2:Nat.beq cp (k+1)=false:=by
    cases e:Nat.beq cp (k+1)with
    |false=>rfl
    |true=>have:=bH e;omega
   rw[bM,dZ,Nat.min_eq_left (show k<=P.length by omega)]at J;rw[a2];exact(show 0+(k+1)*26+C=(k+1)*26+C by omega)▸J) (vm _) yq (by decide) H
  rw[rh,<-aq,show k+(n-(k+1))=n-1 by omega]at r;rw[show k+(n-(k+1))=n-1 by omega]at q;exact⟨(v,z),t,q,⟨az H s.size,r⟩,I.A3 (λ_ B=>B) s (λc d=>.inr (by have:=(u.own c d).1;omega)) (λA e d=>by have G:=(u.own _ d).1;simp at e;rcases e with rfl|rfl|rfl<;>simp at G<;>omega)⟩
 obtain⟨W,X⟩:=b;refine z6 12 (dz 5 0x1a00181a002801040800) [4] [] [(a,4,1),(w.z+1,0,26),(w.z,0,26)] [y6 127] [⟨a,54,true,[i6 (f:Int),i6 (j:Int),.slice (ae o) f m,pt p 0,.slice W (n-1) X]⟩,⟨w.z,65,true,wV x⟩,⟨w.z+1,65,true,wV x⟩] [] ad.z ?_;refine B1 [[⟨false,1,0,26⟩]] [aE (wV x)] [(w.z,0,26)] ?_;intro i h;have q:=(Z.2.x2 h.x2 (λc d ⟨A,e,ak,O⟩=>by have G:=(Z.2.own c d).1;simp at e;rcases e with rfl|rfl|rfl<;>simp at O<;>omega)).below (base':=w.z) yq;have r:=(ab.A0 a1 h).x2;have s:=h.at_ 0 rfl;exact⟨rfl,W,X,s,q,r⟩
def EN(x:bz):av:=[i6 x.fr,i6 x.to,i6 x.id,bO_ true,i6 x.q.kind,i6 x.q.Al,i6 x.q.BV,i6 x.q.seq,i6 x.q.mask,i6 x.q.node,i6 x.q.oe,i6 x.q.os,sT x.q.block,i6 x.sy.st,i6 x.sy.ep,i6 x.sy.ou,bO_ x.sy.rc.used,i6 x.sy.rc.Bf,i6 x.sy.rc.de,i6 x.sy.rc.ds,sT x.sy.rc.block,bO_ x.sy.rc.op,i6 x.sy.rc.ie,i6 x.sy.rc.is,i6 x.sy.rc.mask,sT x.sy.rc.A9]
theorem Kw(b:Nat)(ya:Int)(x:bz)(w:World):aC 18 #[pt b 0,i6 ya,.agg #[i6 x.fr,i6 x.to,i6 x.id,bO_ true,i6 x.q.kind,i6 x.q.Al,i6 x.q.BV,i6 x.q.seq,i6 x.q.mask,i6 x.q.node,i6 x.q.oe,i6 x.q.os,sT x.q.block,i6 x.sy.st,i6 x.sy.ep,i6 x.sy.ou,bO_ x.sy.rc.used,i6 x.sy.rc.Bf,i6 x.sy.rc.de,i6 x.sy.rc.ds,sT x.sy.rc.block,bO_ x.sy.rc.op,i6 x.sy.rc.ie,i6 x.sy.rc.is,i6 x.sy.rc.mask,sT x.sy.rc.A9]] w (bf (.tuple #[.agg #[i6 x.fr,i6 x.to,i6 x.id,bO_ true,i6 x.q.kind,i6 x.q.Al,i6 x.q.BV,i6 x.q.seq,i6 x.q.mask,i6 x.q.node,i6 x.q.oe,i6 x.q.os,sT x.q.block,i6 x.sy.st,i6 x.sy.ep,i6 x.sy.ou,bO_ x.sy.rc.used,i6 x.sy.rc.Bf,i6 x.sy.rc.de,i6 x.sy.rc.ds,sT x.sy.rc.block,bO_ x.sy.rc.op,i6 x.sy.rc.ie,i6 x.sy.rc.is,i6 x.sy.rc.mask,sT x.sy.rc.A9],bO_ true]) w):=by
 refine cH (S:=z8) (n:=107) Tryz.func18 (ab.none w _) ?_;refine z6 22 (dz 9 0x1a00181a000810103080000) [0,1,5,6,7] [tT] [(w.z,3,1),(w.z,0,26),(w.z+1,0,26)] [y6 53,.code [1,1]] [⟨w.z,65,true,EN x⟩,⟨w.z+1,65,true,EN x⟩] [] (w.z+2) ?_;refine B1 [[⟨false,1,0,26⟩]] [aE (EN x),bO_ true] [(w.z+1,0,26)] ?_;intro c a;exact⟨rfl,a.x2⟩
theorem My(a:Nat)(ya:Int)(x:bz)(h:x.an=true)(w:World):aC 18 #[pt a 0,i6 ya,.agg x.cells.toArray] w (bf (.tuple #[.agg x.cells.toArray,bO_ true]) w):=by
 have c:=Kw a ya x w;have b:x.cells=[i6 x.fr,i6 x.to,i6 x.id,bO_ true,i6 x.q.kind,i6 x.q.Al,i6 x.q.BV,i6 x.q.seq,i6 x.q.mask,i6 x.q.node,i6 x.q.oe,i6 x.q.os,sT x.q.block,i6 x.sy.st,i6 x.sy.ep,i6 x.sy.ou,bO_ x.sy.rc.used,i6 x.sy.rc.Bf,i6 x.sy.rc.de,i6 x.sy.rc.ds,sT x.sy.rc.block,bO_ x.sy.rc.op,i6 x.sy.rc.ie,i6 x.sy.rc.is,i6 x.sy.rc.mask,sT x.sy.rc.A9]:=by unfold bz.cells;rw[h]
 rw[b];exact c
theorem La(s:bK)(b i:Nat)(a c d O:Int)(j:i<s.S)(k:s.NN i=⟨a,c,d,O⟩)(w:World)(e:cy w b s):aC 21 #[pt s.kb 0,i6 (i:Int)] w (bf (.tuple #[.agg #[i6 a,i6 c,i6 d,i6 O],bO_ true]) w):=by
 refine cH (S:=z8) (n:=25) Tryz.func21 (ab.start (bk:=[⟨s.kb,119,false,s.W5⟩]) (wn:=[]) (λb f=>by obtain rfl:=aG.1 f;exact e.Xf) (λb f m=>by obtain rfl:=aG.1 f;cases m) z1 z1) ?_;have o:s.T1[i]?=some ⟨a,c,d,O⟩:=by rw[bK.T1,ew,ek j];exact congrArg some k
 refine aD [⟨s.gL,0+i*4,[i6 a,i6 c,i6 d,i6 O]⟩] (λ_ p g=>?_) ?_
 ·simp only[bj,cv,or_false]at g;subst g;exact⟨λh=>h,(e.NN.own _ ⟨_,rfl,rfl⟩).2,dj pS e.NN o⟩
 refine z6 37 [y2,y2,y2,y2,y2,y2,y2,y2,y2,oA 0 0 1,y2,y2,⟨false,3,[]⟩,y2,y2,y2,y2,oA 0 0 1,y2,HA,⟨false,0,[⟨true,0,0,4⟩]⟩,oA 1 0 4,y2] [4,5] (rE 8 (dF (((i:Int):Int)<0))++[dF (((i:Int):Int)>=((s.S:Nat):Int)),oE ((0:Int)<=(i:Int)∧(i:Int)<((s.S:Nat):Int))]) [(s.kb,0,1),(s.kb,0,1),(s.gL,0+i*4,4),(w.z,0,4)] [y6 15] [⟨s.kb,119,false,s.W5⟩,⟨w.z,73,true,[i6 a,i6 c,i6 d,i6 O]⟩] [⟨s.gL,0+i*4,[i6 a,i6 c,i6 d,i6 O]⟩] (w.z+1) ?_;refine B1 [[⟨false,1,0,4⟩]] [.agg #[i6 a,i6 c,i6 d,i6 O],bO_ true] [(w.z,0,4)] ?_;intro q l;exact⟨rfl,l.x2⟩
def Dn:aZ:=⟨false,0,0,0,⟨#[]⟩,false,0,0,0,⟨#[]⟩⟩
def bK.SS(s:bK)(n j:Nat):bK:={s with HJ:=λb a=>if b=n∧a<j then Dn else s.HJ b a}
theorem Lb(s:bK)(n:Nat):s.SS n 0=s:=by simp[bK.SS]
theorem Lc(s:bK)(n j:Nat):(s.SS n j).Wg n j Dn=s.SS n (j+1):=by
 unfold bK.SS bK.Wg;congr 1;funext e b;by_cases a:e=n
 ·by_cases c:b=j
  ·simp[a,c]
  ·by_cases d:b<j
   ·simp[a,c,d,show b<j+1 by omega]
   ·simp[a,c,d,show ¬b<j+1 by omega]
 ·simp[a]
def y9(lo:Nat)(w:World)(y:Nat):Prop:=cI [61] w y∧lo<=y
theorem RI{lo:Nat}{w d:World}(i:au (y9 lo w) w d):∀a,y9 lo d a->y9 lo w a∨w.z<=a:=by
 intro a ⟨⟨e,h,k,f,c⟩,j⟩;by_cases g:a<w.z
 ·by_cases b:y9 lo w a
  ·exact .inl b
  ·rw[i.block a g b]at c;exact .inl ⟨⟨e,h,k,f,c⟩,j⟩
 ·exact .inr yq
def za:av:=[bO_ false]++rp 3 (i6 0)++[sT ⟨#[]⟩,bO_ false]++rp 3 (i6 0)++[sT ⟨#[]⟩]
def VU(s:bK)(b:Nat)(n:Nat)  (m:Nat) (st:St) (c:World):Prop:=
 ∃(a:Nat)(z:Nat),(m+a=s.S∧a<=s.S)∧cy c b (s.SS n a)∧st=⟨[(0,pt s.sb 0),(1,i6 (n:Int)),(4,i6 (a:Int))],[⟨s.sb,54,false,s.cells⟩],[],z⟩
theorem NI(s:bK)(b n lo:Nat)(l:n<s.N)(Y:s.S<=8)(T:xV lo s)(w:World)(z:cy w b s):aC 12 #[pt s.sb 0,i6 (n:Int)] w (λE h=>E=Jx∧cy h b (s.SS n s.S)∧au (y9 lo w) w h):=by
 refine cH (S:=z8) (n:=24) Tryz.func12 (ab.start (bk:=[⟨s.sb,54,false,s.cells⟩]) (wn:=[]) (λb m=>by obtain rfl:=aG.1 m;exact z.KS) (λb m M=>by obtain rfl:=aG.1 m;cases M) z1 z1) ?_;have O:cy w b (s.SS n 0):=(Lb s n).symm▸z;refine Aq 8 [y2] [0,1,4] [] [] [.code [1,0],.zq 0] ⟨[(0,pt s.sb 0),(1,i6 (n:Int)),(4,i6 0)],[⟨s.sb,54,false,s.cells⟩],[],w.z⟩ ?_;refine bm (w:=w) (S':=y9 lo w) (VU s b n) s.S v7 (λW d=>⟨⟨0,_,⟨yq,yq⟩,(cy.Bw _ _ _ [] O d.x2 (λ_ g=>g.elim) rfl),rfl⟩,(d.wide (S':=y9 lo w) (λ_ g=>g.elim))⟩) ?_;rintro F _ q ⟨a,V,Z,k,rfl⟩ j p Q;by_cases r:a<s.S
 rotate_left
 ·skip;refine Aq 16 (dz 8 0x1010800000) [] [dF (((a:Int):Int)<(s.S:Int))] [(s.sb,1,1)] [] ⟨[],[⟨s.sb,54,false,s.cells⟩],[],q.z⟩ ?_;refine bN [] (v7:_=some ([],aX [])) ?_;intro i d;obtain rfl:a=s.S:=by omega
  exact⟨rfl,cy.Bw _ _ _ _ k d.x2 (ag j) rfl,(ab.A0 j d).x2⟩
 have U:=k.rws.own _ ⟨_,rfl,rfl⟩;refine aD [⟨s.gO,0+n*1,[yt (ae ((s.row n).1)) s.S ((s.row n).2)]⟩] (λ_ c e=>?_) ?_
 ·simp only[bj,cv,or_false]at e;subst e;exact⟨λg=>aN rfl (k.rws.ty _ ⟨_,rfl,rfl⟩) (ag j _ g),U.2,dj (f:=s.Xg) (λ_=>rfl) k.rws (show(List.range s.N)[n]?=some n from ek l)⟩
 refine Aq 29 [y2,y2,y2,y2,y2,oA 0 1 1,y2,FN,y2,y2,y2,oA 0 2 1,y2,HA,⟨false,0,[⟨true,0,0,1⟩]⟩,y2,y2,HA] [0,1,4,22,23] [dT (((a:Int):Int)<(s.S:Int)),oE ((0:Int)<=(n:Int)∧(n:Int)<((s.N:Nat):Int)),oE ((0:Int)<=(a:Int)∧(a:Int)<((s.S:Nat):Int))] [(s.sb,1,1),(s.sb,2,1),(s.gO,0+n*1,1)] [.ops (Ac 100) [10],.zq 1,y6 51,.inv p,.zq 0] ⟨[(0,pt s.sb 0),(1,i6 (n:Int)),(4,i6 (a:Int)),(22,aE (za)),(23,pt ((s.row n).1) (0+a*10))],[⟨s.sb,54,false,s.cells⟩],[⟨s.gO,0+n*1,[yt (ae ((s.row n).1)) s.S ((s.row n).2)]⟩],q.z⟩ ?_;refine aD [] (λ_ _ g=>by cases g) ?_;refine iF (w:=w) (S':=y9 lo w) (x:=Instr.storeAt 61 (pt ((s.row n).1) (0+a*10)) (aE (za))) (λH=>cy H b (s.SS n (a+1))) v7 v7 (λi d=>?_) (λG R B=>?_)
 ·have C:=(ab.A0 j d);have A:cy i b (s.SS n a):=(cy.Bw _ _ _ _ k d.x2 (ag j) rfl);have o:=A.Wz n l;obtain⟨h,r,u,J,X⟩:=fj (P:=Tryz.prog) (t:=61) (v:=aE (za)) (0+a*10) 10 o rfl (by show _+10<=s.S*10;omega) v7 (aU rfl);rw[show(0+a*10)=a*10 by omega,show(aE (za):Value).cells.toList=aZ.cells Dn from rfl,gF nL (by simp[bK.Wd,bK.SS];omega)]at u;have y:au (λc=>c=(s.row n).1) i h:=J.mono (λc _ e=>gG c e);have K:cy h b (s.SS n (a+1)):=Lc s n a▸A.Wg l y u;have ac:∀c,c=(s.row n).1->cI fw i c:=λc e=>by subst e;exact⟨61,by decide,o.ty _ ⟨_,rfl,rfl⟩⟩
  have D:∀c,c=(s.row n).1->cI [61] i c:=λc e=>by subst e;exact⟨61,by decide,o.ty _ ⟨_,rfl,rfl⟩⟩
  exact⟨h,r,K,C.A3 (λ_ g=>g) y (λc e=>RI C.x2 c ⟨D c e,e▸T.2.2.2 n l⟩) (bI d D rfl)⟩
 refine Aq 10 (dz 3 32) [0,1,4] [JL ((a:Int)+1)] [] [.inv p,.zq 0] ⟨[(0,pt s.sb 0),(1,i6 (n:Int)),(4,i6 ((a:Int)+1))],[⟨s.sb,54,false,s.cells⟩],[],G.z⟩ ?_;rw[<-aW a];intro I N L d;exact Q (F-1) _ I N yq ⟨a+1,_,⟨yq,yq⟩,cy.Bw _ _ _ _ R d.x2 (ag B) rfl,rfl⟩ L (ab.A0 B d)
section
variable (sn c e s:Int)(L:List aL)(b cp d:Nat)(a:Bool)
def rP:av:=[i6 sn,i6 c,i6 e,i6 s,yt (ae b) L.length cp,bO_ a,bO_ false]
def Hz:aH:=[1,1,1,0,1,0,0,1,1,1]
@[simp] def rQ:ax:=[⟨d,178,false,rP sn c e s L b cp a⟩]
@[simp] def HC(z:Nat)(q:aL):ax:=[⟨d,178,false,rP sn c e s L b cp a⟩,⟨z,180,true,[i6 q.HZ,sT q.zq,bO_ q.zL,bO_ q.J8]⟩]
end
def U1(sn:Int)(mask:Int)(e:Int)(s:Int)(L:List aL)(a:Nat)(cp:Nat)(c:Nat)(b:Bool)  (m:Nat) (st:St):Prop:=
 ∃(i:Nat)(r:Int)(z:Nat),m+i=L.length∧dA L 2=dA (L.drop i) r∧st=⟨[(2,i6 0),(3,i6 r),(13,yt (ae a) L.length cp),(14,i6 ((L.length:Nat):Int)),(15,i6 (i:Int))],rQ sn mask e s L a cp c b,[],z⟩
variable (sn d e s:Int)(L:List aL)(b cp a:Nat)(f:Bool)
theorem k8(D:L.length<=8)(b cp a v8:Nat)(f:Bool)(w:World)(y:A2 w a 178 [i6 sn,i6 d,i6 e,i6 s,yt (ae b) L.length cp,bO_ f,bO_ false])(t:ah w v8 180 4 (ae b) L.length cp (ai aL.cells L)):aC 124 #[pt a 0] w (bf (i6 (dA L 2)) w):=by
 refine cH (S:=z8) (n:=27) func124 (ab.start (bk:=rQ sn d e s L b cp a f) (wn:=[]) (λC z=>by obtain rfl:=aG.1 z;exact y) z1 z1 z1) ?_;refine Aq 32 (dz 13 0x10408000000106080000) [2,3,13,14,15] [fF] [(a,6,1),(a,4,1)] [y6 122,.zq 0,y6 31] ⟨[(2,i6 0),(3,i6 2),(13,.slice (ae b) L.length cp),(14,i6 ((L.length:Nat):Int)),(15,i6 0)],rQ sn d e s L b cp a f,[],w.z⟩ ?_;refine ge (U1 sn d e s L b cp a f) L.length v7 ⟨0,2,_,yq,rfl,rfl⟩ ?_;rintro p _ ⟨c,j,g,E,l,rfl⟩ i r;by_cases x:c<L.length
 rotate_left
 ·skip;refine z6 15 (dz 4 0) [2] [dF (((c:Int):Int)<((L.length:Nat):Int))] [] [y6 63] (rQ sn d e s L b cp a f) [] g ?_;refine B1 [] [i6 j] [] ?_;intro A o;refine⟨?_,o.x2⟩;rw[l,Hx yq];rfl
 obtain⟨q,u⟩:∃q,L[c]?=some q:=⟨_,cx x⟩;rw[EE u]at l;refine aD [⟨b,0+c*4,[i6 q.HZ,sT q.zq,bO_ q.zL,bO_ q.J8]⟩] (λ_ B v=>?_) ?_
 ·simp only[bj,cv,or_false]at v;subst v;exact⟨λm=>m,(t.own b ⟨_,rfl,rfl⟩).2,dj i9 t u⟩
 refine Aq 26 [y2,FN,HA,⟨false,0,[⟨true,0,0,4⟩]⟩,y2,oA 1 0 4,y2,oA 1 2 1,y2] [2,3,5,13,14,15,21] [dT (((c:Int):Int)<((L.length:Nat):Int)),oE ((0:Int)<=(c:Int)∧(c:Int)<((L.length:Nat):Int))] [(b,0+c*4,4),(g,0,4),(g,2,1)] [y6 31333,y6 15667,.zq 1,.code Hz,.inv i,.zq 0,y6 31] ⟨[(2,i6 0),(3,i6 j),(5,pt g 0),(13,.slice (ae b) L.length cp),(14,i6 ((L.length:Nat):Int)),(15,i6 (c:Int)),(21,.bool (!q.zL))],HC sn d e s L b cp a f g q,[⟨b,0+c*4,[i6 q.HZ,sT q.zq,.bool q.zL,.bool q.J8]⟩],g+1⟩ ?_;rcases fZ q.zL with h|h
 rotate_left
 ·skip;refine z6 8 (dz 2 1) [2,3,5,13,14,15] [eD (nT h)] [] [y6 125333,y6 15667,.zq 1,.code Hz,.inv i,.zq 0,y6 31] (HC sn d e s L b cp a f g q) [⟨b,0+c*4,[i6 q.HZ,sT q.zq,bO_ q.zL,bO_ q.J8]⟩] (g+1) ?_;refine B1 [] [i6 0] [] ?_;intro A o;refine⟨?_,o.x2⟩;rw[l,h];rfl
 refine Aq 11 (dz 4 16979968) [2,3,13,14,15,24] [eD (nF h)] [(g,3,1)] [y6 31335,.zq 1,.code Hz,.inv i,.zq 0,y6 31] ⟨[(2,i6 0),(3,i6 j),(13,.slice (ae b) L.length cp),(14,i6 ((L.length:Nat):Int)),(15,i6 (c:Int)),(24,.bool (!q.J8))],HC sn d e s L b cp a f g q,[⟨b,0+c*4,[i6 q.HZ,sT q.zq,.bool q.zL,.bool q.J8]⟩],g+1⟩ ?_;rcases fZ q.J8 with k|k
 ·skip;refine di (f:=10) (hs:=[y2,HA,y2]) [2,3,13,14,15] [true,false] (v7:_=some (Res.mk [(!q.J8)=false,T0 .i64 ((c:Int)+1)] (aX []) [.inv i,.zq 0,y6 31] ⟨[(2,i6 0),(3,i6 j),(13,yt (ae b) L.length cp),(14,i6 ((L.length:Nat):Int)),(15,i6 ((c:Int)+1))],rQ sn d e s L b cp a f,[⟨b,0+c*4,[i6 q.HZ,sT q.zq,bO_ q.zL,bO_ q.J8]⟩],g+1⟩)) ⟨(by rw[k];rfl),i0 yq,trivial⟩ ?_;refine aD [] (λ_ _ m=>by cases m) ?_;exact r (p-1) _ yq ⟨c+1,j,_,yq,by rw[l,h,k];rfl,by rw[<-aW c]⟩
 ·skip;refine di (f:=12) (hs:=[FN,y2,HA,y2]) [2,3,13,14,15] [true,false] (v7:_=some (Res.mk [(!q.J8)=true,T0 .i64 ((c:Int)+1)] (aX []) [.inv i,.zq 0,y6 31] ⟨[(2,i6 0),(3,i6 1),(13,yt (ae b) L.length cp),(14,i6 ((L.length:Nat):Int)),(15,i6 ((c:Int)+1))],rQ sn d e s L b cp a f,[⟨b,0+c*4,[i6 q.HZ,sT q.zq,bO_ q.zL,bO_ q.J8]⟩],g+1⟩)) ⟨(by rw[k];rfl),i0 yq,trivial⟩ ?_;refine aD [] (λ_ _ m=>by cases m) ?_;exact r (p-1) _ yq ⟨c+1,1,_,yq,by rw[l,h,k];rfl,by rw[<-aW c]⟩
section
variable (sn d e s:Int)(L:List aL)(b cp a:Nat)(f:Bool)(q:aL)(w:World)(h j:Nat)
def lV:av:=(rP sn d e s L b cp f)
def ku:av:=rp 8 (i6 0)++[sT ⟨#[]⟩]
def ns:av:=[i6 5,i6 sn,i6 e,i6 s,i6 0,i6 0,i6 0,i6 0,sT ⟨#[]⟩]
def QS:av:=((ns sn e s).set 0 (i6 4))
def QT:av:=((QS sn e s).set 4 (i6 d))
def Cr:av:=((QT sn d e s).set 8 (sT q.zq))
def QU:cj:=(bA 17 32767)
def HD:cj:=(bA 17 65535)
def QV:cj:=(bA 17 131071)
@[simp] def Cs:ax:=[⟨a,178,false,lV sn d e s L b cp f⟩,⟨w.z,180,true,[i6 q.HZ,sT q.zq,bO_ q.zL,bO_ q.J8]⟩,⟨w.z+1,59,true,ku⟩]
@[simp] def QW:ax:=[⟨a,178,false,lV sn d e s L b cp f⟩,⟨w.z,180,true,[i6 q.HZ,sT q.zq,bO_ q.zL,bO_ q.J8]⟩,⟨w.z+1,59,true,ku⟩,⟨h,59,true,ku⟩]
@[simp] def rR:ax:=[⟨a,178,false,lV sn d e s L b cp f⟩,⟨w.z,180,true,[i6 q.HZ,sT q.zq,bO_ q.zL,bO_ q.J8]⟩,⟨w.z+1,59,true,ku⟩,⟨h,59,true,ns sn e s⟩]
@[simp] def HE:ax:=[⟨a,178,false,lV sn d e s L b cp f⟩,⟨w.z,180,true,[i6 q.HZ,sT q.zq,bO_ q.zL,bO_ q.J8]⟩,⟨w.z+1,59,true,ku⟩,⟨h,59,true,QS sn e s⟩]
@[simp] def HF:ax:=[⟨a,178,false,lV sn d e s L b cp f⟩,⟨w.z,180,true,[i6 q.HZ,sT q.zq,bO_ q.zL,bO_ q.J8]⟩,⟨w.z+1,59,true,ku⟩,⟨h,59,true,QT sn d e s⟩]
@[simp] def HG:ax:=[⟨a,178,false,lV sn d e s L b cp f⟩,⟨w.z,180,true,[i6 q.HZ,sT q.zq,bO_ q.zL,bO_ q.J8]⟩,⟨w.z+1,59,true,ku⟩,⟨h,59,true,Cr sn d e s q⟩]
theorem U3:Out.prune [0,2,4,6,22] (fp prog 35 w z8 ((aj (aa (al f125) [1,0])).toList.take 15) ⟨[(0,pt a 0),(2,i6 0),(4,pt w.z 0),(6,pt (w.z+1) 0)],Cs sn d e s L b cp a f q w,[],w.z+2⟩ [.op y2,.op y2,.op y2,.op (oA 0 0 1),.op y2,.op y2,.op y2,.op y2,.op (oA 0 2 1),.op y2,.op y2,.op y2,.op y2,.op (oA 0 3 1),.op y2])=some ⟨[],aX [(a,0,1),(a,2,1),(a,3,1)],⟨[(0,pt a 0),(2,i6 0),(4,pt w.z 0),(6,pt (w.z+1) 0),(22,aE (ns sn e s))],Cs sn d e s L b cp a f q w,[],w.z+2⟩⟩:=v7
theorem U4:iC [0,2,4,6,7] (fY prog 35 (aj (aa (al f125) [1,0])) 1 HD ⟨[(7,pt h 0),(0,pt a 0),(2,i6 0),(4,pt w.z 0),(6,pt (w.z+1) 0),(22,aE (ns sn e s))],QW sn d e s L b cp a f q w h,[],j⟩ [(16,false,oA 3 0 9)])=some (⟨[],aX [(h,0,9)],⟨[(0,pt a 0),(2,i6 0),(4,pt w.z 0),(6,pt (w.z+1) 0),(7,pt h 0)],rR sn d e s L b cp a f q w h,[],j⟩⟩,0,QV):=v7
theorem U5:iC [0,2,4,6,7] (fY prog 35 (aj (aa (al f125) [1,0])) 2 QU ⟨[(0,pt a 0),(2,i6 0),(4,pt w.z 0),(6,pt (w.z+1) 0),(22,aE (ns sn e s))],Cs sn d e s L b cp a f q w,[],j⟩ [(15,false,y2),(16,false,oA 3 0 9)])=some (⟨[],aX [(j,0,9)],⟨[(0,pt a 0),(2,i6 0),(4,pt w.z 0),(6,pt (w.z+1) 0),(7,pt j 0)],[⟨a,178,false,lV sn d e s L b cp f⟩,⟨w.z,180,true,[i6 q.HZ,sT q.zq,bO_ q.zL,bO_ q.J8]⟩,⟨w.z+1,59,true,ku⟩,⟨j,59,true,ns sn e s⟩],[],j+1⟩⟩,0,QV):=v7
def tY:bu:=[(0,pt a 0),(4,pt w.z 0),(6,pt (w.z+1) 0),(7,pt h 0)]
def qA:List (Option Value):=[some (pt a 0),some (pt a 0),some (pt a 1),some (i6 d),some (pt w.z 1),some (sT q.zq),some (pt h 0),some (.tuple #[]),some (pt h 4),some (.tuple #[]),some (pt h 8),some (.tuple #[])]
def Kl:List (ax):=[rR sn d e s L b cp a f q w h,HE sn d e s L b cp a f q w h,HF sn d e s L b cp a f q w h,HG sn d e s L b cp a f q w h]
def Km:List (bi):=[none,none,none,none,none,none,none,some 0,none,some 1,none,some 2]
theorem QX:∀c,opG prog (aj (aa (al f125) (Ac 58))) ⟨slG (aj (aa (al f125) (Ac 58))) (qA d a q w h) (J3 (aj (aa (al f125) (Ac 58))) (tY a w h) 7) (aM (aj (aa (al f125) (Ac 58))) 7),rR sn d e s L b cp a f q w h,[],c⟩ 7 (oA 3 0 1)=some ([],aX [(h,0,1)],undef,HE sn d e s L b cp a f q w h,c):=λc=>v7
theorem QY:∀c,opG prog (aj (aa (al f125) (Ac 58))) ⟨slG (aj (aa (al f125) (Ac 58))) (qA d a q w h) (J3 (aj (aa (al f125) (Ac 58))) (tY a w h) 9) (aM (aj (aa (al f125) (Ac 58))) 9),HE sn d e s L b cp a f q w h,[],c⟩ 9 (oA 3 4 1)=some ([],aX [(h,4,1)],undef,HF sn d e s L b cp a f q w h,c):=λc=>v7
theorem Ms:∀c,opG prog (aj (aa (al f125) (Ac 58))) ⟨slG (aj (aa (al f125) (Ac 58))) (qA d a q w h) (J3 (aj (aa (al f125) (Ac 58))) (tY a w h) 11) (aM (aj (aa (al f125) (Ac 58))) 11),HF sn d e s L b cp a f q w h,[],c⟩ 11 (oA 3 8 1)=some ([],aX [(h,8,1)],undef,HG sn d e s L b cp a f q w h,c):=λc=>v7
def tZ(c:Nat):Prop:=eQ (wpOp prog (aj (aa (al f125) (Ac 58))) (sem prog (al f125) (bodyPost prog f125 (bf (.agg (jN sn e s d q).cells.toArray) w)) [y6 15])) [] 35 (aj (aa (al f125) (Ac 58))) (J3 (aj (aa (al f125) (Ac 58))) (tY a w h) c) (Km) 3 (MG w z8 (Kl sn d e s L b cp a f q w h) [] j) (ao (rR sn d e s L b cp a f q w h)) (PvG (qA d a q w h) (λ_ _ _=>False)) c
end
theorem EG(q:aL)(w:World)(o:A2 w a 178 [i6 sn,i6 d,i6 e,i6 s,yt (ae b) L.length cp,bO_ f,bO_ false]):aC 125 #[pt a 0,.agg #[i6 q.HZ,sT q.zq,bO_ q.zL,bO_ q.J8],i6 0] w (bf (.agg (jN sn e s d q).cells.toArray) w):=by
 refine cH (S:=z8) (n:=35) func125 (ab.start (bk:=[⟨a,178,false,lV sn d e s L b cp f⟩]) (wn:=[]) (λE p=>by obtain rfl:=aG.1 p;exact o) z1 z1 z1) ?_;refine Aq 9 (dz 2 0) [0,2,4,6] [] [] [.code [1,0],.code [1,1]] ⟨[(0,pt a 0),(2,i6 0),(4,pt w.z 0),(6,pt (w.z+1) 0)],Cs sn d e s L b cp a f q w,[],w.z+2⟩ ?_;have g:∀(h j:Nat),w.z+2<=h->w.z+2<=j->aF [] prog (al f125) 35 w z8 (bodyPost prog f125 (bf (.agg (jN sn e s d q).cells.toArray) w)) [.code [1,1]] ⟨[(0,pt a 0),(2,i6 0),(4,pt w.z 0),(6,pt (w.z+1) 0),(7,pt h 0)],rR sn d e s L b cp a f q w h,[],j⟩:=by
  intro h j u c;refine Aq 10 (dz 3 256) [0,4,6,7] [tT] [] [y6 58,y6 15] ⟨[(0,pt a 0),(4,pt w.z 0),(6,pt (w.z+1) 0),(7,pt h 0)],rR sn d e s L b cp a f q w h,[],j⟩ ?_;have z:tZ sn d e s L b cp a f q w h j 7:=cu (s:=0) (v:=undef) v7 v7 v7 v7 v7 (QX sn d e s L b cp a f q w h) trivial;have A:tZ sn d e s L b cp a f q w h j 9:=cu (s:=1) (v:=undef) v7 v7 v7 v7 v7 (QY sn d e s L b cp a f q w h) trivial;have B:tZ sn d e s L b cp a f q w h j 11:=cu (s:=2) (v:=undef) v7 v7 v7 v7 v7 (Ms sn d e s L b cp a f q w h) trivial;have y:∀m∈(WU [0,1,2,4,6,8,10]++[rG 3 0 1 1 a,rG 5 1 1 1 w.z]:List jU),tZ sn d e s L b cp a f q w h j m.i:=dP v7 _ (λC=>v7);refine dO (vs:=qA d a q w h) (ms:=Kl sn d e s L b cp a f q w h) (Dt:=Km) (J:=3) (V9:=[(6,pt (w.z+1) 0),(7,pt h 0)]) (Ex:=HG sn d e s L b cp a f q w h) (λ_ _ _=>False) [6,7] v7 v7 v7 (λ_ _ _ _ x=>x.elim) (dW y [7,9,11] ⟨z,A,B,tI⟩ v7) v7 v7 v7 (λi k=>?_);replace k:j<=i:=k;refine z6 8 (dz 2 0x90028090038) [6] [] [(h,0,9),(w.z+1,0,9)] [y6 31] [⟨a,178,false,lV sn d e s L b cp f⟩,⟨w.z,180,true,[i6 q.HZ,sT q.zq,bO_ q.zL,bO_ q.J8]⟩,⟨w.z+1,59,true,Cr sn d e s q⟩,⟨h,59,true,Cr sn d e s q⟩] [] i ?_;refine B1 [[⟨false,2,0,9⟩]] [aE (Cr sn d e s q)] [(w.z+1,0,9)] ?_;intro D r;exact⟨rfl,r.x2⟩
 have l:∀(h j:Nat),w.z+2<=h->w.z+2<=j->aF [] prog (al f125) 35 w z8 (bodyPost prog f125 (bf (.agg (jN sn e s d q).cells.toArray) w)) (.any [1,0] 1 HD::[.code [1,1]]) ⟨[(7,pt h 0),(0,pt a 0),(2,i6 0),(4,pt w.z 0),(6,pt (w.z+1) 0),(22,aE (ns sn e s))],QW sn d e s L b cp a f q w h,[],j⟩:=by
  intro h j u c;refine dI cW _ _ (U4 sn d e s L b cp a f q w h j) trivial ?_;refine cd v7 ?_;exact g h _ yq yq
 refine ii (fl:=15) (t:=59) (d:=7) (cs:=ku) (Xq:=QU) (Xj:=HD) (f:=1) 15 _ _ v7 v7 v7 v7 (by decide) v7 v7 v7 (U3 sn d e s L b cp a f q w) trivial l ?_;intro j c;replace c:w.z+2<=j:=c;refine dI cW _ _ (U5 sn d e s L b cp a f q w j) trivial ?_;refine cd v7 ?_;exact g _ _ yq yq
section
variable (sn d e s:Int)(L:List aL)(b cp a:Nat)(f:Bool)(q:aL)(w:World)(h j:Nat)
def rS:av:=(rP sn d e s L b cp f)
def rT:av:=ku
def lW:av:=(ns sn e s)
def QZ:cj:=(bA 17 32767)
def HH:cj:=(bA 17 65535)
def Q1:cj:=(bA 17 131071)
@[simp] def Ct:ax:=[⟨a,178,false,rS sn d e s L b cp f⟩,⟨w.z,180,true,[i6 q.HZ,sT q.zq,bO_ q.zL,bO_ q.J8]⟩,⟨w.z+1,59,true,rT⟩]
@[simp] def Q2:ax:=[⟨a,178,false,rS sn d e s L b cp f⟩,⟨w.z,180,true,[i6 q.HZ,sT q.zq,bO_ q.zL,bO_ q.J8]⟩,⟨w.z+1,59,true,rT⟩,⟨h,59,true,rT⟩]
@[simp] def Q3:ax:=[⟨a,178,false,rS sn d e s L b cp f⟩,⟨w.z,180,true,[i6 q.HZ,sT q.zq,bO_ q.zL,bO_ q.J8]⟩,⟨w.z+1,59,true,rT⟩,⟨h,59,true,lW sn e s⟩]
theorem U6:Out.prune [0,2,4,6,22] (fp prog 35 w z8 ((aj (aa (al f125) [1,0])).toList.take 15) ⟨[(0,pt a 0),(2,i6 1),(4,pt w.z 0),(6,pt (w.z+1) 0)],Ct sn d e s L b cp a f q w,[],w.z+2⟩ [.op y2,.op y2,.op y2,.op (oA 0 0 1),.op y2,.op y2,.op y2,.op y2,.op (oA 0 2 1),.op y2,.op y2,.op y2,.op y2,.op (oA 0 3 1),.op y2])=some ⟨[],aX [(a,0,1),(a,2,1),(a,3,1)],⟨[(0,pt a 0),(2,i6 1),(4,pt w.z 0),(6,pt (w.z+1) 0),(22,aE (lW sn e s))],Ct sn d e s L b cp a f q w,[],w.z+2⟩⟩:=v7
theorem U7:iC [0,2,4,6,7] (fY prog 35 (aj (aa (al f125) [1,0])) 1 HH ⟨[(7,pt h 0),(0,pt a 0),(2,i6 1),(4,pt w.z 0),(6,pt (w.z+1) 0),(22,aE (lW sn e s))],Q2 sn d e s L b cp a f q w h,[],j⟩ [(16,false,oA 3 0 9)])=some (⟨[],aX [(h,0,9)],⟨[(0,pt a 0),(2,i6 1),(4,pt w.z 0),(6,pt (w.z+1) 0),(7,pt h 0)],Q3 sn d e s L b cp a f q w h,[],j⟩⟩,0,Q1):=v7
theorem U8:iC [0,2,4,6,7] (fY prog 35 (aj (aa (al f125) [1,0])) 2 QZ ⟨[(0,pt a 0),(2,i6 1),(4,pt w.z 0),(6,pt (w.z+1) 0),(22,aE (lW sn e s))],Ct sn d e s L b cp a f q w,[],j⟩ [(15,false,y2),(16,false,oA 3 0 9)])=some (⟨[],aX [(j,0,9)],⟨[(0,pt a 0),(2,i6 1),(4,pt w.z 0),(6,pt (w.z+1) 0),(7,pt j 0)],[⟨a,178,false,rS sn d e s L b cp f⟩,⟨w.z,180,true,[i6 q.HZ,sT q.zq,bO_ q.zL,bO_ q.J8]⟩,⟨w.z+1,59,true,rT⟩,⟨j,59,true,lW sn e s⟩],[],j+1⟩⟩,0,Q1):=v7
end
theorem EH(q:aL)(w:World)(k:A2 w a 178 [i6 sn,i6 d,i6 e,i6 s,yt (ae b) L.length cp,bO_ f,bO_ false]):aC 125 #[pt a 0,.agg #[i6 q.HZ,sT q.zq,bO_ q.zL,bO_ q.J8],i6 1] w (bf (.agg (so sn e s q).cells.toArray) w):=by
 refine cH (S:=z8) (n:=35) func125 (ab.start (bk:=[⟨a,178,false,rS sn d e s L b cp f⟩]) (wn:=[]) (λr l=>by obtain rfl:=aG.1 l;exact k) z1 z1 z1) ?_;refine Aq 9 (dz 2 0) [0,2,4,6] [] [] [.code [1,0],.code [1,1]] ⟨[(0,pt a 0),(2,i6 1),(4,pt w.z 0),(6,pt (w.z+1) 0)],Ct sn d e s L b cp a f q w,[],w.z+2⟩ ?_;have g:∀(h j:Nat),w.z+2<=h->w.z+2<=j->aF [] prog (al f125) 35 w z8 (bodyPost prog f125 (bf (.agg (so sn e s q).cells.toArray) w)) [.code [1,1]] ⟨[(0,pt a 0),(2,i6 1),(4,pt w.z 0),(6,pt (w.z+1) 0),(7,pt h 0)],Q3 sn d e s L b cp a f q w h,[],j⟩:=by
  intro h j o c;refine z6 16 (dz 5 0x90028090038000) [6] [fF] [(h,0,9),(w.z+1,0,9)] [y6 31] [⟨a,178,false,rS sn d e s L b cp f⟩,⟨w.z,180,true,[i6 q.HZ,sT q.zq,bO_ q.zL,bO_ q.J8]⟩,⟨w.z+1,59,true,lW sn e s⟩,⟨h,59,true,lW sn e s⟩] [] j ?_;refine B1 [[⟨false,2,0,9⟩]] [aE (lW sn e s)] [(w.z+1,0,9)] ?_;intro p m;exact⟨rfl,m.x2⟩
 have i:∀(h j:Nat),w.z+2<=h->w.z+2<=j->aF [] prog (al f125) 35 w z8 (bodyPost prog f125 (bf (.agg (so sn e s q).cells.toArray) w)) (.any [1,0] 1 HH::[.code [1,1]]) ⟨[(7,pt h 0),(0,pt a 0),(2,i6 1),(4,pt w.z 0),(6,pt (w.z+1) 0),(22,aE (lW sn e s))],Q2 sn d e s L b cp a f q w h,[],j⟩:=by
  intro h j o c;refine dI cW _ _ (U7 sn d e s L b cp a f q w h j) trivial ?_;refine cd v7 ?_;exact g h _ yq yq
 refine ii (fl:=15) (t:=59) (d:=7) (cs:=rT) (Xq:=QZ) (Xj:=HH) (f:=1) 15 _ _ v7 v7 v7 v7 (by decide) v7 v7 v7 (U6 sn d e s L b cp a f q w) trivial i ?_;intro j c;replace c:w.z+2<=j:=c;refine dI cW _ _ (U8 sn d e s L b cp a f q w j) trivial ?_;refine cd v7 ?_;exact g _ _ yq yq
def U9(sn:Int)(d:Int)(e:Int)(s:Int)(L:List aL)(b:Nat)(cp:Nat)(f:Bool):av:=(rP sn d e s L b cp f)
@[simp] def nt(sn:Int)(d:Int)(e:Int)(s:Int)(L:List aL)(b:Nat)(cp:Nat)(a:Nat)(f:Bool):ax:=[⟨a,178,false,U9 sn d e s L b cp f⟩]
def xv(sn:Int)(d:Int)(e:Int)(s:Int)(L:List aL)(b:Nat)(cp:Nat)(a:Nat)(v8:Nat)(f:Bool)(c:Int)  (m:Nat) (st:St) (g:World):Prop:=
 ∃(i:Nat)(z:Nat),m+i=L.length∧ah g v8 180 4 (ae b) L.length cp (ai aL.cells (pp (og c) i L))∧st=⟨[(0,pt a 0),(1,i6 c),(2,i6 4),(3,i6 1),(8,i6 (dA L 2)),(21,i6 ((L.length:Nat):Int)),(22,i6 (i:Int))],nt sn d e s L b cp a f,[],z⟩
theorem zF(Z:L.length<=8)(b cp a v8:Nat)(f:Bool)(c:Int)(w:World)(V:A2 w a 178 [i6 sn,i6 d,i6 e,i6 s,yt (ae b) L.length cp,bO_ f,bO_ false])(M:ah w v8 180 4 (ae b) L.length cp (ai aL.cells L)):aC 123 #[pt a 0,i6 c,i6 4,i6 1] w (λT u=>T=Jx∧ah u v8 180 4 (ae b) L.length cp (ai aL.cells (L.map (og c)))∧au (λi=>i=b) w u):=by
 refine cH (S:=z8) (n:=84) func123 (ab.start (bk:=nt sn d e s L b cp a f) (wn:=[]) (λo j=>by obtain rfl:=aG.1 j;exact V) z1 z1 z1) ?_;refine z6 16 (dz 6 274759680) [0,1,2,3,15] [fF] [(a,6,1)] [.ops [1,0] [1,2],.code [1,1]] (nt sn d e s L b cp a f) [] w.z ?_;refine DV (i6 (dA L 2)) 124 [pt a 0] (some 16) [] tI rfl (λG h=>k8 sn d e s L Z b cp a v8 f G (h.at_ 0 rfl) (M.x2 h.x2 (λ_ _ k=>k))) λY aV=>?_;refine Aq 15 (dz 7 4362600448) [0,1,2,3,8,21,22] [] [(a,4,1)] [y6 30,.zq 0] ⟨[(0,pt a 0),(1,i6 c),(2,i6 4),(3,i6 1),(8,i6 (dA L 2)),(21,i6 ((L.length:Nat):Int)),(22,i6 0)],nt sn d e s L b cp a f,[],Y⟩ ?_;refine bm (w:=w) (S':=(λi=>i=b)) (xv sn d e s L b cp a v8 f c) L.length v7 (λan h=>⟨⟨0,_,yq,by rw[yk];exact M.x2 h.x2 (λ_ _ k=>k),rfl⟩,h.wide (λ_ k=>k.elim)⟩) ?_;rintro I _ z ⟨g,ak,aR,p,rfl⟩ H y K;by_cases B:g<L.length
 rotate_left
 ·skip;refine Aq 10 (dz 2 0) [] [dF (((g:Int):Int)<((L.length:Nat):Int))] [] [] ⟨[],nt sn d e s L b cp a f,[],z.z⟩ ?_;refine bN [] (v7:_=some ([],aX [])) ?_;intro G h;have J:=p.x2 h.x2 (λi m ⟨o,j,l,_⟩=>by obtain rfl:=aG.1 j;cases l);rw[EF yq]at J;exact⟨rfl,J,(ab.A0 H h).x2⟩
 obtain⟨q,r⟩:∃q,L[g]?=some q:=⟨_,cx B⟩;refine aD [⟨b,0+g*4,[i6 q.HZ,sT q.zq,bO_ q.zL,bO_ q.J8]⟩] (λ_ i m=>?_) ?_
 ·simp only[bj,cv,or_false]at m;subst m;exact⟨λ⟨o,j,l,_⟩=>(by obtain rfl:=aG.1 j;cases l),(p.own b ⟨_,rfl,rfl⟩).2,dj i9 p (np r)⟩
 by_cases DV:q.HZ=c
 rotate_left
 ·skip;refine Aq 43 [y2,FN,y2,y2,y2,y2,y2,oA 0 4 1,y2,HA,y2,y2,y2,y2,⟨false,0,[⟨true,0,0,1⟩]⟩,y2,y2,FN,HA,y2] [0,1,2,3,8,21,22] [dT (((g:Int):Int)<((L.length:Nat):Int)),oE ((0:Int)<=(g:Int)∧(g:Int)<((L.length:Nat):Int)),oE ((q.HZ != c)=true) (bne_iff_ne.2 DV),JL ((g:Int)+1)] [(a,4,1),(b,0+g*4,1)] [.inv y,.zq 0] ⟨[(0,pt a 0),(1,i6 c),(2,i6 4),(3,i6 1),(8,i6 (dA L 2)),(21,i6 ((L.length:Nat):Int)),(22,i6 ((g:Int)+1))],nt sn d e s L b cp a f,[⟨b,0+g*4,[i6 q.HZ,sT q.zq,bO_ q.zL,bO_ q.J8]⟩],z.z⟩ ?_;refine aD [] (λ_ _ k=>by cases k) ?_;intro A E D h;exact K (I-1) _ A E yq ⟨g+1,_,yq,by rw[yl r (show og c q=q from ay DV)];exact p.x2 h.x2 (λi m ⟨o,j,l,_⟩=>by obtain rfl:=aG.1 j;cases l),by rw[<-aW g]⟩ D (ab.A0 H h)
 refine Aq 55 [y2,FN,y2,y2,y2,y2,y2,oA 0 4 1,y2,HA,y2,y2,y2,y2,⟨false,0,[⟨true,0,0,1⟩]⟩,y2,y2,y2,y2,y2,y2,FN,FN,WG,y2,FN,y2,y2,y2] [0,1,2,3,8,21,22,46] [dT (((g:Int):Int)<((L.length:Nat):Int)),oE ((0:Int)<=(g:Int)∧(g:Int)<((L.length:Nat):Int)),oE ((q.HZ != c)=false) (c8.2 DV),tT,tT,tT,tT] [(a,4,1),(b,0+g*4,1)] [.ops (Ac 62266) [3],.zq 2,.zq 1,y6 487,.inv y,.zq 0] ⟨[(0,pt a 0),(1,i6 c),(2,i6 4),(3,i6 1),(8,i6 (dA L 2)),(21,i6 ((L.length:Nat):Int)),(22,i6 (g:Int)),(46,pt b (0+g*4+2))],nt sn d e s L b cp a f,[⟨b,0+g*4,[i6 q.HZ,sT q.zq,bO_ q.zL,bO_ q.J8]⟩],z.z⟩ ?_;refine aD [] (λ_ _ k=>by cases k) ?_;refine iF (w:=w) (S':=(λi=>i=b)) (x:=Instr.storeAt 4 (pt b (0+g*4+2)) (bO_ true)) (λR=>ah R v8 180 4 (ae b) L.length cp (ai aL.cells (pp (og c) (g+1) L))) v7 v7 (λG h=>?_) (λQ ac ad=>?_)
 ·have O:=ab.A0 H h;have N:=p.x2 h.x2 (λi m ⟨o,j,l,_⟩=>by obtain rfl:=aG.1 j;cases l);obtain⟨u,B,C,U,_⟩:=fj (P:=prog) (t:=4) (v:=bO_ true) (0+g*4+2) 1 N rfl yq v7 (aU rfl);have X:=xU (f:=aL.cells) i9 (np (F:=og c) r) (show 2<4 by omega) (show q.cells.set 2 (bO_ true)=(og c q).cells by rw[og,aA DV];rfl);rw[show 0+g*4+2=g*4+2 by omega]at C;rw[show(bO_ true:Value).cells.toList=[bO_ true]from rfl,X,wW r]at C;exact⟨u,B,C,O.A3 (λ_ k=>k) U (λi ⟨aq,W,m⟩=>.inl (by cases W;exact m)) (bI O (bW N) rfl)⟩
 refine Aq 10 (dz 2 2) [0,1,2,3,8,21,22] [JL ((g:Int)+1)] [] [.inv y,.zq 0] ⟨[(0,pt a 0),(1,i6 c),(2,i6 4),(3,i6 1),(8,i6 (dA L 2)),(21,i6 ((L.length:Nat):Int)),(22,i6 ((g:Int)+1))],nt sn d e s L b cp a f,[],Q.z⟩ ?_;intro A E D h;exact K (I-1) _ A E yq ⟨g+1,_,yq,ac.x2 h.x2 (λi m ⟨o,j,l,_⟩=>by obtain rfl:=aG.1 j;cases l),by rw[<-aW g]⟩ D (ab.A0 ad h)
def U'(sn:Int)(d:Int)(e:Int)(s:Int)(L:List aL)(b:Nat)(cp:Nat)(f:Bool):av:=(rP sn d e s L b cp f)
@[simp] def nu(sn:Int)(d:Int)(e:Int)(s:Int)(L:List aL)(b:Nat)(cp:Nat)(a:Nat)(f:Bool):ax:=[⟨a,178,false,U' sn d e s L b cp f⟩]
def xw(sn:Int)(d:Int)(e:Int)(s:Int)(L:List aL)(b:Nat)(cp:Nat)(a:Nat)(v8:Nat)(f:Bool)(c:Int)  (m:Nat) (st:St) (g:World):Prop:=
 ∃(i:Nat)(z:Nat),m+i=L.length∧ah g v8 180 4 (ae b) L.length cp (ai aL.cells (pp (od c) i L))∧st=⟨[(0,pt a 0),(1,i6 c),(2,i6 5),(3,i6 1),(8,i6 (dA L 2)),(21,i6 ((L.length:Nat):Int)),(22,i6 (i:Int))],nu sn d e s L b cp a f,[],z⟩
theorem zG(Z:L.length<=8)(b cp a v8:Nat)(f:Bool)(c:Int)(ak:dA L 2≠0)(w:World)(V:A2 w a 178 [i6 sn,i6 d,i6 e,i6 s,yt (ae b) L.length cp,bO_ f,bO_ false])(M:ah w v8 180 4 (ae b) L.length cp (ai aL.cells L)):aC 123 #[pt a 0,i6 c,i6 5,i6 1] w (λT u=>T=Jx∧ah u v8 180 4 (ae b) L.length cp (ai aL.cells (L.map (od c)))∧au (λi=>i=b) w u):=by
 refine cH (S:=z8) (n:=84) func123 (ab.start (bk:=nu sn d e s L b cp a f) (wn:=[]) (λo j=>by obtain rfl:=aG.1 j;exact V) z1 z1 z1) ?_;refine z6 16 (dz 6 274759680) [0,1,2,3,15] [fF] [(a,6,1)] [.ops [1,0] [1,2],.code [1,1]] (nu sn d e s L b cp a f) [] w.z ?_;refine DV (i6 (dA L 2)) 124 [pt a 0] (some 16) [] tI rfl (λG h=>k8 sn d e s L Z b cp a v8 f G (h.at_ 0 rfl) (M.x2 h.x2 (λ_ _ k=>k))) λY a0=>?_;refine Aq 15 (dz 7 4362600448) [0,1,2,3,8,21,22] [] [(a,4,1)] [y6 30,.zq 0] ⟨[(0,pt a 0),(1,i6 c),(2,i6 5),(3,i6 1),(8,i6 (dA L 2)),(21,i6 ((L.length:Nat):Int)),(22,i6 0)],nu sn d e s L b cp a f,[],Y⟩ ?_;refine bm (w:=w) (S':=(λi=>i=b)) (xw sn d e s L b cp a v8 f c) L.length v7 (λaq h=>⟨⟨0,_,yq,by rw[yk];exact M.x2 h.x2 (λ_ _ k=>k),rfl⟩,h.wide (λ_ k=>k.elim)⟩) ?_;rintro I _ z ⟨g,an,aV,p,rfl⟩ H y K;by_cases B:g<L.length
 rotate_left
 ·skip;refine Aq 10 (dz 2 0) [] [dF (((g:Int):Int)<((L.length:Nat):Int))] [] [] ⟨[],nu sn d e s L b cp a f,[],z.z⟩ ?_;refine bN [] (v7:_=some ([],aX [])) ?_;intro G h;have J:=p.x2 h.x2 (λi m ⟨o,j,l,_⟩=>by obtain rfl:=aG.1 j;cases l);rw[EF yq]at J;exact⟨rfl,J,(ab.A0 H h).x2⟩
 obtain⟨q,r⟩:∃q,L[g]?=some q:=⟨_,cx B⟩;refine aD [⟨b,0+g*4,[i6 q.HZ,sT q.zq,bO_ q.zL,bO_ q.J8]⟩] (λ_ i m=>?_) ?_
 ·simp only[bj,cv,or_false]at m;subst m;exact⟨λ⟨o,j,l,_⟩=>(by obtain rfl:=aG.1 j;cases l),(p.own b ⟨_,rfl,rfl⟩).2,dj i9 p (np r)⟩
 by_cases DV:q.HZ=c
 rotate_left
 ·skip;refine Aq 43 [y2,FN,y2,y2,y2,y2,y2,oA 0 4 1,y2,HA,y2,y2,y2,y2,⟨false,0,[⟨true,0,0,1⟩]⟩,y2,y2,FN,HA,y2] [0,1,2,3,8,21,22] [dT (((g:Int):Int)<((L.length:Nat):Int)),oE ((0:Int)<=(g:Int)∧(g:Int)<((L.length:Nat):Int)),oE ((q.HZ != c)=true) (bne_iff_ne.2 DV),JL ((g:Int)+1)] [(a,4,1),(b,0+g*4,1)] [.inv y,.zq 0] ⟨[(0,pt a 0),(1,i6 c),(2,i6 5),(3,i6 1),(8,i6 (dA L 2)),(21,i6 ((L.length:Nat):Int)),(22,i6 ((g:Int)+1))],nu sn d e s L b cp a f,[⟨b,0+g*4,[i6 q.HZ,sT q.zq,bO_ q.zL,bO_ q.J8]⟩],z.z⟩ ?_;refine aD [] (λ_ _ k=>by cases k) ?_;intro A E D h;exact K (I-1) _ A E yq ⟨g+1,_,yq,by rw[yl r (show od c q=q from ay DV)];exact p.x2 h.x2 (λi m ⟨o,j,l,_⟩=>by obtain rfl:=aG.1 j;cases l),by rw[<-aW g]⟩ D (ab.A0 H h)
 refine Aq 84 [y2,FN,y2,y2,y2,y2,y2,oA 0 4 1,y2,HA,y2,y2,y2,y2,⟨false,0,[⟨true,0,0,1⟩]⟩,y2,y2,y2,y2,y2,y2,y2,y2,⟨false,3,[]⟩,y2,y2,y2,y2,y2,y2,y2,y2,y2,FN,FN,WG,y2,y2,y2,y2,y2,FN,FN,WG,y2,FN,y2,y2,y2] [0,1,2,3,8,21,22,82] [dT (((g:Int):Int)<((L.length:Nat):Int)),oE ((0:Int)<=(g:Int)∧(g:Int)<((L.length:Nat):Int)),oE ((q.HZ != c)=false) (c8.2 DV),fF,fF,fF,fF,fF,tT,tT,tT,fF,tT,tT,tT,oE (((dA L 2)!=0)=true) (bne_iff_ne.2 ak)] [(a,4,1),(b,0+g*4,1)] [.ops (Ac 3985150) [3],.zq 2,.zq 1,y6 487,.inv y,.zq 0] ⟨[(0,pt a 0),(1,i6 c),(2,i6 5),(3,i6 1),(8,i6 (dA L 2)),(21,i6 ((L.length:Nat):Int)),(22,i6 (g:Int)),(82,pt b (0+g*4+3))],nu sn d e s L b cp a f,[⟨b,0+g*4,[i6 q.HZ,sT q.zq,bO_ q.zL,bO_ q.J8]⟩],z.z⟩ ?_;refine aD [] (λ_ _ k=>by cases k) ?_;refine iF (w:=w) (S':=(λi=>i=b)) (x:=Instr.storeAt 4 (pt b (0+g*4+3)) (bO_ true)) (λR=>ah R v8 180 4 (ae b) L.length cp (ai aL.cells (pp (od c) (g+1) L))) v7 v7 (λG h=>?_) (λQ ac ad=>?_)
 ·have O:=ab.A0 H h;have N:=p.x2 h.x2 (λi m ⟨o,j,l,_⟩=>by obtain rfl:=aG.1 j;cases l);obtain⟨u,B,C,U,_⟩:=fj (P:=prog) (t:=4) (v:=bO_ true) (0+g*4+3) 1 N rfl yq v7 (aU rfl);have X:=xU (f:=aL.cells) i9 (np (F:=od c) r) (show 3<4 by omega) (show q.cells.set 3 (bO_ true)=(od c q).cells by rw[od,aA DV];rfl);rw[show 0+g*4+3=g*4+3 by omega]at C;rw[show(bO_ true:Value).cells.toList=[bO_ true]from rfl,X,wW r]at C;exact⟨u,B,C,O.A3 (λ_ k=>k) U (λi ⟨aR,W,m⟩=>.inl (by cases W;exact m)) (bI O (bW N) rfl)⟩
 refine Aq 10 (dz 2 2) [0,1,2,3,8,21,22] [JL ((g:Int)+1)] [] [.inv y,.zq 0] ⟨[(0,pt a 0),(1,i6 c),(2,i6 5),(3,i6 1),(8,i6 (dA L 2)),(21,i6 ((L.length:Nat):Int)),(22,i6 ((g:Int)+1))],nu sn d e s L b cp a f,[],Q.z⟩ ?_;intro A E D h;exact K (I-1) _ A E yq ⟨g+1,_,yq,ac.x2 h.x2 (λi m ⟨o,j,l,_⟩=>by obtain rfl:=aG.1 j;cases l),by rw[<-aW g]⟩ D (ab.A0 ad h)
@[simp] def Cu(e:Int)(s:Int)(w:World):ax:=[⟨w.z,57,true,[i6 e,i6 s]⟩]
def VK(e:Int)(s:Int)(n:Nat)(C:bB)(f:Nat)(d:Nat)(c:Nat)(b:Nat)(w:World)  (m:Nat) (st:St):Prop:=
 ∃(i:Nat)(r:Int)(z:Nat),m+i=n∧(∀a,C[i]?=some a->r<a)∧st=⟨[(3,yt (ae d) n b),(8,bO_ false),(9,i6 r),(46,yt (ae f) n c),(47,i6 (n:Int)),(48,i6 (i:Int))],Cu e s w,[],z⟩
theorem Mt(sn e s:Int)(n:Nat)(C:bB)(B:ct)(d c k j:Nat)(O:0<n∧n<=6)(N:C.length=n)(M:B.length=n)(I:∀f∈B,f.size=16)(q:∀b∈C,0<=b∧b<6)(D:∀(a:Nat)(b i:Int),C[a]?=some b->C[a+1]?=some i->b<i)(U:0<=sn∧sn<8)(he:1<=e∧e<=16777215)(hs:1<=s∧s<=16777215)(w:World)(H:d<w.z)(F:∀(h:Nat)(v:Value),(C.map (Value.int .i64))[h]?=some v->w.cell? ⟨d,0+h,none⟩=some v)(G:c<w.z)(E:∀(h:Nat)(v:Value),(ba B)[h]?=some v->w.cell? ⟨c,0+h,none⟩=some v):aC 111 #[i6 sn,.agg #[i6 e,i6 s],yt (ae d) n k,yt (ae c) n j] w (bf (bO_ true) w):=by
 refine cH (S:=z8) (n:=70) func111 (ab.none w _) ?_;refine Aq 72 (dz 43 0x4000000000040010108004001010800400100080000100080040000000) [3,8,9,46,47,48] (rE 3 (dF ((sn:Int)<0))++[dF ((sn:Int)>=8)]++rE 4 (dF ((e:Int)<1))++rE 4 (dF ((e:Int)>16777215))++rE 4 (dF ((s:Int)<1))++[dF ((s:Int)>16777215)]++rE 6 (oE (((n:Int)==0)=false) (cw.2 yq))++[oE (((n:Int)!=(n:Int))=false) (c8.2 rfl)]) [(w.z,0,1),(w.z,0,1),(w.z,1,1),(w.z,1,1)] [y6 506,.zq 0,y6 127] ⟨[(3,.slice (ae c) n j),(8,.bool false),(9,i6 (-1)),(46,.slice (ae d) n k),(47,i6 (n:Int)),(48,i6 0)],Cu e s w,[],w.z+1⟩ ?_;refine ge (VK e s n C d c k j w) n v7 ⟨0,-1,_,yq,λb g=>by have:=q b (aS g);omega,rfl⟩ ?_;rintro t _ ⟨a,u,m,R,A,rfl⟩ r x;by_cases L:a<n
 rotate_left
 ·skip;refine z6 14 (dz 3 0) [8] [dF (((a:Int):Int)<(n:Int))] [] [y6 255] (Cu e s w) [] m ?_;refine B1 [] [bO_ true] [] ?_;intro P z;exact⟨rfl,z.x2⟩
 obtain⟨b,l⟩:∃b,C[a]?=some b:=⟨_,cx yq⟩;obtain⟨f,o⟩:∃f,B[a]?=some f:=⟨_,cx yq⟩;have Q:=q b (aS l);have J:=I f (aS o);have T:=A b l;refine aD [⟨d,0+a*1,[i6 b]⟩,⟨c,0+a*1,[sT f]⟩] (λ_ K p=>?_) ?_
 ·simp only[bj,cv,or_false]at p;rcases p with rfl|rfl
  ·exact⟨λg=>g,H,va F l⟩
  ·exact⟨λg=>g,G,ju E o⟩
 refine Aq 50 [y2,FN,y2,HA,⟨false,0,[⟨true,0,0,1⟩]⟩,y2,y2,y2,y2,y2,y2,y2,y2,⟨false,3,[]⟩,y2,y2,y2,HA,⟨false,0,[⟨true,1,0,1⟩]⟩,y2,y2,⟨false,3,[]⟩,y2,y2,y2,HA,y2] [3,8,9,46,47,48] ([dT (((a:Int):Int)<(n:Int)),oE ((0:Int)<=(a:Int)∧(a:Int)<((n:Nat):Int))]++rE 3 (dF ((b:Int)<=u))++rE 3 (dF ((b:Int)>=6))++[oE ((0:Int)<=(a:Int)∧(a:Int)<((n:Nat):Int))]++rE 4 (dF ((b:Int)>=6))++[oE (((f.size:Int)!=16)=false) (c8.2 (by rw[J];rfl)),JL ((a:Int)+1)]) [(d,0+a*1,1),(c,0+a*1,1)] [.inv r,.zq 0,y6 127] ⟨[(3,yt (ae c) n j),(8,bO_ false),(9,i6 b),(46,yt (ae d) n k),(47,i6 (n:Int)),(48,i6 ((a:Int)+1))],Cu e s w,[⟨d,0+a*1,[i6 b]⟩,⟨c,0+a*1,[sT f]⟩],m⟩ ?_;refine aD [] (λ_ _ g=>by cases g) ?_;exact x (t-1) _ yq ⟨a+1,b,_,yq,λi y=>D a b i l y,by rw[<-aW a]⟩
section
variable (sn e s:Int)(n:Nat)(C:bB)(B:ct)(f d j h i:Nat)(c:Int)(b:ByteArray)(A:aY)(cp:Nat)(k:aY)(o:Nat)(J:Act->aI)(w l:World)(a:Nat)
def lX:av:=[i6 sn,i6 (fJ (C.take i)),i6 e,i6 s,yt A i cp,bO_ false,bO_ false]
def iA:av:=((lX sn e s C i A cp).set 1 (i6 (Xk (fJ (C.take i)) (1*((2^Int.toNat c:Nat):Int)))))
def Cv:av:=[i6 sn,i6 (fJ C),i6 e,i6 s,yt A n cp,bO_ false,bO_ false]
def Q4:av:=[i6 sn,i6 (Xk (fJ (C.take i)) (1*((2^Int.toNat c:Nat):Int))),i6 e,i6 s,yt k (i+1) o,bO_ false,bO_ false]
def kv:aH:=[1,1,1,0,1,0,0,1,1,0,0,1,0]
def lY:aH:=[1,1,1,0,1,0,0,1,1,0,0,1,1]
def rU:aH:=[1,1,1,0,1,0,0,1,1,1]
def HI:aH:=[3,8,9,10,11,12,23,24,25]
def HK:cj:=(bA 16 4095)
def Cw:cj:=(bA 16 8191)
def Q5:List (bi):=[none,none,none,none,none,none,none,none,none,none,none,none,none,none,none,none]
def VL(sn:Int)(e:Int)(s:Int)(n:Nat)(C:bB)(B:ct)(f:Nat)(d:Nat)(j:Nat)(h:Nat)(w:World)(a:Nat)  (m:Nat) (st:St) (b:World):Prop:=
 ∃(i:Nat)(A:aY)(cp:Nat)(z:Nat),m+i=n∧i<=n∧w.z<=a∧ah b w.z 180 4 A i cp (ai aL.cells ((dn C B).take i))∧st=⟨[(3,yt (ae d) n h),(8,.pointer none),(9,i6 0),(10,pt a 0),(23,yt (ae f) n j),(24,i6 (n:Int)),(25,i6 (i:Int))],[⟨a,178,true,lX sn e s C i A cp⟩],[],z⟩
def Cy:bu:=[(3,yt (ae d) n h),(8,.pointer none),(9,i6 0),(10,pt a 0),(11,i6 (i:Int)),(12,i6 c),(23,yt (ae f) n j),(24,i6 (n:Int)),(25,i6 (i:Int))]
def qB:List (Option Value):=[some (pt a 0),some (pt a 0),some (pt a 1),some (i6 (fJ (C.take i))),some (i6 c),some (i6 (1*((2^Int.toNat c:Nat):Int))),some (i6 (Xk (fJ (C.take i)) (1*((2^Int.toNat c:Nat):Int)))),some (pt a 0),some (pt a 1),some (.tuple #[])]
def t6:List (ax):=[[⟨a,178,true,lX sn e s C i A cp⟩],[⟨a,178,true,iA sn e s C i c A cp⟩]]
def Kn:List (bi):=[none,none,none,none,none,none,none,none,none,some 0]
theorem Q6:∀g,(List.range (0+1)).map (mG prog (aj (aa (al f88) kv)) (J3 (aj (aa (al f88) kv)) (Cy n f d j h i c a) 3) (qB C i c a) (t6 sn e s C i c A cp a) [⟨f,0+i*1,[i6 c]⟩,⟨d,0+i*1,[sT b]⟩] g 3 (oA 0 1 1))=(List.range (0+1)).map (qO (qB C i c a) (t6 sn e s C i c A cp a) g 3 [] [(a,1,1)]):=λg=>v7
theorem Q7:∀g,opG prog (aj (aa (al f88) kv)) ⟨slG (aj (aa (al f88) kv)) (qB C i c a) (J3 (aj (aa (al f88) kv)) (Cy n f d j h i c a) 9) (aM (aj (aa (al f88) kv)) 9),[⟨a,178,true,lX sn e s C i A cp⟩],[⟨f,0+i*1,[i6 c]⟩,⟨d,0+i*1,[sT b]⟩],g⟩ 9 (oA 0 1 1)=some ([],aX [(a,1,1)],undef,[⟨a,178,true,iA sn e s C i c A cp⟩],g):=λg=>v7
def Cz(k:Nat):Prop:=eQ (wpOp prog (aj (aa (al f88) kv)) (sem prog (al f88) (bodyPost prog f88 (λm g=>∃a A cp,m=.returned (.tuple #[pt a 0,i6 0])∧w.z<=a∧A2 g a 178 (Cv sn e s n C A cp)∧ah g w.z 180 4 A n cp (ai aL.cells (dn C B))∧au z8 w g)) [.code lY,.zq 1,.code rU,.inv J,.zq 0,y6 31])) [] 56 (aj (aa (al f88) kv)) (J3 (aj (aa (al f88) kv)) (Cy n f d j h i c a) k) (Kn) 1 (MG l (ao [⟨a,178,true,lX sn e s C i A cp⟩]) (t6 sn e s C i c A cp a) [⟨f,0+i*1,[i6 c]⟩,⟨d,0+i*1,[sT b]⟩] l.z) (ao [⟨a,178,true,lX sn e s C i A cp⟩]) (PvG (qB C i c a) (λ_ _ _=>False)) k
def S3:bu:=[(3,yt (ae d) n h),(8,.pointer none),(9,i6 0),(10,pt a 0),(11,i6 (i:Int)),(12,i6 c),(23,yt (ae f) n j),(24,i6 (n:Int)),(25,i6 (i:Int))]
def Ko:List (Option Value):=[some (pt a 0),some (pt a 0),some (pt a 0),some (pt a 4),some (yt A i cp),some (i6 c),some (yt (ae d) n h),some (i6 (i:Int)),some (pt d (0+i*1)),some (sT b),some (.agg #[i6 c,sT b,bO_ false,bO_ false]),none,none,none,none,none]
def Kq(m:Nat)(k:Nat):Prop:=eQ (wpOp prog (aj (aa (al f88) lY)) (sem prog (al f88) (bodyPost prog f88 (λo g=>∃a A cp,o=.returned (.tuple #[pt a 0,i6 0])∧w.z<=a∧A2 g a 178 (Cv sn e s n C A cp)∧ah g w.z 180 4 A n cp (ai aL.cells (dn C B))∧au z8 w g)) [.zq 1,.code rU,.inv J,.zq 0,y6 31])) [] 56 (aj (aa (al f88) lY)) (J3 (aj (aa (al f88) lY)) (S3 n f d j h i c a) k) Q5 0 (MG l (ao [⟨a,178,true,lX sn e s C i A cp⟩]) [[⟨a,178,true,iA sn e s C i c A cp⟩]] [⟨f,0+i*1,[i6 c]⟩,⟨d,0+i*1,[sT b]⟩] m) (ao [⟨a,178,true,iA sn e s C i c A cp⟩]) (PvG (Ko n d h i c b A cp a) (sf m [(11,180,1,[i6 c,sT b,bO_ false,bO_ false])])) k
theorem S4(g:Nat)(b:World)(a:Nat):iC [3,8,9,10,23,24,25] (fY prog 56 (aj (aa (al f88) lY)) 3 Cw ⟨[(51,yt k (i+1) o),(50,yt (ae g) 1 1),(3,yt (ae d) n h),(8,.pointer none),(9,i6 0),(10,pt a 0),(23,yt (ae f) n j),(24,i6 (n:Int)),(25,i6 (i:Int)),(39,pt a 0),(43,yt A i cp)],[⟨a,178,true,iA sn e s C i c A cp⟩],[],b.z⟩ [(13,false,y2),(14,false,y2),(15,false,oA 0 4 1)])=some (⟨[],aX [(a,4,1)],⟨[(3,yt (ae d) n h),(8,.pointer none),(9,i6 0),(10,pt a 0),(23,yt (ae f) n j),(24,i6 (n:Int)),(25,i6 (i:Int))],[⟨a,178,true,Q4 sn e s C i c k o⟩],[],b.z⟩⟩,0,bA 16 65535):=v7
end
theorem Sm(sn e s:Int)(n:Nat)(C:bB)(B:ct)(j g m k:Nat)(cb:0<n∧n<=6)(bk:C.length=n)(bg:B.length=n)(b4:∀b∈B,b.size=16)(a7:∀c∈C,0<=c∧c<6)(co:∀(i:Nat)(c a9:Int),C[i]?=some c->C[i+1]?=some a9->c<a9)(cA:0<=sn∧sn<8)(he:1<=e∧e<=16777215)(hs:1<=s∧s<=16777215)(w:World)(an:j<w.z)(b0:∀(q:Nat)(v:Value),(C.map (Value.int .i64))[q]?=some v->w.cell? ⟨j,0+q,none⟩=some v)(ak:g<w.z)(bt:∀(q:Nat)(v:Value),(ba B)[q]?=some v->w.cell? ⟨g,0+q,none⟩=some v):aC 88 #[i6 sn,.agg #[i6 e,i6 s],yt (ae j) n m,yt (ae g) n k] w (λQ r=>∃a d f,Q=.returned (.tuple #[pt a 0,i6 0])∧w.z<=a∧A2 r a 178 [i6 sn,i6 (fJ C),i6 e,i6 s,yt d n f,bO_ false,bO_ false]∧ah r w.z 180 4 d n f (ai aL.cells (dn C B))∧au z8 w r):=by
 refine cH (S:=z8) (n:=56) func88 (ab.none w _) ?_;refine z6 16 (dz 7 8590458880) [0,2,3,5,8,9,13,14,15,16] [] [(w.z,0,2)] [.ops (Ac 12) [4,5],y6 13,.code [1,1]] [⟨w.z,57,true,[i6 e,i6 s]⟩] [] (w.z+1) ?_;refine DV (.bool true) _ _ (some 17) [] tI rfl (λG p=>Mt sn e s n C B j g m k cb bk bg b4 a7 co cA he hs G (cD an p.x2.size) (λq v y=>dl p.x2 an (b0 q v y)) (cD ak p.x2.size) (λq v y=>dl p.x2 ak (bt q v y))) λac cK=>?_;refine Aq 23 (dz 10 536903680) [3,8,9,10,23,24,25] [fF] [(w.z,0,2)] [y6 122,.zq 0,y6 31] ⟨[(3,.slice (ae g) n k),(8,.pointer none),(9,i6 0),(10,pt ac 0),(23,.slice (ae j) n m),(24,i6 (n:Int)),(25,i6 0)],[⟨w.z,57,true,[i6 e,i6 s]⟩,⟨ac,178,true,[i6 sn,i6 0,i6 e,i6 s,z7,.bool false,.bool false]⟩],[],ac+1⟩ ?_;refine fM [3,8,9,10,23,24,25] [false,true] ?_;obtain⟨a,cB⟩:∃a,a=ac:=⟨_,rfl⟩;rw[<-cB];refine bm (w:=w) (S':=λ_=>False) (VL sn e s n C B j g m k w a) n v7 (λc2 p=>⟨⟨0,none,0,_,yq,yq,yq,ah.nil _ _ _ _,rfl⟩,p⟩) ?_;rintro b6 _ A ⟨i,d,f,c1,c5,c4,b2,bs,rfl⟩ F J b9;by_cases X:i<n
 rotate_left
 ·skip;refine z6 16 (dz 5 0) [8,9] [dF (((i:Int):Int)<(n:Int))] [] [y6 63] [⟨a,178,true,lX sn e s C i d f⟩] [] A.z ?_;refine B1 [] [pt a 0,i6 0] [] ?_;intro G p;have cs:i=n:=by omega
  subst cs;have cn:=Eq.mp (congrArg (λa4:Int=>A2 G a 178 [i6 sn,i6 a4,i6 e,i6 s,yt d i f,bO_ false,bO_ false]) (show fJ (C.take i)=fJ C by rw[eX yq])) (p.at_ 0 rfl);have U:=bs.kT p F;rw[eX (by rw[oV bk bg];omega)]at U;exact⟨a,d,f,rfl,b2,cn,U,(ab.A0 F p).x2⟩
 obtain⟨c,T⟩:∃c,C[i]?=some c:=⟨_,cx yq⟩;obtain⟨b,Z⟩:∃b,B[i]?=some b:=⟨_,cx yq⟩;have cq:=a7 c (aS T);have c7:=QQ cq;have cr:=S0 (C.take i) (λx cf=>a7 x (List.mem_of_mem_take cf));have da:a<A.z:=(F.at_ 0 rfl).lt;have cL:Xk (fJ (C.take i)) (1*((2^Int.toNat c:Nat):Int))=fJ (C.take (i+1)):=by rw[jT T,Mr]
 refine aD [⟨j,0+i*1,[i6 c]⟩,⟨g,0+i*1,[sT b]⟩] (λ_ V M=>?_) ?_
 ·simp only[bj,cv,or_false]at M;rcases M with rfl|rfl
  ·exact⟨λ⟨W,E,_,I⟩=>(by obtain rfl:=aG.1 E;simp only at I;omega),cD an F.x2.size,va (λq v y=>dl F.x2 an (b0 q v y)) T⟩
  ·exact⟨λ⟨W,E,_,I⟩=>(by obtain rfl:=aG.1 E;simp only at I;omega),cD ak F.x2.size,ju (λq v y=>dl F.x2 ak (bt q v y)) Z⟩
 refine Aq 21 [y2,FN,y2,HA,⟨false,0,[⟨true,0,0,1⟩]⟩,y2,y2] HI [dT (((i:Int):Int)<(n:Int)),oE ((0:Int)<=(i:Int)∧(i:Int)<((n:Nat):Int))] [(j,0+i*1,1)] [.code kv,.code lY,.zq 1,.code rU,.inv J,.zq 0,y6 31] ⟨[(3,yt (ae g) n k),(8,.pointer none),(9,i6 0),(10,pt a 0),(11,i6 (i:Int)),(12,i6 c),(23,yt (ae j) n m),(24,i6 (n:Int)),(25,i6 (i:Int))],[⟨a,178,true,lX sn e s C i d f⟩],[⟨j,0+i*1,[i6 c]⟩,⟨g,0+i*1,[sT b]⟩],A.z⟩ ?_;have cR:Cz sn e s n C B j g m k i c b d f J w A a 3:=K0 (v:=i6 (fJ (C.take i))) 9 0 v7 (show 3∈_ from aS (i:=5) v7) v7 v7 v7 (Q6 sn e s n C j g m k i c b d f a) trivial;have cU:Cz sn e s n C B j g m k i c b d f J w A a 9:=cu (s:=0) (v:=undef) v7 v7 v7 v7 v7 (Q7 sn e s n C j g m k i c b d f a) trivial;have cO:∀a1∈(WU [0,1,2,4,7,8]++[⟨5,HA,[oE (T0 .i64 (1*((2^Int.toNat c:Nat):Int))∧(0:Int)<=c∧c<=((IntKind.bits .i64:Nat):Int)) (⟨i0 yq,yq,by show _<=((64:Nat):Int);omega⟩)],[]⟩,⟨6,HA,[oE ((0:Int)<=(fJ (C.take i))∧(0:Int)<=(1*((2^Int.toNat c:Nat):Int))∧(fJ (C.take i))<=IntKind.max .i64∧(1*((2^Int.toNat c:Nat):Int))<=IntKind.max .i64) (xQ yq yq)],[]⟩]:List jU),Cz sn e s n C B j g m k i c b d f J w A a a1.i:=dP v7 _ (λbl=>v7);refine dO (vs:=qB C i c a) (ms:=t6 sn e s C i c d f a) (Dt:=Kn) (J:=1) (V9:=[(3,yt (ae g) n k),(8,.pointer none),(9,i6 0),(10,pt a 0),(11,i6 (i:Int)),(12,i6 c),(23,yt (ae j) n m),(24,i6 (n:Int)),(25,i6 (i:Int))]) (Ex:=[⟨a,178,true,iA sn e s C i c d f⟩]) (λ_ _ _=>False) HI v7 v7 v7 (λ_ _ _ _ h=>h.elim) (dW cO [3,9] ⟨cR,cU,tI⟩ v7) v7 v7 v7 (λN b3=>?_);replace b3:A.z<=N:=b3;refine Aq 3 [] HI [] [] [.code lY,.zq 1,.code rU,.inv J,.zq 0,y6 31] ⟨[(3,yt (ae g) n k),(8,.pointer none),(9,i6 0),(10,pt a 0),(11,i6 (i:Int)),(12,i6 c),(23,yt (ae j) n m),(24,i6 (n:Int)),(25,i6 (i:Int))],[⟨a,178,true,iA sn e s C i c d f⟩],[⟨j,0+i*1,[i6 c]⟩,⟨g,0+i*1,[sT b]⟩],N⟩ ?_;have c0:Kq sn e s n C B j g m k i c b d f J w A a N 11:=qP (h:=y2) (ob:=[]) (rs:=[]) (e:=180) (L:=1) (l:=[i6 c,sT b,bO_ false,bO_ false]) v7 v7 v7 v7 (λbl=>v7) trivial;have cP:∀a1∈(WU [0,1,2,3,5,6,7,10]++[rG 4 0 4 1 a,⟨8,HA,[oE ((0:Int)<=(i:Int)∧(i:Int)<((n:Nat):Int))],[]⟩,⟨9,⟨false,0,[⟨true,1,0,1⟩]⟩,[],[(g,0+i*1,1)]⟩]:List jU),Kq sn e s n C B j g m k i c b d f J w A a N a1.i:=dP v7 _ (λbl=>v7);refine Fq (vs:=Ko n g k i c b d f a) (Dt:=Q5) (YD:=[(3,yt (ae g) n k),(8,.pointer none),(9,i6 0),(10,pt a 0),(23,yt (ae j) n m),(24,i6 (n:Int)),(25,i6 (i:Int)),(43,yt d i f)]) (YE:=[(3,yt (ae g) n k),(8,.pointer none),(9,i6 0),(10,pt a 0),(23,yt (ae j) n m),(24,i6 (n:Int)),(25,i6 (i:Int)),(39,pt a 0),(43,yt d i f)]) (sf N [(11,180,1,[i6 c,sT b,bO_ false,bO_ false])]) [1,2,3,4,5,6,7,8,9,10,11] 0 [3,8,9,10,23,24,25,43] [3,8,9,10,23,24,25,39,43] 11 50 (bA 16 4094) HK 5 4 v7 v7 v7 (pN (by intro W E;obtain rfl:=aG.1 E;simp only;omega)) (Fp [0,1,2,3,4,5,6,7,8,9,10,11] cP [11] ⟨c0,tI⟩ v7) v7 v7 v7 v7 v7 v7 v7 v7 v7 v7 v7 (λc3 aV ⟨cm,a8,u,b1,cC,ad⟩ cK aq=>?_);injection (show some (180,1,[i6 c,sT b,bO_ false,bO_ false])=some cm from a8)with a8;subst a8;subst cC;replace ad:A2 aV u 180 [i6 c,sT b,bO_ false,bO_ false]:=ad;replace b1:N<=u:=b1;have U:=bs.y4 aq.x2 (ag F) rfl;have b5:=ab.A0 F aq;have bd:∀(z:aY)(D:Nat)(t:World),ah t w.z 180 4 z (i+1) D (ai aL.cells ((dn C B).take (i+1)))->ab w z8 [⟨a,178,true,iA sn e s C i c d f⟩] [] t.z t->aF [] prog (al f88) 56 t (ao [⟨a,178,true,iA sn e s C i c d f⟩]) (bodyPost prog f88 (λQ r=>∃a d f,Q=.returned (.tuple #[pt a 0,i6 0])∧w.z<=a∧A2 r a 178 (Cv sn e s n C d f)∧ah r w.z 180 4 d n f (ai aL.cells (dn C B))∧au z8 w r)) [.any lY 3 Cw,.zq 1,.code rU,.inv J,.zq 0,y6 31] ⟨[(51,yt z (i+1) D),(50,yt (ae u) 1 1),(3,yt (ae g) n k),(8,.pointer none),(9,i6 0),(10,pt a 0),(23,yt (ae j) n m),(24,i6 (n:Int)),(25,i6 (i:Int)),(39,pt a 0),(43,yt d i f)],[⟨a,178,true,iA sn e s C i c d f⟩],[],t.z⟩:=by
  intro z D t cp O;refine dI cW _ _ (S4 sn e s n C j g m k i c d f z D u t a) trivial ?_;refine cd v7 ?_;refine Aq 8 (dz 2 2) [3,8,9,10,23,24,25] [JL ((i:Int)+1)] [] [.inv J,.zq 0,y6 31] ⟨[(3,yt (ae g) n k),(8,.pointer none),(9,i6 0),(10,pt a 0),(23,yt (ae j) n m),(24,i6 (n:Int)),(25,i6 ((i:Int)+1))],[⟨a,178,true,Q4 sn e s C i c z D⟩],[],t.z⟩ ?_;rw[<-aW i];intro b7 cl ca p;exact b9 (b6-1) _ b7 cl yq ⟨i+1,z,D,_,yq,yq,b2,cp.kT p O,(congrArg (λa4:Int=>(⟨[(3,yt (ae g) n k),(8,.pointer none),(9,i6 0),(10,pt a 0),(23,yt (ae j) n m),(24,i6 (n:Int)),(25,i6 ((i+1:Nat):Int))],[⟨a,178,true,[i6 sn,i6 a4,i6 e,i6 s,yt z (i+1) D,bO_ false,bO_ false]⟩],[],_⟩:St)) cL)⟩ ca (ab.A0 O p)
 have bb:aF [] prog (al f88) 56 aV (ao [⟨a,178,true,iA sn e s C i c d f⟩]) (bodyPost prog f88 (λQ r=>∃a d f,Q=.returned (.tuple #[pt a 0,i6 0])∧w.z<=a∧A2 r a 178 (Cv sn e s n C d f)∧ah r w.z 180 4 d n f (ai aL.cells (dn C B))∧au z8 w r)) [.any lY 4 HK,.zq 1,.code rU,.inv J,.zq 0,y6 31] ⟨[(50,yt (ae u) 1 1),(3,yt (ae g) n k),(8,.pointer none),(9,i6 0),(10,pt a 0),(23,yt (ae j) n m),(24,i6 (n:Int)),(25,i6 (i:Int)),(39,pt a 0),(43,yt d i f)],[⟨a,178,true,iA sn e s C i c d f⟩],[],aV.z⟩:=by
  refine uo (i:=12) (ls':=Cw) (w:=w) (S':=λ_=>False) (Y:=aO) (dst:=some 51) (x:=Builtin.append_ #[176,176] 176 #[yt d i f,yt (ae u) 1 1]) (λo=>yt o.1 (i+1) o.2) [⟨a,178,true,iA sn e s C i c d f⟩] (λo a0=>ah a0 w.z 180 4 o.1 (i+1) o.2 (ai aL.cells ((dn C B).take (i+1)))) (λo=>[(51,yt o.1 (i+1) o.2),(50,yt (ae u) 1 1),(3,yt (ae g) n k),(8,.pointer none),(9,i6 0),(10,pt a 0),(23,yt (ae j) n m),(24,i6 (n:Int)),(25,i6 (i:Int)),(39,pt a 0),(43,yt d i f)]) v7 v7 v7 v7 (λ_=>rfl) (λG p=>?_) (λo t a3 O=>bd o.1 o.2 t a3 O);have H:=U.kT p aq;have K:=ab.A0 b5 p;have a6:=ad.x2 p.x2 (λ⟨W,E,_,I⟩=>by obtain rfl:=aG.1 E;simp only at I;omega);obtain⟨aR,a5,r,X,R,a2,b8⟩:=ce (P:=prog) G w.z 176 176 180 (.agg #[i6 0,sT ⟨#[]⟩,bO_ false,bO_ false]) 4 32 d i f (ai aL.cells ((dn C B).take i)) ⟨u,0,none⟩ 1 1 [i6 c,sT b,bO_ false,bO_ false] v7 v7 v7 (by decide) H rfl (λq x y=>by rw[bY,bG];exact a6.at_ y) (aU rfl) yq (by decide) K.x2.size;rw[show[i6 c,sT b,bO_ false,bO_ false]=aL.cells ⟨c,b,false,false⟩from rfl,eU,<-sx T Z]at R;exact⟨(aR,a5),r,X,R,K.A3 (λ_ h=>h) a2 (λV M=>.inr (H.own V M).1) (bI K (bW H) rfl)⟩
 refine⟨?_,bb⟩;refine iq (l:=[0,12]) v7 z1 ⟨YW HK y2 [50,3,8,9,10,23,24,25,39,43] [] [] _ trivial bb,Nv (i:=12) (ls':=bA 16 8190) (w:=w) (S':=λ_=>False) (Y:=aO) (dst:=some 51) (x:=Builtin.append_ #[176,176] 176 #[yt d i f,yt (ae u) 1 1]) (λo=>yt o.1 (i+1) o.2) [⟨a,178,true,iA sn e s C i c d f⟩] (λo a0=>ah a0 w.z 180 4 o.1 (i+1) o.2 (ai aL.cells ((dn C B).take (i+1)))) (λo=>[(51,yt o.1 (i+1) o.2),(50,yt (ae u) 1 1),(3,yt (ae g) n k),(8,.pointer none),(9,i6 0),(10,pt a 0),(23,yt (ae j) n m),(24,i6 (n:Int)),(25,i6 (i:Int)),(43,yt d i f)]) v7 v7 v7 (λ_=>rfl) (λG p=>?_) (λo t a3 O=>?_),trivial⟩
 ·have H:=U.kT p aq;have K:=ab.A0 b5 p;have a6:=ad.x2 p.x2 (λ⟨W,E,_,I⟩=>by obtain rfl:=aG.1 E;simp only at I;omega);obtain⟨aR,a5,r,X,R,a2,b8⟩:=ce (P:=prog) G w.z 176 176 180 (.agg #[i6 0,sT ⟨#[]⟩,bO_ false,bO_ false]) 4 32 d i f (ai aL.cells ((dn C B).take i)) ⟨u,0,none⟩ 1 1 [i6 c,sT b,bO_ false,bO_ false] v7 v7 v7 (by decide) H rfl (λq x y=>by rw[bY,bG];exact a6.at_ y) (aU rfl) yq (by decide) K.x2.size;rw[show[i6 c,sT b,bO_ false,bO_ false]=aL.cells ⟨c,b,false,false⟩from rfl,eU,<-sx T Z]at R;exact⟨(aR,a5),r,X,R,K.A3 (λ_ h=>h) a2 (λV M=>.inr (H.own V M).1) (bI K (bW H) rfl)⟩
 obtain⟨z,D⟩:=o;exact iq (l:=[0]) v7 z1 ⟨YW Cw y2 [51,50,3,8,9,10,23,24,25,39,43] [] [] _ tI (bd z D t a3 O),tI⟩
end Go.Proofs.YtcmpkkapkdlfhaaGreat
