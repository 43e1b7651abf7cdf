import Derived.Test.YtcmpkkapkdlfhaaGreatXorM
namespace Go.Proofs.YtcmpkkapkdlfhaaGreat
open Go.RowKit Tryz
set_option maxHeartbeats 4000000
set_option maxRecDepth 100000
def V7(n:Nat)(l:aH):List (bi):=(List.range n).map λb=>(List.range l.length).find? λa=>match l[a]? with|some c=>Nat.beq c b|none=>false
def fL(n:Nat)(l:List (Nat×Bool)):List Bool:=(List.range n).map λb=>match l.find? (λa=>Nat.beq a.1 b)with|some a=>a.2|none=>true
def yX{Y:Type}(ops:Array Oper)(val:Y->Nat->Option Value)(y:Y)(l:aH)(a:Act):Prop:=∀c∈l,∀b,bV ops c=some b->∃d,val y c=some d∧a.tmps[b]?=some d
structure RF{Y:Type}(D:List Deferred)(n:Nat)(ops:Array Oper)(YF:bu)(Dt:List (bi))(J:Nat)(st:Y->Nat)(val:Y->Nat->Option Value)(M:Y->aI)(ls:cj)(y:Y)(a:Act)(w:World):Prop where
 J2:a.tmps.size=n
 XA:a.defers=D
 v8:∀q v,gh YF q=some v->(∀k,ls.getD k false=true->bV ops k≠some q)->a.tmps[q]?=some v
 closed:∀k,ls.getD k false=true->∀i∈aM ops k,ls.getD i false=true
 size:ls.size=ops.size
 Wy:∀i d,ls.getD i false=true->bV ops i=some d->∃v,val y i=some v∧a.tmps[d]?=some v
 MN:∀i s,cM Dt i=some s->(ls.getD i false=true↔s<st y)
 le:st y<=J
 mem:M y w
def pO(ops:Array Oper)(i:Nat)(l:aH):Bool:=l.all λb=>(aM ops b).any λa=>Nat.beq a i||(Nat.blt a b&&l.any (Nat.beq a))
theorem Iw{ops:Array Oper}{i:Nat}{l:aH}{p:br}(j:pO ops i l=true)(e:∀a,p a->∀b∈aM ops a,p b)(f:¬p i):∀c a,a<c->p a->a ∉ l
 |0,a,h,_=>absurd h (Nat.not_lt_zero _)
 |c+1,a,h,k=>λr=>by
  have m:=bE.1 j a r
  obtain⟨b,g,n⟩:=dN.1 m
  rcases ej _ _ |>.mp n with d|d
  ·exact f (bH d▸e a k b g)
  ·obtain⟨o,q⟩:=ch _ _ |>.mp d
   obtain⟨v,s,u⟩:=dN.1 q
   have t:=bH u
   exact Iw j e f c b (by rw[Nat.blt_eq]at o; omega) (e a k b g) (t▸s)
def i3{Y:Type}(WP:Nat->(Act->aI)->Act->aI)(D:List Deferred)(n:Nat)(ops:Array Oper)(h:bu)(Dt:List (bi))(J:Nat)(st:Y->Nat)(val:Y->Nat->Option Value)(M:Y->aI)(i:Nat):Prop:=
 ∀(y:Y)(a:Act)(w:World)(K:Act->aI),st y<=J->(∀b,cM Dt i=some b->st y=b∧b<J)->(∀c b,cM Dt c=some b->i∈aM ops c->st y<=b)->dy D n h a->yX ops val y (aM ops i) a->M y w ->
  (∀d f g,st d=f4 Dt i (st y)->val d i=some f->(∀c,c≠i->(∀e,pO ops i e=true->c ∉ e)->(∀b,cM Dt c=some b->b<st y)->val d c=val y c)->M d g->K (a.put (bV ops i) f) g)->WP i K a w
variable {D:List Deferred}{n:Nat}
theorem K2{Y:Type}{ac:Nat->(Act->aI)->Act->aI}{ops:Array Oper}{j:bu}{Dt:List (bi)}{J:Nat}{st:Y->Nat}{V:Y->Nat->Option Value}{M:Y->aI}(aR:gH n ops [] ops.size J Dt=true){i:Nat}(b9:i3 ac D n ops (J3 ops j i) Dt J st V M i){ls:cj}{y:Y}{a:Act}{w:World}{K:Act->aI}(c:RF D n ops j Dt J st V M ls y a w)(bd:i∈Region.ready .any ops ls)(bb:∀Q ad B,RF D n ops j Dt J st V M (ls.setIfInBounds i true) Q ad B->K ad B):ac i K a w:=by
 simp only[gH,ch]at aR;obtain⟨⟨⟨⟨⟨⟨a6,ak⟩,_⟩,a8⟩,a7⟩,N⟩,cm⟩:=aR;rw[bE]at ak a7 N;obtain⟨a9,r,Z⟩:=(jx ls i).1 bd;obtain⟨_,a1⟩:=eE a9;have U:ops[i]?=some ops[i]:=fi r;have cb:∀f,bV ops i=some f->f<n:=λf e=>by
  have bt:ops[i].dst=some f:=by simpa[bV,U]using e
  have b7:f∈ops.toList.filterMap (·.dst):=List.mem_filterMap.2 ⟨ops[i],z1,bt⟩;have t:=ak f b7;simp only[ch]at t;simpa[Nat.blt_eq]using t.1
 have b0:dy D n (J3 ops j i) a:=by
  refine⟨c.J2,c.XA,λz L P=>?_⟩;obtain⟨o,O⟩:=fN (λ_ _ _=>rfl) j P;refine c.v8 z L o (λb s e=>?_);have l:b<ops.size:=by
   unfold bV at e;rcases Nat.lt_or_ge b ops.size with h|h
   ·exact h
   ·rw[Array.getElem?_eq_none h]at e;cases e
  have t:=bE.1 O b (bn.2 l);rw[e]at t;simp only[eqO,Nat.beq_refl,Bool.not_true,Bool.false_or,dN]at t;obtain⟨x,A,b4⟩:=t;have b5:=bH b4;subst b5;have an:=c.closed b s i A;simp only[Array.getD,c.size,r,dif_pos]at an;have g:=(dp.1 a1).2;exact absurd (g.symm.trans an) (by decide)
 have X:¬ls.getD i false=true:=by
  simp only[Array.getD,c.size,r,dif_pos];have:=(dp.1 a1).2;simpa using this
 have G:∀d,cM Dt i=some d->st y=d∧d<J:=by
  intro d u;have g:=N i (bn.2 r);rw[u]at g;simp only[ch,ej,dN,bE]at g;obtain⟨⟨bs,R⟩,_⟩:=g;have b2:d<J:=by simpa[Nat.blt_eq]using bs
  have cn:¬d<st y:=by
   rw[<-c.MN i d u];exact X
  have co:d<=st y:=by
   rcases R with R|⟨b,l,C⟩
   ·have:=bH R;omega
   ·unfold eqO at C;split at C
    ·rename_i v bk;have q:=bH C;subst q;have:=(c.MN b _ bk).1 (Z b l);omega
    ·cases C
  exact⟨yq,b2⟩
 have b6:∀b d,cM Dt b=some d->i∈aM ops b->st y<=d:=λb d m k=>by
  rcases Nat.lt_or_ge d (st y)with o|o
  ·exact absurd (c.closed b ((c.MN b d m).2 o) i k) X
  ·exact o
 refine b9 y a w _ c.le G b6 b0 (λb l f e=>c.Wy b f (Z b l) e) c.mem (λQ L B a3 bl ca bg=>bb Q _ B ?_);have b8:∀b,b≠i->(ls.setIfInBounds i true).getD b false=true->ls.getD b false=true:=λb l H=>by rwa [getD_set_ne false (Ne.symm l)]at H
 have W:∀b,ls.getD b false=true->(ls.setIfInBounds i true).getD b false=true:=λb H=>getD_set_true H;have cf:(ls.setIfInBounds i true).getD i false=true:=by simp[Array.getD,c.size,r]
 refine⟨?_,?_,λz I P a2=>?_,λb s x A=>?_,by simp[c.size],λb f s e=>?_,λb d m=>?_,?_,bg⟩
 ·cases bV ops i<;>simp[Act.put,c.J2]
 ·cases bV ops i<;>simp[Act.put,c.XA]
 ·have o:=c.v8 z I P (λb l=>a2 b (W b l));have O:=a2 i cf
  cases S:bV ops i with
  |none=>exact o
  |some q=>
   have E:q≠z:=by
    rintro rfl;exact O S
   simp only[Act.put];rw[gX E];exact o
 ·by_cases a0:b=i
  ·subst a0;exact W x (Z x A)
  ·exact W x (c.closed b (b8 b a0 s) x A)
 ·by_cases k:b=i
  ·subst k;refine⟨L,bl,?_⟩;rw[e];have u:=c.J2;have b1:=cb f e;simp[Act.put,u,b1]
  ·have T:ls.getD b false=true:=by rwa [getD_set_ne false (Ne.symm k)]at s
   obtain⟨I,b3,a4⟩:=c.Wy b f T e;refine⟨I,(ca b k (λcl aV=>Iw (p:=λb=>ls.getD b false=true) aV c.closed X (b+1) b (Nat.lt_succ_self b) T) (λd u=>(c.MN b d u).1 T)).trans b3,?_⟩
   cases S:bV ops i with
   |none=>exact a4
   |some q=>
    have E:q≠f:=by
     rintro rfl;have a5:b<ops.size:=by
      unfold bV at e;rcases Nat.lt_or_ge b ops.size with h|h
      ·exact h
      ·rw[Array.getElem?_eq_none h]at e;cases e
     have g:ops[b].dst=some q:=by simpa[bV,fi a5]using e
     have aq:ops[i].dst=some q:=by simpa[bV,U]using S
     exact k (iV a6 (by simp[fi a5]) (by simp[U]) g aq)
    simp only[Act.put];rw[gX E];exact a4
 ·rw[a3];unfold f4;by_cases k:i=b
  ·subst k;rw[m];have:=G d m;simp only[Array.getD,Array.size_setIfInBounds,c.size,r,dif_pos];simp;omega
  ·rw[getD_set_ne false k,c.MN b d m]
   cases F:cM Dt i with
   |none=>exact Iff.rfl
   |some v=>
    have aq:=G v F;have E:d≠v:=by
     rintro rfl;have g:=N i (bn.2 r);rw[F]at g;simp only[ch,bE]at g;have s:b<ops.size:=by
      have aV:=bH a8;rcases Nat.lt_or_ge b ops.size with h|h
      ·exact h
      ·unfold cM at m;rw[List.getElem?_eq_none yq]at m;cases m
     have:=g.2 b (bn.2 s);simp only[eqO,m,Nat.beq_refl,Bool.not_true]at this;exact k (bH (by simpa using this)).symm
    show d<st y↔d<st y+1
    omega
 ·rw[a3];unfold f4
  cases F:cM Dt i with
  |none=>exact c.le
  |some v=>
   have:=G v F;show st y+1<=J;omega
theorem Iy{Y:Type}{v:Nat->(Act->aI)->Act->aI}{ops:Array Oper}{j:bu}{Dt:List (bi)}{J:Nat}{st:Y->Nat}{p:Y->Nat->Option Value}{M:Y->aI}{Q:Act->aI}(s:gH n ops [] ops.size J Dt=true)(U:∀f,f<ops.size->i3 v D n ops (J3 ops j f) Dt J st p M f)(I:∀d a c,st d=J->M d c->dy D n (XB ops j) a->yX ops p d (List.range ops.size) a->Q a c) :
  ∀(l:Nat)(b:cj)(d:Y)(a:Act)(c:World),b.toList.count false<=l->RF D n ops j Dt J st p M b d a c->Fo v ops Q l b a c:=by
 have A:=s;simp only[gH,ch]at s;obtain⟨_,m⟩:=s;have B:∀(b:cj)(d:Y)(a:Act)(c:World),Region.ready .any ops b=[]->RF D n ops j Dt J st p M b d a c->Q a c:=by
  intro b d a c k e;have z:=xO A b e.size k;have S:st d=J:=by
   rcases Nat.eq_zero_or_pos J with w|W
   ·have:=e.le;omega
   ·simp only[ej,dN]at m;rcases m with m|⟨f,i,o⟩
    ·have:=bH m;omega
    ·have u:=bn.1 i;unfold eqO at o;split at o
     ·rename_i V L;have E:=bH o;subst E;have:=(e.MN f _ L).1 (z f u);have:=e.le;omega
     ·cases o
  refine I d a c S e.mem ⟨e.J2,e.XA,λF G K=>?_⟩ (λg t C h=>e.Wy g C (z g (bn.1 t)) h);obtain⟨r,x⟩:=fN (λ_ _ _=>rfl) j K;refine e.v8 F G r (λg _ h=>?_);simp only[bE,Bool.not_eq_true']at x;have t:g<ops.size:=by
   unfold bV at h;rcases Nat.lt_or_ge g ops.size with q|q
   ·exact q
   ·rw[Array.getElem?_eq_none q]at h;cases h
  have y:=x g (bn.2 t);rw[h]at y;simp[eqO]at y
 intro l
 induction l with
 |zero=>
  intro b d a c T e;have k:Region.ready .any ops b=[]:=by
   rw[List.eq_nil_iff_forall_not_mem];intro f i;have r:=eE ((jx b f).1 i).1;have:=jy r.2;omega
  exact⟨k,B b d a c k e⟩
 |succ l N=>
  intro b d a c T e;refine⟨λk=>B b d a c k e,λf i=>?_⟩;obtain⟨w,u,_⟩:=(jx b f).1 i;have X:=jy (eE w).2;exact K2 A (U f u) e i (λP H O R=>N _ P H O yq R)
section
variable {P:Program}{D:List Deferred}{n:Nat}{w0:World}{S:br}{Q:Exit->Act->aI}{ops:Array Oper}{j:bu}{Δ:Type}{vs:Δ->List (Option Value)}{fl:Δ->Nat->Bool}{ms:Δ->List (ax)}{m:Nat}{Dt:List (bi)}{J:Nat}{X:Nat->Δ->aI}
def MY(w0:World)(S:br)(ms:Δ->List (ax))(m:Nat)(X:Nat->Δ->aI)(y:Nat×Δ)(w:World):Prop:=∃a,(ms y.2)[y.1]?=some a∧m<=w.z∧ab w0 S a [] w.z w∧X y.1 y.2 w
def jq(vs:Δ->List (Option Value))(fl:Δ->Nat->Bool)(y:Nat×Δ)(k:Nat):Option Value:=match fl y.2 k with
 |true=>d8 (vs y.2) k
 |false=>none
theorem lC{y:Nat×Δ}{k:Nat}{v:Value}(h:fl y.2 k=true)(a:d8 (vs y.2) k=some v):jq vs fl y k=some v:=by simp only[jq,h,a]
theorem tg{y:Nat×Δ}{k:Nat}{v:Value}(h:jq vs fl y k=some v):fl y.2 k=true∧d8 (vs y.2) k=some v:=by
 unfold jq at h;split at h
 ·rename_i a;exact⟨a,h⟩
 ·cases h
theorem th{y a:Nat×Δ}{k:Nat}(h:d8 (vs a.2) k=d8 (vs y.2) k∧fl a.2 k=fl y.2 k):jq vs fl a k=jq vs fl y k:=by simp only[jq,h.1,h.2]
def uY(ops:Array Oper)(fl:Δ->Nat->Bool)(d:Δ)(i:Nat):Prop:=∀a∈aM ops i,bV ops a≠none->fl d a=true
theorem uZ{a:Act}{y:Nat×Δ}{i:Nat}(h:yX ops (jq vs fl) y (aM ops i) a):uY ops fl y.2 i:=λc g f=>by
 cases b:bV ops c with
 |none=>exact absurd b f
 |some d=>
  obtain⟨j,e,_⟩:=h c g d b
  exact(tg e).1
theorem gD{a:Act}{y:Nat×Δ}(h0:dy D n j a)(l:aH)(h:yX ops (jq vs fl) y l a):dy D n (slG ops (vs y.2) j l) a:=
 fC (C:=λ_ _ _=>False) (w:=default) h0 l (λc i b g=>by
  obtain⟨d,e,f⟩:=h c i b g
  refine⟨d,f,?_⟩
  simp only[PvG,(tg e).2])
theorem K3{i B:Nat}{h:OH}{ob:Δ->List Prop}{rs:Δ->List (Nat×Nat×Nat)}(v:Δ->Value)(hs:cM Dt i=none)(u:B=J∨∃f,cM Dt f=some B∧i∈aM ops f)(H:∀a,fl a i=true)(C:∀a,d8 (vs a) i=some (v a))
  (he:∀a q,(List.range (B+1)).map (λb=>((ms a)[b]?).bind λc=>opG P ops ⟨slG ops (vs a) j (aM ops i),c,[],q⟩ i h)=(List.range (B+1)).map (λb=>((ms a)[b]?).map λc=>(ob a,aX (rs a),v a,c,q))) (A:∀a,J4 (ob a))
  (x:∀b a d e c,(ms a)[b]?=some c->ab w0 S c [] d.z d->X b a d->au (ao c) d e->X b a e):i3 (wpOp P ops Q) D n ops j Dt J (λt:Nat×Δ=>t.1) (jq vs fl) (MY w0 S ms m X) i:=by
 rintro⟨b,a⟩ N d M G _ L y z ⟨c,g,E,k,p⟩ w;have F:b<=B:=by
  rcases u with rfl|⟨f,K,I⟩
  ·exact G
  ·exact L f B K I
 have o:=congrArg (λs=>s[b]?) (he a d.z);dsimp only at g F p;simp only[ew,ek (show b<B+1 by omega),Option.map_some,aB,g,Option.bind_some]at o;refine iK (w0:=d) (S:=ao c) o (A a) (dX _) (gD y _ z) k.again (λe l=>?_);have r:ab d (ao c) c [] e.z e:=by rw[l.size]; exact l
 refine w (b,a) (v a) e ?_ (lC (H a) (C a)) (λ_ _ _ _=>rfl) ⟨c,g,az E l.x2.size,k.W4 r rfl,x b a d e c g k p r.x2⟩;unfold f4;rw[hs]
structure fG(Δ:Type)where
 i:Nat
 B:Nat
 h:OH
 es:Δ->List Ev
 rs:Δ->List (Nat×Nat×Nat)
def f5(J:Nat)(l:aH):List (fG Δ):=l.map λa=>⟨a,J,y2,λ_=>[],λ_=>[]⟩
theorem bp(L:List (fG Δ))(z:∀c b f u e,(ms b)[c]?=some e->ab w0 S e [] f.z f->X c b f->au (ao e) f u->X c b u)
  (I:∀b,L.all (λa=>fl b a.i)=true) (x:L.all (λa=>Nat.beq a.B J||(List.range ops.size).any (λd=>eqO (cM Dt d) a.B&&(aM ops d).any (Nat.beq a.i)))=true)
  (he:∀b g,L.map (λa=>(cM Dt a.i,(d8 (vs b) a.i).isSome,(List.range (a.B+1)).map (λc=>((ms b)[c]?).bind λe=>opG P ops ⟨slG ops (vs b) (J3 ops j a.i) (aM ops a.i),e,[],g⟩ a.i a.h)))
   = L.map (λa=>(none,true,(List.range (a.B+1)).map (λc=>((ms b)[c]?).bind λe=>(d8 (vs b) a.i).map λs=>(XU (a.es b),aX (a.rs b),s,e,g))))) :
  ∀a∈L,i3 (wpOp P ops Q) D n ops (J3 ops j a.i) Dt J (λk:Nat×Δ=>k.1) (jq vs fl) (MY w0 S ms m X) a.i:=by
 intro a r k w f v H M O A C K y;have q:=λb g=>List.map_inj_left.1 (he b g) a r;have t:=q k.2 0;simp only[bw]at t;have p:∀b,d8 (vs b) a.i=some ((d8 (vs b) a.i).getD undef):=λb=>by
  have i:=q b 0;simp only[bw]at i;obtain⟨s,p⟩:=cV.1 i.2.1;rw[p];rfl
 have G:a.B=J∨∃d,cM Dt d=some a.B∧a.i∈aM ops d:=by
  have l:=bE.1 x a r;simp only[ej,dN,ch]at l;rcases l with l|⟨d,_,o,T,F,N⟩
  ·exact .inl (bH l)
  ·refine .inr ⟨d,?_,bH N▸F⟩;unfold eqO at o;split at o
   ·rename_i R E;rw[E,bH o]
   ·cases o
 refine K3 (h:=a.h) (rs:=a.rs) (ob:=λb=>XU (a.es b)) (B:=a.B) (λb=>(d8 (vs b) a.i).getD undef) t.1 G (λb=>bE.1 (I b) a r) p (λb g=>?_) (λb=>KQ (a.es b)) z k w f v H M O A C K y;have i:=q b g;simp only[bw]at i;refine i.2.2.trans (ft λc _=>?_);rw[p b];cases (ms b)[c]?<;>rfl
theorem f6{N:Nat}{p:br}{L:List (fG Δ)}{l:aH}(i:(List.range N).all (λa=>L.any (λc=>Nat.beq c.i a)||l.any (Nat.beq a))=true)(h:∀c∈L,p c.i)(m:J4 (l.map p)):∀a,a<N->p a:=by
 intro a b;have f:=bE.1 i a (bn.2 b);simp only[ej,dN]at f;rcases f with⟨c,j,d⟩|⟨g,k,d⟩
 ·rw[<-bH d];exact h c j
 ·rw[bH d];have:∀(l:aH),J4 (l.map p)->∀a∈l,p a:=by
   intro l
   induction l with
   |nil=>intro _ a b; cases b
   |cons o l n=>
    intro e a b;rcases bj.1 b with rfl|b
    ·exact e.1
    ·exact n e.2 a b
  exact this l m g k
theorem eO{i B:Nat}{f:FuncId}{args:Δ->av}{ob:Δ->List Prop}(v:Δ->Value)(hs:cM Dt i=none)(t:B=J∨∃g,cM Dt g=some B∧i∈aM ops g)(I:∀a,fl a i=true)(E:∀a,d8 (vs a) i=some (v a))
  (h:∀a,gg P ops (slG ops (vs a) j (aM ops i)) i=some (f,args a,bV ops i,ob a)) (C:∀a,J4 (ob a))
  (x:∀c a b d,c<=B->(ms a)[c]?=some d->ab w0 S d [] b.z b->X c a b->Calls P f (args a).toArray b (bf (v a) b))
  (w:∀c a b e d,(ms a)[c]?=some d->ab w0 S d [] b.z b->X c a b->au (ao d) b e->X c a e):i3 (wpOp P ops Q) D n ops j Dt J (λq:Nat×Δ=>q.1) (jq vs fl) (MY w0 S ms m X) i:=by
 rintro⟨c,a⟩ O b N H _ M z A ⟨d,o,F,l,p⟩ u;have G:c<=B:=by
  rcases t with rfl|⟨g,L,K⟩
  ·exact H
  ·exact M g B L K
 refine ij (h a) (C a) (gD z _ A) ((x c a b d G o l p).mono λR e y=>?_);obtain⟨r,k⟩:=y;have s:=l.same k;refine⟨v a,r,u (c,a) (v a) e ?_ (lC (I a) (E a)) (λ_ _ _ _=>rfl) ⟨d,o,az F k.size,s.2,w c a b e d o l p (k.mono (λ_ _ h=>h.elim))⟩⟩;unfold f4;rw[hs]
theorem K4{i B:Nat}{h:OH}{ob:Δ->List Prop}{rs:Δ->List (Nat×Nat×Nat)}{e:TypeId}(l:av)(up:Δ->Nat->Δ)(t:Nat->Value)(hs:cM Dt i=none)(C:B=J∨∃d,cM Dt d=some B∧i∈aM ops d)(N:∀a g,fl (up a g) i=true)(K:∀a g,d8 (vs (up a g)) i=some (t g))(V:∀a g d,d≠i->(∀l,pO ops i l=true->d ∉ l)->d8 (vs (up a g)) d=d8 (vs a) d∧fl (up a g) d=fl a d)
  (he:∀a p,(List.range (B+1)).map (λb=>((ms a)[b]?).bind λf=>opG P ops ⟨slG ops (vs a) j (aM ops i),f,[],p⟩ i h)=(List.range (B+1)).map (λb=>((ms a)[b]?).map λf=>(ob a,aX (rs a),t p,f++[⟨p,e,true,l⟩],p+1))) (I:∀a,J4 (ob a))
  (U:∀a g,(List.range (B+1)).map (λb=>(ms (up a g))[b]?)=(List.range (B+1)).map (λb=>(ms a)[b]?))
  (F:∀b a c k f,b<=B->(ms a)[b]?=some f->ab w0 S f [] c.z c->X b a c->au (ao f) c k->m<=c.z->A2 k c.z e l->X b (up a c.z) k):i3 (wpOp P ops Q) D n ops j Dt J (λA:Nat×Δ=>A.1) (jq vs fl) (MY w0 S ms m X) i:=by
 rintro⟨b,a⟩ Z c Y M _ W H s ⟨f,o,x,r,w⟩ E;have y:b<=B:=by
  rcases C with rfl|⟨d,R,O⟩
  ·exact M
  ·exact W d B R O
 have u:=congrArg (λl=>l[b]?) (he a c.z);dsimp only at o y w;simp only[ew,ek (show b<B+1 by omega),Option.map_some,aB,o,Option.bind_some]at u;refine iK (w0:=c) (S:=ao f) u (I a) (dX _) (gD H _ s) r.again (λk q=>?_);have L:=q.zq ⟨c.z,e,true,l⟩ z1;have T:=q.less;have z:ab c (ao f) f [] k.z k:=by rw[q.size]; exact T
 have v:=congrArg (λl=>l[b]?) (U a c.z);simp only[ew,ek (show b<B+1 by omega),Option.map_some,aB]at v;refine E (b,up a c.z) (t c.z) k ?_ (lC (N a _) (K a _)) (λd s G _=>th (V a _ d s G)) ⟨f,v.trans o,az x q.x2.size,r.W4 z rfl,F b a c k f y o r w z.x2 x L⟩;unfold f4;rw[hs]
def K5{α:Type}(x:α)(l:aH)(a:List α):List α:=l.foldl (λa b=>a.set b x) a
theorem Dg{α:Type}{x:α}:∀(d:aH)(b c:List α),K5 x d c=K5 x d b->∀a,a ∉ d->c[a]?=b[a]?
 |[],b,c,f,a,_=>by rw[show c=b from f]
 |h::d,b,c,f,a,g=>by
  have i:=Dg d (b.set h x) (c.set h x) f a (λj=>g (cz _ j))
  rwa [List.getElem?_set_ne (λe=>g (by rw[<-e]; exact A4)),List.getElem?_set_ne (λe=>g (by rw[<-e]; exact A4))]at i
theorem Vk{ops:Array Oper}{b c:List (Option Value)}{d f:List Bool}{i:Nat}{l:aH}(m:pO ops i l=true)(h:K5 none (i::l) c=K5 none (i::l) b)(g:f.set i true=d.set i true)(k:Nat)(e:k≠i)(j:∀l,pO ops i l=true->k ∉ l):d8 c k=d8 b k∧f[k]?.getD true=d[k]?.getD true:=by
 constructor
 ·have a:=Dg (i::l) b c h k (λn=>(bj.1 n).elim e (j l m));simp only[d8,a]
 ·have a:=congrArg (λl=>l[k]?) g;simp only[List.getElem?_set_ne (Ne.symm e)]at a;rw[a]
theorem Dh{i s:Nat}{f:FuncId}{args:Δ->av}{ob:Δ->List Prop}{p:Type}(up:Δ->p->Δ)(v:Δ->Value)(Ex:Δ->p->ax)(hs:cM Dt i=some s)(N:∀a,fl a i=true)(K:∀a,d8 (vs a) i=some (v a))(R:∀a g c,c≠i->(∀o,pO ops i o=true->c ∉ o)->d8 (vs (up a g)) c=d8 (vs a) c∧fl (up a g) c=fl a c)
  (h:∀a,gg P ops (slG ops (vs a) j (aM ops i)) i=some (f,args a,bV ops i,ob a)) (I:∀a,J4 (ob a))
  (F:∀a d k,(ms a)[s]?=some k->ab w0 S k [] d.z d->X s a d->uY ops fl a i->Calls P f (args a).toArray d (λg e=>∃b,g=.returned (v (up a b))∧(ms (up a b))[s+1]?=some (Ex a b)∧X (s+1) (up a b) e∧ab w0 S (Ex a b) [] e.z e∧d.z<=e.z)) :
  i3 (wpOp P ops Q) D n ops j Dt J (λt:Nat×Δ=>t.1) (jq vs fl) (MY w0 S ms m X) i:=by
 rintro⟨r,a⟩ U d T _ O _ H l ⟨k,E,M,B,L⟩ A;obtain⟨q,_⟩:=O s hs;dsimp only at q;subst q;refine ij (h a) (I a) (gD H _ l) ((F a d k E B L (uZ l)).mono λg e G=>?_);obtain⟨b,u,w,x,y,z⟩:=G;refine⟨v (up a b),u,A (r+1,up a b) _ e ?_ (lC (N _) (K _)) (λc l C _=>th (R a b c l C)) ⟨Ex a b,w,az M z,y,x⟩⟩;unfold f4;rw[hs]
theorem K6{i s:Nat}{x:Δ->Sem Value}{r:Type}(up:Δ->r->Δ)(v:Δ->Value)(Ex:Δ->r->ax)(hs:cM Dt i=some s)(W:∀a,fl a i=true)(O:∀a,d8 (vs a) i=some (v a))(ak:∀a o d,d≠i->(∀p,pO ops i p=true->d ∉ p)->d8 (vs (up a o)) d=d8 (vs a) d∧fl (up a o) d=fl a d)
  (V:∀a,eZ ops (slG ops (vs a) j (aM ops i)) i=some (bV ops i)) (Z:∀a,ex ops (slG ops (vs a) j (aM ops i)) i=some (Wx (x a)))
  (N:∀a e g,(ms a)[s]?=some g->ab w0 S g [] e.z e->X s a e->uY ops fl a i->∃b f,(x a).run P e=.ok (v (up a b)) f∧(ms (up a b))[s+1]?=some (Ex a b)∧X (s+1) (up a b) f∧ab w0 S (Ex a b) [] f.z f∧e.z<=f.z) :
  i3 (wpOp P ops Q) D n ops j Dt J (λy:Nat×Δ=>y.1) (jq vs fl) (MY w0 S ms m X) i:=by
 rintro⟨w,a⟩ l e an _ ad _ L h ⟨g,K,U,H,T⟩ G;obtain⟨t,_⟩:=ad s hs;dsimp only at t;subst t;have ac:=gD L _ h;have c:=V a;have k:=Z a;unfold eZ at c;unfold ex at k;split at c
 ·rename_i q u;simp only[u,aB]at k;split at c
  ·rename_i M;split at c
   ·rename_i Y;simp only[aB]at c;have R:Region.wanted q (yielded ops l.tmps)=true:=by simp[Region.wanted,M]
    simp only[wpOp,u,aA R];refine .inl ?_;obtain⟨b,f,z,A,B,C,E⟩:=N a e g K H T (uZ h);have F:(execOp l.eval q).run P e=.ok (.value (v (up a b))) f:=by
     rw[ac.RS Y,k];simp only[Wx,Sem.run_bind,z,dS,Sem.run_pure]
    simp only[Oper.wp,F,Oper.upon_value];rw[c];refine G (w+1,up a b) _ f ?_ (lC (W _) (O _)) (λd h I _=>th (ak a b d h I)) ⟨Ex a b,A,az U E,C,B⟩;unfold f4;rw[hs]
   ·cases c
  ·cases c
 ·cases c
theorem fV{i B:Nat}{x:Δ->Sem Value}(v:Δ->Value)(hs:cM Dt i=none)(t:B=J∨∃f,cM Dt f=some B∧i∈aM ops f)(K:∀a,fl a i=true)(C:∀a,d8 (vs a) i=some (v a))
  (I:∀a,eZ ops (slG ops (vs a) j (aM ops i)) i=some (bV ops i)) (O:∀a,ex ops (slG ops (vs a) j (aM ops i)) i=some (Wx (x a)))
  (A:∀d a b e,d<=B->(ms a)[d]?=some e->ab w0 S e [] b.z b->X d a b->(x a).run P b=.ok (v a) b) :
  i3 (wpOp P ops Q) D n ops j Dt J (λr:Nat×Δ=>r.1) (jq vs fl) (MY w0 S ms m X) i:=by
 rintro⟨d,a⟩ h b U H _ T w z ⟨e,o,F,l,q⟩ u;have G:d<=B:=by
  rcases t with rfl|⟨f,N,L⟩
  ·exact H
  ·exact T f B N L
 have R:=gD w _ z;have c:=I a;have g:=O a;unfold eZ at c;unfold ex at g;split at c
 ·rename_i k p;simp only[p,aB]at g;split at c
  ·rename_i y;split at c
   ·rename_i M;simp only[aB]at c;have E:Region.wanted k (yielded ops h.tmps)=true:=by simp[Region.wanted,y]
    simp only[wpOp,p,aA E];refine .inl ?_;have s:(execOp h.eval k).run P b=.ok (.value (v a)) b:=by
     rw[R.RS M,g];simp only[Wx,Sem.run_bind,A d a b e G o l q,dS,Sem.run_pure]
    simp only[Oper.wp,s,Oper.upon_value];rw[c];refine u (d,a) _ b ?_ (lC (K _) (C _)) (λ_ _ _ _=>rfl) ⟨e,o,F,l,q⟩;unfold f4;rw[hs]
   ·cases c
  ·cases c
 ·cases c
theorem K7{i s:Nat}{x:Δ->Sem Unit}{r:Type}(up:Δ->r->Δ)(Ex:Δ->r->ax)(hs:cM Dt i=some s)(V:∀a,fl a i=true)(N:∀a,d8 (vs a) i=some undef)(ad:∀a o c,c≠i->(∀p,pO ops i p=true->c ∉ p)->d8 (vs (up a o)) c=d8 (vs a) c∧fl (up a o) c=fl a c)
  (U:∀a,eZ ops (slG ops (vs a) j (aM ops i)) i=some (bV ops i)) (Y:∀a,ex ops (slG ops (vs a) j (aM ops i)) i=some (XG (x a)))
  (M:∀a d g,(ms a)[s]?=some g->ab w0 S g [] d.z d->X s a d->uY ops fl a i->∃e f,(x a).run P d=.ok () f∧(ms (up a e))[s+1]?=some (Ex a e)∧X (s+1) (up a e) f∧ab w0 S (Ex a e) [] f.z f∧d.z<=f.z) :
  i3 (wpOp P ops Q) D n ops j Dt J (λw:Nat×Δ=>w.1) (jq vs fl) (MY w0 S ms m X) i:=by
 rintro⟨v,a⟩ l d ak _ ac _ K h ⟨g,I,T,G,R⟩ F;obtain⟨t,_⟩:=ac s hs;dsimp only at t;subst t;have Z:=gD K _ h;have b:=U a;have k:=Y a;unfold eZ at b;unfold ex at k;split at b
 ·rename_i q u;simp only[u,aB]at k;split at b
  ·rename_i L;split at b
   ·rename_i W;simp only[aB]at b;have O:Region.wanted q (yielded ops l.tmps)=true:=by simp[Region.wanted,L]
    simp only[wpOp,u,aA O];refine .inl ?_;obtain⟨e,f,y,z,A,B,C⟩:=M a d g I G R (uZ h);have E:(execOp l.eval q).run P d=.ok .skip f:=by
     rw[Z.RS W,k];simp only[XG,Sem.run_bind,y,dS,Sem.run_pure]
    simp only[Oper.wp,E,Oper.upon_skip];rw[b];refine F (v+1,up a e) undef f ?_ (lC (V _) (N _)) (λc h H _=>th (ad a e c h H)) ⟨Ex a e,z,az T C,B,A⟩;unfold f4;rw[hs]
   ·cases b
  ·cases b
 ·cases b
theorem ab.Wb{w W e:World}{S d:br}{bk Ex:ax}{wn:List Wn}{g:Nat}(h:ab w S bk [] W.z W)(a:ab W d Ex wn g e)(f:∀c,d c->S c∨w.z<=c):ab w S Ex [] g e:=
 ⟨a.size,a.zq,λi k m=>(a.own i k m).elim (λb=>f _ b) (λb=>.inr (az h.x2.size b)),a.nd,
  h.x2.trans a.x2 (λj l b=>(f j b).elim id (λo=>absurd l yq)),λc n=>by cases n⟩
theorem bD{body:Code}{p:aH}{k:List KI}{st:St}(q:br)(vs:Δ->List (Option Value))(fl:Δ->Nat->Bool)(ms:Δ->List (ax))(X:Nat->Δ->aI){Dt:List (bi)}{J:Nat}(x:aH)(V9:Δ->bu)(Ex:Δ->ax)(d0:Δ)
  (z:∀i,S i->q i) (s:jf (aa body p)=true) (W:P.follows .mixedOrders=true) (I:gH n (aj (aa body p)) [] (aj (aa body p)).size J Dt=true)
  (U:∀h,ab w0 S st.bk st.wn st.sz h->X 0 d0 { h with drawn:=h.drawn+1 }) (h0:(ms d0)[0]?=some st.bk)
  (Z:∀a,a<(aj (aa body p)).size->i3 (wpOp P (aj (aa body p)) (sem P body Q k)) D n (aj (aa body p)) (J3 (aj (aa body p)) st.sl a) Dt J (λG:Nat×Δ=>G.1) (jq vs fl) (MY w0 q ms st.sz X) a)
  (L:∀b,(ms b)[J]?=some (Ex b))
  (Y:∀b,j1 (slG (aj (aa body p)) (vs b) (XB (aj (aa body p)) st.sl) (List.range (aj (aa body p)).size)) x=V9 b)
  (N:∀b c,(∀a,a<(aj (aa body p)).size->bV (aj (aa body p)) a≠none->fl b a=true)->X J b c->st.sz<=c.z->ab w0 q (Ex b) [] c.z c->aF D P body n c (ao (Ex b)) Q k ⟨V9 b,Ex b,[],c.z⟩):aF D P body n w0 S Q (.code p::k) st:=by
 intro C h t e;obtain⟨ak,s⟩:=iU s;simp only[sem];rw[s];refine wp_region_any W ?_;rw[gj];have m:∀a,(Array.replicate (aj (aa body p)).size false).getD a false=false:=λa=>by
  simp only[Array.getD];split
  ·simp
  ·rfl
 refine Iy I Z ?_ _ _ (0,d0) C _ z1 ⟨t.size,t.df,λo g O _=>t.val o g O,λk w=>(by rw[m]at w; cases w),z1,λa b d=>(by rw[m]at d; cases d),λa F _=>(by rw[m]; exact⟨λf=>(by cases f),λf=>absurd f (Nat.not_lt_zero F)⟩),Nat.zero_le _,st.bk,h0,bC e.size.symm,⟨rfl,e.zq,λE j R=>(e.own E j R).imp_left (z _),e.nd,(e.x2.mono (λi _ f=>z i f)).drew,λi l=>(by cases l)⟩,U h e⟩;rintro⟨ac,b⟩ H y A ⟨ad,j,T,v,l⟩ V B;dsimp only at A j l;subst A;rw[L]at j;cases j;have r:=gD V _ B;exact N b y (λa d M=>by
  cases u:bV (aj (aa body p)) a with
  |none=>exact absurd u M
  |some o=>
   obtain⟨g,K,_⟩:=B a (bn.2 d) o u;exact(tg K).1) l T v H y (by rw[<-Y b]; exact⟨r.size,r.df,λa g d=>r.val a g (dU x a g d)⟩) v.again
theorem jX{body:Code}{p:aH}{k:List KI}{st:St}{f0:Nat}{Xq:cj}(q:br)(vs:Δ->List (Option Value))(fl:Δ->Nat->Bool)(ms:Δ->List (ax))(X:Nat->Δ->aI){Dt:List (bi)}{J:Nat}(w:aH)(V9:Δ->bu)(Ex:Δ->ax)(d0:Δ)
  (y:∀h,S h->q h) (V:(aj (aa body p)).size=f0) (W:Array.replicate (aj (aa body p)).size false=Xq) (H:gH n (aj (aa body p)) [] (aj (aa body p)).size J Dt=true)
  (T:∀j,ab w0 S st.bk st.wn st.sz j->X 0 d0 j) (h0:(ms d0)[0]?=some st.bk)
  (Z:∀a,a<(aj (aa body p)).size->i3 (wpOp P (aj (aa body p)) (sem P body Q k)) D n (aj (aa body p)) (J3 (aj (aa body p)) st.sl a) Dt J (λF:Nat×Δ=>F.1) (jq vs fl) (MY w0 q ms st.sz X) a)
  (K:∀b,(ms b)[J]?=some (Ex b))
  (Y:∀b,j1 (slG (aj (aa body p)) (vs b) (XB (aj (aa body p)) st.sl) (List.range (aj (aa body p)).size)) w=V9 b)
  (M:∀b c,(∀a,a<(aj (aa body p)).size->bV (aj (aa body p)) a≠none->fl b a=true)->X J b c->st.sz<=c.z->ab w0 q (Ex b) [] c.z c->aF D P body n c (ao (Ex b)) Q k ⟨V9 b,Ex b,[],c.z⟩):aF D P body n w0 S Q (.any p f0 Xq::k) st:=by
 subst V W;intro B j s e;simp only[sem];rw[gj];have m:∀a,(Array.replicate (aj (aa body p)).size false).getD a false=false:=λa=>by
  simp only[Array.getD];split
  ·simp
  ·rfl
 refine Iy H Z ?_ _ _ (0,d0) B _ z1 ⟨s.size,s.df,λo g N _=>s.val o g N,λk v=>(by rw[m]at v; cases v),z1,λa b d=>(by rw[m]at d; cases d),λa E _=>(by rw[m]; exact⟨λf=>(by cases f),λf=>absurd f (Nat.not_lt_zero E)⟩),Nat.zero_le _,st.bk,h0,bC e.size.symm,⟨rfl,e.zq,λC i O=>(e.own C i O).imp_left (y _),e.nd,e.x2.mono (λh _ f=>y h f),λh l=>(by cases l)⟩,T j e⟩;rintro⟨ac,b⟩ G x z ⟨ad,i,R,u,l⟩ U A;dsimp only at z i l;subst z;rw[K]at i;cases i;have r:=gD U _ A;exact M b x (λa d L=>by
  cases t:bV (aj (aa body p)) a with
  |none=>exact absurd t L
  |some o=>
   obtain⟨g,I,_⟩:=A a (bn.2 d) o t;exact(tg I).1) l R u G x (by rw[<-Y b]; exact⟨r.size,r.df,λa g d=>r.val a g (dU w a g d)⟩) u.again
def TX(ops:Array Oper)(i:Nat):aH:=(List.range ops.size).foldl (λb a=>bif (aM ops a).any (λc=>Nat.beq c i||(Nat.blt c a&&b.any (Nat.beq c)))then b++[a]else b) []
theorem yY{ops:Array Oper}{c e:List (Option Value)}{b d:List Bool}{i:Nat}(l:pO ops i (TX ops i)=true)(h:K5 none (i::TX ops i) e=K5 none (i::TX ops i) c)(f:d.set i true=b.set i true)(k:Nat)(j:k≠i)(g:∀a,pO ops i a=true->k ∉ a):d8 e k=d8 c k∧d[k]?.getD true=b[k]?.getD true:=Vk l h f k j g
def XH(ms:Δ->List (ax))(s:Nat)(d:Δ):ax:=((ms d)[s+1]?).getD []
theorem Vl{i B:Nat}(h:(Nat.beq B J||(List.range ops.size).any (λa=>eqO (cM Dt a) B&&(aM ops a).any (Nat.beq i)))=true):B=J∨∃a,cM Dt a=some B∧i∈aM ops a:=by
 rcases ej _ _ |>.mp h with h|h
 ·exact .inl (bH h)
 ·obtain⟨a,_,d⟩:=dN.1 h;obtain⟨b,e⟩:=ch _ _ |>.mp d;obtain⟨k,f,g⟩:=dN.1 e;refine .inr ⟨a,?_,(bH g)▸f⟩
  cases c:cM Dt a with
  |none=>rw[c]at b; cases b
  |some j=>rw[c]at b; exact congrArg some (bH b)
def cY(P:Program)(fn:Func)(p:aH)(n:Nat)(D:List Deferred)(Q:Exit->Act->aI)(k:List KI)(j:bu)(Dt:List (bi))(J:Nat)(vs:Δ->List (Option Value))(fl:Δ->Nat->Bool)(w0:World)(S:br)(ms:Δ->List (ax))(m:Nat)(X:Nat->Δ->aI)(i:Nat):Prop:=
 i3 (wpOp P (aj (aa (al fn) p)) (sem P (al fn) Q k)) D n (aj (aa (al fn) p)) (J3 (aj (aa (al fn) p)) j i) Dt J (λa:Nat×Δ=>a.1) (jq vs fl) (MY w0 S ms m X) i
def eh(w0:World)(S:br)(ms:Δ->List (ax))(X:Nat->Δ->aI):Prop:=∀b c a e d,(ms c)[b]?=some d->ab w0 S d [] a.z a->X b c a->au (ao d) a e->X b c e
theorem WO{i s:Nat}{f:FuncId}{args:Δ->av}{ob:Δ->List Prop}{p:Type}(up:Δ->p->Δ)(v:Δ->Value)(r:∀a,J4 (ob a))
  (q:∀a d l,(ms a)[s]?=some l->ab w0 S l [] d.z d->X s a d->uY ops fl a i->Calls P f (args a).toArray d (λb g=>∃e,b=.returned (v (up a e))∧(ms (up a e))[s+1]?=some (XH ms s (up a e))∧X (s+1) (up a e) g∧ab w0 S (XH ms s (up a e)) [] g.z g∧d.z<=g.z))
  (hs:cM Dt i=some s:=by kernel_rfl) (u:∀a,fl a i=true:=by intro _; kernel_rfl) (t:∀a,d8 (vs a) i=some (v a):=by intro _; kernel_rfl)
  (w:∀a b c,c≠i->(∀k,pO ops i k=true->c ∉ k)->d8 (vs (up a b)) c=d8 (vs a) c∧fl (up a b) c=fl a c:=by intro _ _; exact yY v7 v7 v7)
  (h:∀a,gg P ops (slG ops (vs a) j (aM ops i)) i=some (f,args a,bV ops i,ob a):=by intro _; kernel_rfl) :
  i3 (wpOp P ops Q) D n ops j Dt J (λo:Nat×Δ=>o.1) (jq vs fl) (MY w0 S ms m X) i:=Dh up v (λa b=>XH ms s (up a b)) hs u t w h r q
theorem Xa{i s:Nat}{x:Δ->Sem Value}{l:Type}(up:Δ->l->Δ)(v:Δ->Value)
  (o:∀a c h,(ms a)[s]?=some h->ab w0 S h [] c.z c->X s a c->uY ops fl a i->∃d e,(x a).run P c=.ok (v (up a d)) e∧(ms (up a d))[s+1]?=some (XH ms s (up a d))∧X (s+1) (up a d) e∧ab w0 S (XH ms s (up a d)) [] e.z e∧c.z<=e.z)
  (hs:cM Dt i=some s:=by kernel_rfl) (r:∀a,fl a i=true:=by intro _; kernel_rfl) (p:∀a,d8 (vs a) i=some (v a):=by intro _; kernel_rfl)
  (u:∀a f b,b≠i->(∀g,pO ops i g=true->b ∉ g)->d8 (vs (up a f)) b=d8 (vs a) b∧fl (up a f) b=fl a b:=by intro _ _; exact yY v7 v7 v7)
  (q:∀a,eZ ops (slG ops (vs a) j (aM ops i)) i=some (bV ops i):=by intro _; kernel_rfl) (t:∀a,ex ops (slG ops (vs a) j (aM ops i)) i=some (Wx (x a)):=by intro _; kernel_rfl) :
  i3 (wpOp P ops Q) D n ops j Dt J (λk:Nat×Δ=>k.1) (jq vs fl) (MY w0 S ms m X) i:=K6 up v (λa f=>XH ms s (up a f)) hs r p u q t o
theorem V8{i s:Nat}{x:Δ->Sem Unit}{l:Type}(up:Δ->l->Δ)
  (o:∀a c h,(ms a)[s]?=some h->ab w0 S h [] c.z c->X s a c->uY ops fl a i->∃f d,(x a).run P c=.ok () d∧(ms (up a f))[s+1]?=some (XH ms s (up a f))∧X (s+1) (up a f) d∧ab w0 S (XH ms s (up a f)) [] d.z d∧c.z<=d.z)
  (hs:cM Dt i=some s:=by kernel_rfl) (r:∀a,fl a i=true:=by intro _; kernel_rfl) (p:∀a,d8 (vs a) i=some undef:=by intro _; kernel_rfl)
  (u:∀a e b,b≠i->(∀g,pO ops i g=true->b ∉ g)->d8 (vs (up a e)) b=d8 (vs a) b∧fl (up a e) b=fl a b:=by intro _ _; exact yY v7 v7 v7)
  (q:∀a,eZ ops (slG ops (vs a) j (aM ops i)) i=some (bV ops i):=by intro _; kernel_rfl) (t:∀a,ex ops (slG ops (vs a) j (aM ops i)) i=some (XG (x a)):=by intro _; kernel_rfl) :
  i3 (wpOp P ops Q) D n ops j Dt J (λk:Nat×Δ=>k.1) (jq vs fl) (MY w0 S ms m X) i:=K7 up (λa e=>XH ms s (up a e)) hs r p u q t o
theorem W1{i:Nat}(B:Nat)(e:TypeId)(l:av)(up:Δ->Nat->Δ)(p:Nat->Value)
  (s:∀b a f o g,b<=B->(ms a)[b]?=some g->ab w0 S g [] f.z f->X b a f->au (ao g) f o->m<=f.z->A2 o f.z e l->X b (up a f.z) o)
  (hs:cM Dt i=none:=by kernel_rfl) (r:(Nat.beq B J||(List.range ops.size).any (λd=>eqO (cM Dt d) B&&(aM ops d).any (Nat.beq i)))=true:=by kernel_rfl) (u:∀a c,fl (up a c) i=true:=by intro _ _; kernel_rfl) (t:∀a c,d8 (vs (up a c)) i=some (p c):=by intro _ _; kernel_rfl)
  (w:∀a c d,d≠i->(∀l,pO ops i l=true->d ∉ l)->d8 (vs (up a c)) d=d8 (vs a) d∧fl (up a c) d=fl a d:=by intro _ _; exact yY v7 v7 v7)
  (he:∀a k,(List.range (B+1)).map (λb=>((ms a)[b]?).bind λg=>opG P ops ⟨slG ops (vs a) j (aM ops i),g,[],k⟩ i y2)=(List.range (B+1)).map (λb=>((ms a)[b]?).map λg=>([],aX [],p k,g++[⟨k,e,true,l⟩],k+1)):=by intro _ _; kernel_rfl)
  (v:∀a c,(List.range (B+1)).map (λb=>(ms (up a c))[b]?)=(List.range (B+1)).map (λb=>(ms a)[b]?):=by intro _ _; kernel_rfl) :
  i3 (wpOp P ops Q) D n ops j Dt J (λq:Nat×Δ=>q.1) (jq vs fl) (MY w0 S ms m X) i:=K4 (h:=y2) (ob:=λ_=>[]) (rs:=λ_=>[]) l up p hs (Vl r) u t w he (λ_=>trivial) v s
end
theorem d9{o:bi}{k:Nat}(h:o=some k):o≠none:=λa=>by rw[h]at a; cases a
theorem ab.Wc{w i c:World}{S:br}{bk:ax}{wn:List Wn}{o g:Nat}{t:TypeId}{cs:av}(hm:ab w S bk wn o i)(f:au (λj=>j=g) i c)(k:A2 c g t cs)(m:w.z<=g)(h:∀b∈bk,b.g≠g):ab w S (bk++[⟨g,t,true,cs⟩]) [] c.z c:=by
 refine⟨rfl,λb a=>?_,λb a n=>?_,?_,hm.x2.trans f (λs p r=>absurd p yq),λe d=>by cases d⟩
 ·rcases dG.1 a with a|a
  ·exact(hm.zq b a).x2 f (h b a)
  ·obtain rfl:=aG.1 a;exact k
 ·rcases dG.1 a with a|a
  ·exact hm.own b a n
  ·obtain rfl:=aG.1 a;exact .inr m
 ·rw[List.map_append,List.nodup_append];refine⟨hm.nd,z1,λq l b a=>?_⟩;obtain⟨e,d,rfl⟩:=aT.1 l;simp only[List.map_cons,List.map_nil,aG]at a;subst a;exact h e d
theorem Ny{P:Program}{body:Code}{w0:World}{S:br}{Q:Exit->Act->aI}{k:List KI}{st a:St}(h:a=st)(b:aF D P body n w0 S Q k a):aF D P body n w0 S Q k st:=h▸b
def rY{Δ:Type}(i B a b c g:Nat):fG Δ:=⟨i,B,oA a b c,λ_=>[],λ_=>[(g,b,c)]⟩
theorem TA(v a t:Nat):v+2*a*t=v+a*(2*t+0):=by rw[Nat.add_zero,Nat.mul_comm 2 a,Nat.mul_assoc]
theorem TB(v a t:Nat):v+a+2*a*t=v+a*(2*t+1):=by
 rw[Nat.mul_add,Nat.mul_one,Nat.mul_comm 2 a,Nat.mul_assoc];omega
theorem xC(x y:Nat):x^^^y=2*(x/2^^^y/2)+(if x%2=y%2 then 0 else 1):=by
 have c:(x^^^y)/2=x/2^^^y/2:=Nat.xor_div_two;have a:(x^^^y)%2=1↔¬(x%2=1↔y%2=1):=Nat.xor_mod_two_eq_one;rw[<-c];split
 ·have d:¬(x^^^y)%2=1:=λb=>(a.1 b) yq;omega
 ·have d:(x^^^y)%2=1:=a.2 yq;omega
theorem sQ{i x:Nat}(b:i<8)(h:x<2^(8-i)):x/2<2^(8-(i+1)):=by
 have a:8-i=(8-(i+1))+1:=by omega
 rw[a,Nat.pow_succ]at h;omega
theorem TC{i x y c v a b:Nat}(g:i<8)(hu:c=2^i)(j:x<2^(8-i))(k:y<2^(8-i))(h:v+c*(x^^^y)=a^^^b)(l:a^^^b<2^8):0<c∧c<=128∧x<256∧y<256∧v<256:=by
 have d:2^i<=2^7:=Nat.pow_le_pow_right (by decide) yq;have e:2^(8-i)<=2^8:=Nat.pow_le_pow_right (by decide) yq;have f:0<2^i:=Nat.pow_pos (by decide);omega
def VR(a b:Nat)(w:World)(m:Nat)(st:St):Prop:=∃(c e f d g h:Nat),m+c=8∧w.z<=h∧g+d*(e^^^f)=a^^^b∧d=2^c∧e<2^(8-c)∧f<2^(8-c)∧st=⟨[(4,u6 0),(5,i6 (g:Int)),(6,i6 (d:Int)),(7,i6 (e:Int)),(8,i6 (f:Int)),(9,i6 (c:Int))],[],[],h⟩
theorem Rn(a b:Nat)(t:a<2^8)(u:b<2^8)(w:World):aC 103 #[.int .u8 (a:Int),.int .u8 (b:Int)] w (bf (.int .u8 ((a^^^b:Nat):Int)) w):=by
 refine cH (S:=z8) (n:=34) Tryz.func103 (ab.none w _) ?_;refine Aq 33 (dz 10 537001984) [4,5,6,7,8,9] [JL ((a:Int)),JL ((b:Int))] [] [y6 506,.zq 0,y6 127] ⟨[(4,u6 0),(5,i6 0),(6,i6 1),(7,i6 (a:Int)),(8,i6 (b:Int)),(9,i6 0)],[],[],w.z⟩ ?_;refine ge (VR a b w) 8 v7 ⟨0,a,b,1,0,_,rfl,bT _,yq,rfl,t,u,rfl⟩ ?_;rintro q _ ⟨e,c,d,f,g,h,G,v,m,o,k,l,rfl⟩ p s;have C:=Nat.xor_lt_two_pow t u;by_cases i:e<8
 rotate_left
 ·skip;have y:e=8:=by omega
  rw[y]at k l;have B:c=0:=by simp at k;omega
  have D:d=0:=by simp at l;omega
  subst B D;have z:g=a^^^b:=by simpa using m
  have A:g<256:=by omega
  refine z6 17 (dz 6 131072) [4] [dF (((e:Int):Int)<8),n8 ((g:Int))] [] [y6 255] [] [] h ?_;refine B1 [] [u6 (g:Int)] [] ?_;intro E x;exact⟨by rw[z];rfl,x.x2⟩
 obtain⟨F,H,I,J,A⟩:=TC i o k l m C;by_cases r:c%2=d%2
 ·skip;refine Aq 47 (dz 21 0x20020020020002020100) [4,5,6,7,8,9] [dT (((e:Int):Int)<8),oE ((0:Int)<=(c:Int)∧(0:Int)<2),oE ((0:Int)<=(d:Int)∧(0:Int)<2),oE ((((c:Int)%2)!=((d:Int)%2))=false) (c8.2 yq),oE ((0:Int)<=(c:Int)∧(0:Int)<2∧(c:Int)<=IntKind.max .i64) (⟨yq,yq,ky yq⟩),oE ((0:Int)<=(d:Int)∧(0:Int)<2∧(d:Int)<=IntKind.max .i64) (⟨yq,yq,ky yq⟩),JL (2*(f:Int)),JL ((e:Int)+1)] [] [.inv p,.zq 0,y6 127] ⟨[(4,u6 0),(5,i6 (g:Int)),(6,i6 (2*(f:Int))),(7,i6 ((c:Int)/2)),(8,i6 ((d:Int)/2)),(9,i6 ((e:Int)+1))],[],[],h⟩ ?_;exact s (q-1) _ yq ⟨e+1,c/2,d/2,2*f,g,h,yq,v,by have j:=xC c d;rw[aA r]at j;rw[<-m,j];exact TA _ _ _,by rw[o,Nat.pow_succ,Nat.mul_comm],sQ i k,sQ i l,rfl⟩
 ·skip;refine Aq 52 (dz 25 0x200200200200200102020100) [4,5,6,7,8,9] [dT (((e:Int):Int)<8),oE ((0:Int)<=(c:Int)∧(0:Int)<2),oE ((0:Int)<=(d:Int)∧(0:Int)<2),oE ((((c:Int)%2)!=((d:Int)%2))=true) (bne_iff_ne.2 yq),JL ((g:Int)+(f:Int)),oE ((0:Int)<=(c:Int)∧(0:Int)<2∧(c:Int)<=IntKind.max .i64) (⟨yq,yq,ky yq⟩),oE ((0:Int)<=(d:Int)∧(0:Int)<2∧(d:Int)<=IntKind.max .i64) (⟨yq,yq,ky yq⟩),JL (2*(f:Int)),JL ((e:Int)+1)] [] [.inv p,.zq 0,y6 127] ⟨[(4,u6 0),(5,i6 ((g:Int)+(f:Int))),(6,i6 (2*(f:Int))),(7,i6 ((c:Int)/2)),(8,i6 ((d:Int)/2)),(9,i6 ((e:Int)+1))],[],[],h⟩ ?_;exact s (q-1) _ yq ⟨e+1,c/2,d/2,2*f,g+f,h,yq,v,by have j:=xC c d;rw[ay r]at j;rw[<-m,j];exact TB _ _ _,by rw[o,Nat.pow_succ,Nat.mul_comm],sQ i k,sQ i l,rfl⟩
theorem QP(a b:Int)(f:0<=a∧a<=255)(g:0<=b∧b<=255)(w:World):aC 103 #[.int .u8 (a),.int .u8 (b)] w (bf (.int .u8 (jo (a) (b))) w):=by
 obtain⟨d,rfl⟩:=Int.eq_ofNat_of_zero_le f.1;obtain⟨c,rfl⟩:=Int.eq_ofNat_of_zero_le g.1;have e:=Rn d c yq yq w;rw[show jo (d:Int) (c:Int)=((d^^^c:Nat):Int)by unfold jo;rw[cJ,cJ]];exact e
def V4(a:ByteArray)(b:ByteArray)(c:Nat)(w:World)  (m:Nat) (st:St) (e:World):Prop:=
 ∃(d:Nat)(z:Nat),m+d=16∧FB e w.z 5 (kt d (aK a) (aK b))∧st=⟨[(0,sT a),(1,sT b),(4,sT ⟨#[]⟩),(5,i6 0),(6,yt (ae w.z) 16 c),(7,i6 (d:Int))],[],[],z⟩
theorem U0(a:ByteArray)(b:ByteArray)(j:Nat)(c:Nat)(w:World)(d:World):Out.prune [0,1,4,5,6,7,29,30] (fp prog 33 d (ao []) ((aj (aa (al f74) (Ac 1956))).toList.take 10) ⟨[(0,sT a),(1,sT b),(4,sT ⟨#[]⟩),(5,i6 0),(6,yt (ae w.z) 16 c),(7,i6 (j:Int))],[],[],d.z⟩ [.op y2,.op y2,.op y2,.op y2,.op HA,.op y2,.op y2,.op HA,.call (u6 (jo (ee a (Int.toNat (j:Int))) (ee b (Int.toNat (j:Int))))),.op HA])=some ⟨[(0:Int)<=(j:Int)∧(j:Int)<((a).size:Int),(0:Int)<=(j:Int)∧(j:Int)<((b).size:Int),∀e,fU d (ao []) [] [] d.z e->aC 103 #[u6 (ee a (Int.toNat (j:Int))),u6 (ee b (Int.toNat (j:Int)))] e (bf (u6 (jo (ee a (Int.toNat (j:Int))) (ee b (Int.toNat (j:Int))))) e),(0:Int)<=(j:Int)∧(j:Int)<((16:Nat):Int)],aX [],⟨[(0,sT a),(1,sT b),(4,sT ⟨#[]⟩),(5,i6 0),(6,yt (ae w.z) 16 c),(7,i6 (j:Int)),(29,u6 (jo (ee a (Int.toNat (j:Int))) (ee b (Int.toNat (j:Int))))),(30,pt w.z (0+j*1))],[],[],d.z⟩⟩:=v7
theorem Re(a b:ByteArray)(t:a.size=16)(D:b.size=16)(w:World):aC 74 #[sT a,sT b] w (bf (.tuple #[sT (bX (fQ (aK a) (aK b))),i6 0]) w):=by
 refine cH (S:=z8) (n:=33) func74 (ab.none w _) ?_;have k:(aK a).length=16:=by rw[dr,t]
 have l:(aK b).length=16:=by rw[dr,D]
 refine Aq 22 (dz 9 0) [0,1,4,5,13] [oE (((a.size:Int)!=(b.size:Int))=false) (c8.2 yq)] [] [.ops (Ac 14) [1,2],y6 15] ⟨[(0,sT a),(1,sT b),(4,sT ⟨#[]⟩),(5,i6 0),(13,sT a)],[],[],w.z⟩ ?_;refine qI (w:=w) (S':=λ_=>False) (dst:=some 14) (x:=convert 9 34 (sT a)) (λe=>yt (ae w.z) 16 e) (λ_ z=>FB z w.z 5 (aK a)) (λe=>[(14,yt (ae w.z) 16 e),(0,sT a),(1,sT b),(4,sT ⟨#[]⟩),(5,i6 0),(13,sT a)]) v7 v7 (λ_=>rfl) (λh d=>?_) (λe A L R=>?_)
 ·obtain⟨e,p,s,m,C⟩:=pR (P:=prog) h 9 34 5 a v7 v7 v7;rw[d.size,t]at s;rw[d.size]at m;exact⟨e,p,s,m,(d.same C).2⟩
 refine Aq 11 (dz 2 0) [0,1,4,5,6,7] [] [] [y6 122,.zq 0,y6 31] ⟨[(0,sT a),(1,sT b),(4,sT ⟨#[]⟩),(5,i6 0),(6,.slice (ae w.z) 16 e),(7,i6 0)],[],[],A.z⟩ ?_;refine bm (w:=w) (S':=λ_=>False) (V4 a b e w) 16 v7 (λX d=>⟨⟨0,_,rfl,by rw[yj];exact L.x2 d.x2 (λ⟨_,g,_⟩=>by cases g),rfl⟩,ab.A0 R d⟩) ?_;rintro G _ j ⟨c,W,Z,q,rfl⟩ v r N;by_cases m:c<16
 rotate_left
 ·skip;refine Aq 16 (dz 6 0) [4,5,31] [dF (((c:Int):Int)<16)] [] [.ops (Ac 62) [1,2,3],y6 63] ⟨[(4,sT ⟨#[]⟩),(5,i6 0),(31,yt (ae w.z) 16 e)],[],[],j.z⟩ ?_;have U:c=16:=by omega
  subst U;rw[EB k l]at q;refine fy (dst:=some 32) (x:=convert 34 9 (yt (ae w.z) 16 e)) (sT (bX (fQ (aK a) (aK b)))) v7 v7 rfl (λh d=>?_) ?_
  ·exact sh (P:=prog) h 34 9 5 _ _ _ 5 _ v7 v7 v7 (q.x2 d.x2 (λ⟨_,g,_⟩=>by cases g)) (by rw[iZ (k.trans l.symm),k]) (kL (dY a) (dY b))
  refine z6 6 (dz 2 0) [4,5] [] [] [y6 63] [] [] j.z ?_;refine B1 [] [sT (bX (fQ (aK a) (aK b))),i6 0] [] ?_;intro h d;exact⟨rfl,(ab.A0 v d).x2⟩
 have O:=qS a (Int.toNat (c:Int));have Q:=qS b (Int.toNat (c:Int));refine Aq 15 (dz 5 65536) [0,1,4,5,6,7] [dT (((c:Int):Int)<16)] [] [y6 1956,.zq 1,y6 979,.inv r,.zq 0,y6 31] ⟨[(0,sT a),(1,sT b),(4,sT ⟨#[]⟩),(5,i6 0),(6,yt (ae w.z) 16 e),(7,i6 (c:Int))],[],[],j.z⟩ ?_;refine eT (f:=1) (ls:=bA 11 1023) 10 _ _ v7 v7 v7 v7 (U0 a b c e w j) ⟨⟨yq,yq⟩,⟨yq,yq⟩,(λh d=>QP _ _ O Q h),⟨yq,yq⟩,trivial⟩ λK y=>?_;replace y:j.z<=K:=y;refine oK (i:=10) (w:=w) (S':=λ_=>False) (ls':=bA 11 2047) (x:=Instr.storeAt 5 (pt w.z (0+c*1)) (.int .u8 (jo (ee a (Int.toNat (c:Int))) (ee b (Int.toNat (c:Int)))))) (λo=>FB o w.z 5 (kt (c+1) (aK a) (aK b))) v7 v7 v7 v7 (λh d=>?_) (λo M T=>?_)
 ·obtain⟨p,H,u,I,Y⟩:=u9 (P:=prog) h 5 w.z (0+c*1) 5 (kt c (aK a) (aK b)) (jo (ee a (Int.toNat (c:Int))) (ee b (Int.toNat (c:Int)))) v7 (q.x2 d.x2 (λ⟨_,g,_⟩=>by cases g)) (by rw[EC k l yq];omega);rw[show(kt c (aK a) (aK b)).set (0+c*1) (jo (ee a (Int.toNat (c:Int))) (ee b (Int.toNat (c:Int))))=kt (c+1) (aK a) (aK b)from by rw[bG,Nat.mul_one,cJ,qR,qR];exact ED k l m]at u;exact⟨p,H,u,(ab.A0 v d).A3 (λ_ g=>g) I (λV F=>.inr (bC F.symm)) (λ_ g=>by cases g)⟩
 refine cd v7 ?_;refine Aq 9 (dz 3 32) [0,1,4,5,6,7] [JL ((c:Int)+1)] [] [.inv r,.zq 0,y6 31] ⟨[(0,sT a),(1,sT b),(4,sT ⟨#[]⟩),(5,i6 0),(6,yt (ae w.z) 16 e),(7,i6 ((c:Int)+1))],[],[],o.z⟩ ?_;rw[<-aW c];intro B J E d;exact N (G-1) _ B J yq ⟨c+1,_,yq,M.x2 d.x2 (λ⟨_,g,_⟩=>by cases g),rfl⟩ E (ab.A0 T d)
def kw:ct->ByteArray
 |[]=>⟨#[]⟩
 |b::a=>a.foldl iE b
theorem Mx{L:ct}{t:ByteArray}(h:L[0]?=some t):kw (L.take 1)=t:=by
 cases L with
 |nil=>cases h
 |cons b a=>cases h;rfl
theorem fW{a b:ByteArray}(c:a.size=16)(d:b.size=16):(iE a b).size=16:=by
 rw[iE,rV,iZ (by rw[dr,dr,c,d]),dr,c]
theorem ow{R:ct}(d:∀b∈R,b.size=16):∀{c:ByteArray},c.size=16->(R.foldl iE c).size=16:=by
 induction R with
 |nil=>exact λa=>a
 |cons b R g=>exact λa=>g (λe f=>d e (cz _ f)) (fW a (d b A4))
theorem qF{L:ct}(a:∀c∈L,c.size=16)(h:1<=L.length):(kw L).size=16:=by
 cases L with
 |nil=>simp at h
 |cons b f=>exact ow (λd e=>a d (cz _ e)) (a b A4)
theorem Kv{L:ct}{i:Nat}{t:ByteArray}(e:1<=i)(h:L[i]?=some t):kw (L.take (i+1))=iE (kw (L.take i)) t:=by
 cases L with
 |nil=>cases h
 |cons c b=>
  obtain⟨a,rfl⟩:∃a,i=a+1:=⟨i-1,yq⟩;have d:b[a]?=some t:=h;show(b.take (a+1)).foldl iE c=iE ((b.take a).foldl iE c) t;rw[List.take_add_one,d,List.foldl_append];rfl
def Vb(L:ct)(b:Nat)(cp:Nat)(w:World)  (m:Nat) (st:St) (a:World):Prop:=
 ∃(i:Nat)(z:Nat),m+i=L.length∧1<=i∧w.z<=a.z∧st=⟨[(0,yt (ae b) L.length cp),(2,sT ⟨#[]⟩),(3,i6 0),(4,sT (kw (L.take i))),(5,i6 0),(6,i6 (i:Int))],[],[],z⟩
theorem Rc(L:ct)(p:∀b∈L,b.size=16)(I:1<=L.length∧L.length<=100)(c cp:Nat)(w:World)(l:c<w.z)(q:∀(g:Nat)(h:Value),(ba L)[g]?=some h->w.cell? ⟨c,0+g,none⟩=some h):aC 43 #[yt (ae c) L.length cp] w (bf (.tuple #[sT (kw L),i6 0]) w):=by
 refine cH (S:=z8) (n:=34) Tryz.func43 (ab.none w _) ?_;obtain⟨b,f⟩:∃b,L[0]?=some b:=⟨_,cx yq⟩;refine aD [⟨c,0+0*1,[sT b]⟩] (λ_ u i=>?_) ?_
 ·simp only[bj,cv,or_false]at i;subst i;exact⟨(λd=>d),l,λg h k=>ju q f g h k⟩
 refine Aq 34 [y2,y2,y2,y2,y2,y2,y2,HA,⟨false,0,[⟨true,0,0,1⟩]⟩,y2,y2,y2] [0,2,3,4,5,6] [oE ((((L.length:Nat):Int)==0)=false) (cw.2 yq),oE ((0:Int)<=0∧0<((L.length:Nat):Int))] [(c,0,1)] [y6 250,.zq 0,y6 63] ⟨[(0,.slice (ae c) L.length cp),(2,sT ⟨#[]⟩),(3,i6 0),(4,sT b),(5,i6 0),(6,i6 1)],[],[⟨c,0,[sT b]⟩],w.z⟩ ?_;refine aD [] (λ_ _ d=>by cases d) ?_;refine bm (w:=w) (S':=λ_=>False) (Vb L c cp w) (L.length-1) v7 (λH e=>⟨⟨1,_,yq,yq,e.x2.size,by rw[Mx f];rfl⟩,e.wide (λ_ d=>d)⟩) ?_;rintro s _ o ⟨a,G,J,D,E,rfl⟩ j m y;by_cases x:a<L.length
 rotate_left
 ·skip;refine z6 24 (dz 13 1073741824) [2,3] (rE 3 (dF (((a:Int):Int)<((L.length:Nat):Int)))++[fF]) [] [y6 127] [] [] o.z ?_;refine B1 [] [sT (kw (L.take a)),i6 0] [] ?_;intro r e;refine⟨?_,(ab.A0 j e).x2⟩;rw[eX yq];rfl
 clear f b;obtain⟨b,f⟩:∃b,L[a]?=some b:=⟨_,cx x⟩;have F:=p b (aS f);refine aD [⟨c,0+a*1,[sT b]⟩] (λ_ u i=>?_) ?_
 ·simp only[bj,cv,or_false]at i;subst i;exact⟨(λ⟨_,d,_⟩=>by cases d),cD l j.x2.size,λg h k=>dl j.x2 l (ju q f g h k)⟩
 refine z6 25 [y2,y2,y2,y2,y2,FN,FN,WG,FN,y2,y2,y2,HA,⟨false,0,[⟨true,0,0,1⟩]⟩] [0,2,3,4,5,6,24,28] (rE 3 (dT (((a:Int):Int)<((L.length:Nat):Int)))++[tT,oE ((0:Int)<=(a:Int)∧(a:Int)<((L.length:Nat):Int))]) [(c,0+a*1,1)] [.ops (Ac 4004) [5,6,7,8,9,10],.zq 1,y6 2003,.inv m,.zq 0,y6 63] [] [⟨c,0+a*1,[sT b]⟩] o.z ?_;refine DV (.tuple #[sT (iE (kw (L.take a)) b),i6 0]) 74 [sT (kw (L.take a)),sT b] (some 29) [] tI rfl (λr e=>Re _ _ (qF (λt A=>p t (List.mem_of_mem_take A)) (by rw[dZ];omega)) F r) λC K=>?_;refine aD [] (λ_ _ d=>by cases d) ?_;refine Aq 15 (dz 8 33554432) [0,2,3,4,5,6] [JL ((a:Int)+1)] [] [.inv m,.zq 0,y6 63] ⟨[(0,yt (ae c) L.length cp),(2,sT ⟨#[]⟩),(3,i6 0),(4,sT (iE (kw (L.take a)) b)),(5,i6 0),(6,i6 ((a:Int)+1))],[],[],C⟩ ?_;rw[<-aW a];intro v B z e;exact y (s-1) _ v B yq ⟨a+1,_,yq,yq,az E e.x2.size,by rw[Kv D f]⟩ z (ab.A0 j e)
structure jI where
  has:Bool
  (ep ou sq sc:Int)
def jI.cells(l:jI):av:=[bO_ l.has,.int .i64 l.ep,.int .i64 l.ou,.int .i64 l.sq,.int .i64 l.sc]
def zJ:jI:=⟨false,0,0,0,0⟩
structure am where
  lb:Nat
  (N S:Int)
  cb:Nat
  lv:Nat->jI
  busy:Bool
  (kd at_:Int)
  da:ByteArray
  (sn cn:Int)
  nx:Value
  lg:Bool
  (en ep ou:Int)
  db:Bool
  (te ts:Int)
  (kn rc:Value)
  Wh:Bool
  (rd wr:Value)
  bl:Nat->ByteArray
  (ud ak:Value)
  er:Int
  dt:ByteArray
  ed:Int
def am.cells(x:am):av:=
  [.int .i64 x.N,.int .i64 x.S,pt x.cb 0,
   bO_ (x.lv 0).has,.int .i64 (x.lv 0).ep,.int .i64 (x.lv 0).ou,.int .i64 (x.lv 0).sq,.int .i64 (x.lv 0).sc,
   bO_ (x.lv 1).has,.int .i64 (x.lv 1).ep,.int .i64 (x.lv 1).ou,.int .i64 (x.lv 1).sq,.int .i64 (x.lv 1).sc,
   bO_ (x.lv 2).has,.int .i64 (x.lv 2).ep,.int .i64 (x.lv 2).ou,.int .i64 (x.lv 2).sq,.int .i64 (x.lv 2).sc,
   bO_ (x.lv 3).has,.int .i64 (x.lv 3).ep,.int .i64 (x.lv 3).ou,.int .i64 (x.lv 3).sq,.int .i64 (x.lv 3).sc,
   bO_ (x.lv 4).has,.int .i64 (x.lv 4).ep,.int .i64 (x.lv 4).ou,.int .i64 (x.lv 4).sq,.int .i64 (x.lv 4).sc,
   bO_ (x.lv 5).has,.int .i64 (x.lv 5).ep,.int .i64 (x.lv 5).ou,.int .i64 (x.lv 5).sq,.int .i64 (x.lv 5).sc,
   bO_ (x.lv 6).has,.int .i64 (x.lv 6).ep,.int .i64 (x.lv 6).ou,.int .i64 (x.lv 6).sq,.int .i64 (x.lv 6).sc,
   bO_ (x.lv 7).has,.int .i64 (x.lv 7).ep,.int .i64 (x.lv 7).ou,.int .i64 (x.lv 7).sq,.int .i64 (x.lv 7).sc,
   bO_ x.busy,.int .i64 x.kd,.int .i64 x.at_,.string x.da,.int .i64 x.sn,.int .i64 x.cn,x.nx,bO_ x.lg,.int .i64 x.en,.int .i64 x.ep,.int .i64 x.ou,bO_ x.db,.int .i64 x.te,.int .i64 x.ts,
   x.kn,x.rc,bO_ x.Wh,x.rd,x.wr,.string (x.bl 0),.string (x.bl 1),.string (x.bl 2),.string (x.bl 3),.string (x.bl 4),.string (x.bl 5),x.ud,x.ak,.int .i64 x.er,.string x.dt,.int .i64 x.ed]
def am.YP(x:am)(i:Nat)(l:jI):am:={x with lv:=λa=>if a=i then l else x.lv a}
def am.YQ(x:am)(i:Nat)(s:ByteArray):am:={x with bl:=λa=>if a=i then s else x.bl a}
variable {i n z g o v8:Nat}{v:Value}{P:Program}{w:World}{cs:av}(x:am)(c:CM)
theorem iP(a:i<8){j:Nat}(h:(x.lv i).cells[j]?=some v):x.cells[3+i*5+j]?=some v:=by
  have b:j<5:=(cF.1 h).1
  match i,a,j,b,h with
  |0,_,0,_,h|0,_,1,_,h|0,_,2,_,h|0,_,3,_,h|0,_,4,_,h=>exact h
  |1,_,0,_,h|1,_,1,_,h|1,_,2,_,h|1,_,3,_,h|1,_,4,_,h=>exact h
  |2,_,0,_,h|2,_,1,_,h|2,_,2,_,h|2,_,3,_,h|2,_,4,_,h=>exact h
  |3,_,0,_,h|3,_,1,_,h|3,_,2,_,h|3,_,3,_,h|3,_,4,_,h=>exact h
  |4,_,0,_,h|4,_,1,_,h|4,_,2,_,h|4,_,3,_,h|4,_,4,_,h=>exact h
  |5,_,0,_,h|5,_,1,_,h|5,_,2,_,h|5,_,3,_,h|5,_,4,_,h=>exact h
  |6,_,0,_,h|6,_,1,_,h|6,_,2,_,h|6,_,3,_,h|6,_,4,_,h=>exact h
  |7,_,0,_,h|7,_,1,_,h|7,_,2,_,h|7,_,3,_,h|7,_,4,_,h=>exact h
theorem D8(a:i<8)(l:jI):x.cells.take (3+i*5)++l.cells++x.cells.drop (3+i*5+5)=(x.YP i l).cells:=by
  match i,a with
  |0,_|1,_|2,_|3,_|4,_|5,_|6,_|7,_=>rfl
theorem x8(b:i<8)(n:Int):x.cells.take (3+i*5+3)++[.int .i64 n]++x.cells.drop (3+i*5+3+1)=({x with lv:=λa=>if a=i then{ x.lv i with sq:=n}else x.lv a}:am).cells:=by
  match i,b with
  |0,_|1,_|2,_|3,_|4,_|5,_|6,_|7,_=>rfl
theorem LU(a:i<6):x.cells[62+i]?=some (.string (x.bl i)):=by
  match i,a with
  |0,_|1,_|2,_|3,_|4,_|5,_=>rfl
theorem OL(a:i<6)(s:ByteArray):x.cells.take (62+i)++[.string s]++x.cells.drop (62+i+1)=(x.YQ i s).cells:=by
  match i,a with
  |0,_|1,_|2,_|3,_|4,_|5,_=>rfl
theorem oF(w:World)(t e:TypeId)(a:Value)(z n b:Nat)(cs:av)(q:P.underlying t=some (.slice e))(m:(P.info? e).map (λi=>(i.zero,i.size,i.bytes))=some (some a,z,b))(l:(madeCells a.cells (n*z)).toList=cs)(g:cs.length=n*z)(k:b<=1000)(o:n<=1000) :
    ∃c,(Instr.makeSlice t (.int .i64 (n:Int)) (.int .i64 (n:Int))).run P w=.ok (yt (ae w.z) n n) c∧ah c w.z e z (ae w.z) n n cs∧au z8 w c:=by
  obtain⟨y,x,h⟩:=gv.1 m;simp only[bw]at h;obtain⟨s,p,v⟩:=h;have u:b*n<=1000*1000:=Nat.mul_le_mul k o;have d:=run_make (P:=P) w t e y a q x s .i64 .i64 (n:Int) (n:Int) yq (cS _) (by rw[v];have j:((b*n:Nat):Int)<=((1000*1000:Nat):Int):=Int.ofNat_le.2 u;rw[Int.natCast_mul]at j;omega) yq;simp only[cJ,p]at d;refine⟨_,d,?_,(au.refl _ w).alloc _⟩;have f:=A2.new w e (madeCells a.cells (n*z)).toList;rw[Array.toArray_toList,l]at f;exact jn (r:=[]) (bT _) (by rw[dD];exact f) (bT _) (by simp only[maxLen];omega) g (by rw[dD];exact g)
theorem cG{t:TypeId}{b:TypeId}{cs':av}(hs:(P.info? t).map (·.size)=some n)(c:A2 w g b cs)(e:v.cells.size=n)(hle:o+n<=cs.length)(f:∀d∈v.cells.toList,d.oneCell'=true)(he:cs.take o++v.cells.toList++cs.drop (o+n)=cs') :
    ∃a,(Instr.storeAt t (pt g o) v).run P w=.ok () a∧A2 a g b cs'∧au (λx=>x=g) w a∧a.z=w.z:=by
  subst he e;exact⟨_,jB w t g o b cs v hs c hle f,gZ c _,f9 w g _,iY _ _ _⟩
theorem tq{e:TypeId}(h:ah w v8 e z (ae g) 1 1 cs):A2 w g e cs:=by
  have k:=h.len;rcases h.zq with⟨a,_⟩|⟨f,b,a,i,c,l,j,d⟩
  · cases a
  · cases a
    have:b=[]:=by
      rw[bM]at d;exact List.length_eq_zero_iff.1 yq
    subst this;simpa using c
theorem Ab{e:TypeId}(a:v8<=g)(h:A2 w g e cs)(b:cs.length=z):ah w v8 e z (ae g) 1 1 cs:=
  jn (r:=[]) a (by rw[dD];exact h) (bT _) (by simp only[maxLen];omega) yq (by rw[dD];omega)
theorem gG:∀a,dg (ae g) a->a=g:=λ_ ⟨_,c,b⟩=>by cases c;exact b
def jr(st mk e s:Int)(P:Value)(a:Bool):av:=[.int .i64 st,.int .i64 mk,.int .i64 e,.int .i64 s,P,bO_ a,bO_ false]
def ez(b:Bool):av:=[bO_ b]
theorem it{e:TypeId}{cp:Nat}(h:ah w v8 e z (ae g) n cp cs){j:Nat}(c:cs[j]?=some v):w.cell? ⟨g,j,none⟩=some v:=by
  obtain⟨d,a,_,_,b⟩:=h.cell c;cases a;exact b
def fI:aZ:=⟨false,0,0,0,⟨#[]⟩,false,0,0,0,⟨#[]⟩⟩
theorem Ef:(madeCells (Value.bool false).cells (3*1)).toList=ai ez (List.replicate 3 false):=v7
theorem Eg:(madeCells (Value.bool false).cells (4*1)).toList=ai ez (List.replicate 4 false):=v7
theorem Eh:(madeCells (Value.bool false).cells (5*1)).toList=ai ez (List.replicate 5 false):=v7
theorem Ei:(madeCells (Value.bool false).cells (6*1)).toList=ai ez (List.replicate 6 false):=v7
theorem Gt(a:3<=n)(h:n<=6):(madeCells (Value.bool false).cells (n*1)).toList=ai ez (List.replicate n false):=by
  match n,a,h with
  |3,_,_=>exact Ef
  |4,_,_=>exact Eg
  |5,_,_=>exact Eh
  |6,_,_=>exact Ei
theorem GF:(madeCells (Value.agg #[bO_ false,.int .i64 0,.int .i64 0,.int .i64 0,.string ⟨#[]⟩,bO_ false,.int .i64 0,.int .i64 0,.int .i64 0,.string ⟨#[]⟩]).cells (3*10)).toList=ai aZ.cells (List.replicate 3 fI):=v7
theorem GG:(madeCells (Value.agg #[bO_ false,.int .i64 0,.int .i64 0,.int .i64 0,.string ⟨#[]⟩,bO_ false,.int .i64 0,.int .i64 0,.int .i64 0,.string ⟨#[]⟩]).cells (4*10)).toList=ai aZ.cells (List.replicate 4 fI):=v7
theorem GH:(madeCells (Value.agg #[bO_ false,.int .i64 0,.int .i64 0,.int .i64 0,.string ⟨#[]⟩,bO_ false,.int .i64 0,.int .i64 0,.int .i64 0,.string ⟨#[]⟩]).cells (5*10)).toList=ai aZ.cells (List.replicate 5 fI):=v7
theorem GI:(madeCells (Value.agg #[bO_ false,.int .i64 0,.int .i64 0,.int .i64 0,.string ⟨#[]⟩,bO_ false,.int .i64 0,.int .i64 0,.int .i64 0,.string ⟨#[]⟩]).cells (6*10)).toList=ai aZ.cells (List.replicate 6 fI):=v7
theorem L2(a:3<=n)(h:n<=6):(madeCells (Value.agg #[bO_ false,.int .i64 0,.int .i64 0,.int .i64 0,.string ⟨#[]⟩,bO_ false,.int .i64 0,.int .i64 0,.int .i64 0,.string ⟨#[]⟩]).cells (n*10)).toList=ai aZ.cells (List.replicate n fI):=by
  match n,a,h with
  |3,_,_=>exact GF
  |4,_,_=>exact GG
  |5,_,_=>exact GH
  |6,_,_=>exact GI
theorem x9{α:Type}{f:α->av}{a:α}(h:(f a).length=z):(ai f (List.replicate n a)).length=n*z:=by
  simp[ai,h]
def eC(sn e:Int):ck:=⟨1,sn,e,0,0,0,0,0,⟨#[]⟩⟩
def bc(t:Int):Int->List (Int×ck)->List ar
  |_,[]=>[]
  |last,(a,b)::c=>⟨a,last+1,b,t,t⟩::bc t (last+1) c
theorem o6(t:Int):∀(P:List (Int×ck))(a b:Int)(c:ck),bc t a (P++[(b,c)])=bc t a P++[⟨b,a+(P.length:Int)+1,c,t,t⟩]
  |[],a,b,c=>by simp[bc]
  |(e,f)::d,a,b,c=>by
    simp only[List.cons_append,bc,o6 t d,List.length_cons]
    congr 4
    omega
theorem dL(t:Int):∀(P:List (Int×ck))(last:Int),(bc t last P).length=P.length
  |[],_=>rfl
  |(_,_)::a,last=>by simp[bc,dL t a]
def HX(c:CM)(t:Int)(P:List (Int×ck)):CM:=⟨c.Ar,c.last+(P.length:Int),bc t c.last P⟩
theorem Aa(t:Int):{c with zL:=[]}=HX c t []:=by simp[HX,bc]
theorem kZ{ya:Int}(P:List (Int×ck))(p:Int)(q:ck)(h:0<=ya∧ya<=1099511627776):d6 (HX c ya P) ya p q=HX c ya (P++[(p,q)]):=by
  rw[HX,Vo (eH h),HX,o6];simp only[CM.mk.injEq,bM,List.length_singleton,and_true,true_and];omega
theorem k7{ya:Int}(P:List (Int×ck))(p:Int)(q:ck)(L:List ar)(h:0<=ya∧ya<=1099511627776):(L++bc ya c.last P)++[⟨p,(HX c ya P).last+1,q,af ya,af ya⟩]=L++bc ya c.last (P++[(p,q)]):=by
  rw[o6,eH h,eA,HX]
def dV(k sn e:Int):ck:=⟨k,sn,e,0,0,0,0,0,⟨#[]⟩⟩
def aQ(k N sn e:Int)(R:bB):List (Int×ck):=R.map λc=>((c+sn)%N,dV k sn e)
theorem lS{k N sn e:Int}{R:bB}{x:Int}(h:R[i]?=some x):aQ k N sn e (R.take (i+1))=aQ k N sn e (R.take i)++[((x+sn)%N,dV k sn e)]:=by
  rw[List.take_add_one,h];simp[aQ]
theorem eJ(k N sn e:Int)(R:bB):(aQ k N sn e R).length=R.length:=by simp[aQ]
def Wo(f:Nat->jI)(i:Nat)(l:jI):Nat->jI:=λa=>if a=i then l else f a
def Ym(f:Nat->ByteArray)(i:Nat)(s:ByteArray):Nat->ByteArray:=λa=>if a=i then s else f a
theorem IC(w:World)(t:TypeId)(v:Value):∃a,(Instr.box t v).run P w=.ok (pt w.z 0) a∧A2 a w.z t v.cells.toList∧au z8 w a∧w.z<=a.z:=
  ⟨w.alloc (.cells v.cells t),rfl,by have b:=A2.new w t v.cells.toList;rwa [Array.toArray_toList]at b,(au.refl _ w).alloc _,z1⟩
def SG(P:Program)(t:TypeId):Bool:=match P.underlying t with|some (.struct _)=>true|_=>false
theorem xA(w:World)(t:TypeId)(g o:Nat)(l:TypeId)(cs vs:av)(b:SG P t=true)(hs:(P.info? t).map (·.size)=some vs.length)(e:A2 w g l cs)(j:∀a v,vs[a]?=some v->cs[o+a]?=some v) :
    (Instr.loadAt t (pt g o)).run P w=.ok (.agg vs.toArray) w:=by
  obtain⟨m,f,k⟩:=gv.1 hs;have c:=run_loadCells_list (P:=P) (w:=w) ⟨g,o,none⟩ vs (λa v h=>by
    rw[bY];exact(e.cell _).trans (j a v h))
  have d:(isAgg t).run P w=.ok true w:=by
    unfold SG at b;split at b
    · rename_i i
      simp[isAgg,run_underlying i]
    · cases b
  simp[Instr.loadAt,Instr.sureAddr,loadVar,d,sizeOf,typeInfo,f,k,c]
def onB(P:Program)(t:TypeId):Bool:=match P.underlying t with|some (.struct _)=>false|some (.array _ _)=>false|some _=>true|none=>false
theorem gx{t:TypeId}(a:onB P t=true)(h:w.cell? ⟨g,o,none⟩=some v):(Instr.loadAt t (pt g o)).run P w=.ok v w:=by
  have b:(isAgg t).run P w=.ok false w:=by
    unfold onB at a;split at a
    · cases a
    · cases a
    · rename_i d e b c
      simp only[isAgg,Sem.run_bind,run_underlying c,dS];rfl
    · cases a
  simp[Instr.loadAt,Instr.sureAddr,loadVar,b,h]
theorem uH{t:TypeId}{vs:av}(b:SG P t=true)(hs:(P.info? t).map (·.size)=some vs.length)(i:∀a v,vs[a]?=some v->w.cell? ⟨g,o+a,none⟩=some v) :
    (Instr.loadAt t (pt g o)).run P w=.ok (.agg vs.toArray) w:=by
  obtain⟨k,e,j⟩:=gv.1 hs;have c:=run_loadCells_list (P:=P) (w:=w) ⟨g,o,none⟩ vs (λa v f=>by
    rw[bY];exact i a v f)
  have d:(isAgg t).run P w=.ok true w:=by
    unfold SG at b;split at b
    · rename_i h
      simp[isAgg,run_underlying h]
    · cases b
  simp[Instr.loadAt,Instr.sureAddr,loadVar,d,sizeOf,typeInfo,e,j,c]
theorem kR(f:Nat->jI)(i:Nat)(l:jI):Wo f i l i=l:=by simp[Wo]
abbrev bh(a:Nat)(x:am):Bk:=⟨a,98,true,am.cells x⟩
variable (F a b i is S e Q M:Int)(B T:ByteArray)(w:World)
theorem ye(d:0<=a∧a<=16777215)(e:0<=b∧b<=16777215)(w:World):aC 99 #[.agg #[i6 a,i6 b]] w (bf (bO_ true) w):=by
 refine cH (S:=z8) (n:=21) func99 (ab.none w _) ?_;refine z6 30 (dz 21 0x3101010910310101091031010009100010008000) [2] (rE 4 (dT ((a:Int)>=0))++rE 4 (dT ((a:Int)<=16777215))++rE 4 (dT ((b:Int)>=0))) [(w.z,0,1),(w.z,0,1),(w.z,1,1),(w.z,1,1)] [.code [1,1]] [⟨w.z,57,true,[i6 a,i6 b]⟩] [] (w.z+1) ?_;refine B1 [] [bO_ (decide ((b:Int)<=16777215))] [] ?_;intro f c;exact⟨dk (dc yq),c.x2⟩
def km(F:Int)(a:Int)(b:Int)(B:ByteArray):av:=[bO_ true,i6 F,i6 a,i6 b,sT B,bO_ false,i6 0,i6 0,i6 0,sT ⟨#[]⟩]
theorem lc(h:0<=F∧F<=16777215)(i:0<=a∧a<=16777215)(j:0<=b∧b<=16777215)(d:B.size=16)(w:World):aC 63 #[.agg #[bO_ true,i6 F,i6 a,i6 b,sT B,bO_ false,i6 0,i6 0,i6 0,sT ⟨#[]⟩]] w (bf (bO_ true) w):=by
 refine cH (S:=z8) (n:=97) func63 (ab.none w _) ?_;refine z6 12 (dz 4 539000832) [1,2,6] [] [(w.z,2,2)] [.ops [1,0] [2,3],.code [1,1]] [⟨w.z,61,true,km F a b B⟩] [] (w.z+1) ?_;refine DV (bO_ true) _ _ (some 7) [] tI rfl (λc e=>ye a b yq yq c) λg k=>?_;refine z6 9 (dz 3 33949696) [1,2,3,9] [] [(w.z,6,2)] [.ops (Ac 14) [2,3],y6 15] [⟨w.z,61,true,km F a b B⟩] [] g ?_;refine DV (bO_ true) _ _ (some 10) [] tI rfl (λc e=>ye 0 0 yq yq c) λf l=>?_;refine z6 109 (dz 87 0x31010809103101070911031010609110001090800010508004400000000000000000000001000800311010409100100080040010808004001080800400101080040010108004000000) [2] (rE 7 fF++rE 4 (dF ((F:Int)<0))++rE 4 (dF ((F:Int)>16777215))++[fF,fF,fF,fF,fF,tT,tT,tT,tT,tT]++rE 4 (oE (((B.size:Int)!=16)=false) (by rw[d];rfl))++rE 9 fF++[oE (((B.size:Int)!=16)=false) (by rw[d];rfl),fF,oE (((B.size:Int)!=16)=false) (by rw[d];rfl),fF,fF]++rE 5 (oE ((ByteArray.toList ⟨#[]⟩==ByteArray.toList ⟨#[]⟩)=true) z1)++rE 9 tT) [(w.z,1,1),(w.z,1,1),(w.z,8,1),(w.z,8,1),(w.z,0,1),(w.z,4,1),(w.z,0,1),(w.z,5,1),(w.z,9,1),(w.z,6,1),(w.z,7,1),(w.z,8,1)] [y6 255] [⟨w.z,61,true,km F a b B⟩] [] f ?_;refine B1 [] [bO_ true] [] ?_;intro c e;exact⟨rfl,e.x2⟩
def pk(M:Int)(F:Int)(a:Int)(b:Int)(i:Int)(is:Int)(B:ByteArray)(T:ByteArray):av:=[bO_ true,i6 F,i6 a,i6 b,sT B,bO_ true,i6 i,i6 is,i6 M,sT T]
theorem yf(j:0<=F∧F<=16777215)(l:0<=a∧a<=16777215)(m:0<=b∧b<=16777215)(d:B.size=16)(o:0<=i∧i<=16777215)(p:0<=is∧is<=16777215)(k:1<=M∧M<=63)(g:T.size=16)(w:World):aC 63 #[.agg #[bO_ true,i6 F,i6 a,i6 b,sT B,bO_ true,i6 i,i6 is,i6 M,sT T]] w (bf (bO_ true) w):=by
 refine cH (S:=z8) (n:=97) func63 (ab.none w _) ?_;refine z6 12 (dz 4 539000832) [1,2,6] [] [(w.z,2,2)] [.ops [1,0] [2,3],.code [1,1]] [⟨w.z,61,true,pk M F a b i is B T⟩] [] (w.z+1) ?_;refine DV (bO_ true) _ _ (some 7) [] tI rfl (λc e=>ye a b yq yq c) λh q=>?_;refine z6 9 (dz 3 33949696) [1,2,3,9] [] [(w.z,6,2)] [.ops (Ac 14) [2,3],y6 15] [⟨w.z,61,true,pk M F a b i is B T⟩] [] h ?_;refine DV (bO_ true) _ _ (some 10) [] tI rfl (λc e=>ye i is yq yq c) λf r=>?_;refine z6 92 (dz 71 0x1090801010508004400000000000000000000001000800311010409100100080040010808004001080800400101080040010108004000000) [1,2] (rE 7 fF++rE 4 (dF ((F:Int)<0))++rE 4 (dF ((F:Int)>16777215))++rE 4 (dF ((M:Int)<0))++[dF ((M:Int)>63),tT,tT,tT,tT,tT]++rE 4 (oE (((B.size:Int)!=16)=false) (by rw[d];rfl))++rE 9 fF++[oE (((B.size:Int)!=16)=false) (by rw[d];rfl),fF,oE (((B.size:Int)!=16)=false) (by rw[d];rfl),fF,tT]) [(w.z,1,1),(w.z,1,1),(w.z,8,1),(w.z,8,1),(w.z,0,1),(w.z,4,1),(w.z,0,1),(w.z,5,1),(w.z,9,1)] [y6 1013,y6 127] [⟨w.z,61,true,pk M F a b i is B T⟩] [] f ?_;refine B1 [] [bO_ ((T.size:Int)==16)] [] ?_;intro c e;exact⟨dk (by rw[g];rfl),e.x2⟩
def wE(F:Int):av:=[bO_ false,i6 F,i6 0,i6 0,sT ⟨#[]⟩,bO_ false,i6 0,i6 0,i6 0,sT ⟨#[]⟩]
theorem yg(d:0<=F∧F<=16777215)(w:World):aC 63 #[.agg #[bO_ false,i6 F,i6 0,i6 0,sT ⟨#[]⟩,bO_ false,i6 0,i6 0,i6 0,sT ⟨#[]⟩]] w (bf (bO_ true) w):=by
 refine cH (S:=z8) (n:=97) func63 (ab.none w _) ?_;refine z6 12 (dz 4 539000832) [1,2,6] [] [(w.z,2,2)] [.ops [1,0] [2,3],.code [1,1]] [⟨w.z,61,true,wE F⟩] [] (w.z+1) ?_;refine DV (bO_ true) _ _ (some 7) [] tI rfl (λa b=>ye 0 0 yq yq a) λc e=>?_;refine z6 9 (dz 3 33949696) [1,2,3,9] [] [(w.z,6,2)] [.ops (Ac 14) [2,3],y6 15] [⟨w.z,61,true,wE F⟩] [] c ?_;refine DV (bO_ true) _ _ (some 10) [] tI rfl (λa b=>ye 0 0 yq yq a) λf g=>?_;refine z6 109 (dz 87 0x31010809103101070911031010609110001090800010508004370010308001700102080017010508011010409100010008004000000100080040010808004001080800400101080040010108004000000) [2] (rE 7 fF++rE 4 (dF ((F:Int)<0))++rE 4 (dF ((F:Int)>16777215))++rE 14 fF++[tT,tT,tT,tT]++rE 2 (oE ((!(ByteArray.toList ⟨#[]⟩==ByteArray.toList ⟨#[]⟩))=false) (by rw[show(ByteArray.toList ⟨#[]⟩==ByteArray.toList ⟨#[]⟩)=true from by simp];rfl))++[tT,oE ((!(ByteArray.toList ⟨#[]⟩==ByteArray.toList ⟨#[]⟩))=false) (by rw[show(ByteArray.toList ⟨#[]⟩==ByteArray.toList ⟨#[]⟩)=true from by simp];rfl),tT,fF,fF,fF,fF,tT,fF,tT,fF,fF,fF,fF,tT,fF,fF,tT,fF,fF,fF]++rE 5 (oE ((ByteArray.toList ⟨#[]⟩==ByteArray.toList ⟨#[]⟩)=true) z1)++rE 9 tT) [(w.z,1,1),(w.z,1,1),(w.z,8,1),(w.z,8,1),(w.z,0,1),(w.z,0,1),(w.z,4,1),(w.z,5,1),(w.z,2,1),(w.z,3,1),(w.z,5,1),(w.z,9,1),(w.z,6,1),(w.z,7,1),(w.z,8,1)] [y6 255] [⟨w.z,61,true,wE F⟩] [] f ?_;refine B1 [] [bO_ true] [] ?_;intro a b;exact⟨rfl,b.x2⟩
theorem nj(h:1<=a∧a<=16777215)(w:World):aC 100 #[i6 a] w (bf (bO_ true) w):=by
 refine cH (S:=z8) (n:=9) func100 (ab.none w _) ?_;refine z6 17 (dz 8 51445760) [2] (rE 3 (dT ((a:Int)>=1))) [] [.code [1,1]] [] [] w.z ?_;refine B1 [] [bO_ (decide ((a:Int)<=16777215))] [] ?_;intro c b;exact⟨dk (dc yq),b.x2⟩
theorem pl:aC 100 #[i6 0] w (bf (bO_ false) w):=by
 refine cH (S:=z8) (n:=9) func100 (ab.none w _) ?_;refine z6 17 (dz 8 67108864) [2] [fF,fF,fF] [] [.code [1,1]] [] [] w.z ?_;refine B1 [] [bO_ false] [] ?_;intro b a;exact⟨rfl,a.x2⟩
def iQ(S:Int)(e:Int):av:=[i6 1,i6 S,i6 e]++rp 5 (i6 0)++[sT ⟨#[]⟩]
def ko(S:Int):av:=[i6 1,i6 S]++rp 6 (i6 0)++[sT ⟨#[]⟩]
theorem nW(g:0<=S∧S<=7)(d:1<=e∧e<=16777215)(w:World):aC 64 #[.agg #[i6 1,i6 S,i6 e,i6 0,i6 0,i6 0,i6 0,i6 0,sT ⟨#[]⟩]] w (bf (bO_ true) w):=by
 refine cH (S:=z8) (n:=205) func64 (ab.none w _) ?_;refine z6 36 (dz 20 0x1020800900180001010800100080040010108000010108000) [1,2,3,20] (rE 4 (dF ((S:Int)<0))++[dF ((S:Int)>=8)]) [(w.z,1,1),(w.z,1,1),(w.z,0,1),(w.z,1,1),(w.z+1,0,9),(w.z,2,1)] [.ops (Ac 30) [2,3],y6 31] [⟨w.z,59,true,iQ S e⟩,⟨w.z+1,59,true,ko S⟩] [] (w.z+2) ?_;refine DV (bO_ true) 100 [i6 e] (some 21) [] tI rfl (λa b=>nj _ yq a) λc h=>?_;refine z6 9 (dz 3 16975872) [1,2,3,4,23] [] [(w.z,3,1)] [.ops (Ac 62) [2,3],y6 63] [⟨w.z,59,true,iQ S e⟩,⟨w.z+1,59,true,ko S⟩] [] c ?_;refine DV (bO_ false) _ _ (some 24) [] tI rfl (λa b=>pl a) λf i=>?_;refine z6 38 (dz 18 0x350900090900190001021800102080110001000800) [2] [tT,tT,tT,tT,tT,vV,tT] [(w.z,0,1),(w.z,2,1),(w.z+1,2,1),(w.z+1,0,9),(w.z,0,9)] [y6 8107,.zq 0,y6 127] [⟨w.z,59,true,iQ S e⟩,⟨w.z+1,59,true,iQ S e⟩] [] f ?_;refine B1 [] [bO_ (((S:Int)==S)&&(((e:Int)==e)&&true))] [] ?_;intro a b;exact⟨dk z1,b.x2⟩
def wF(S:Int)(e:Int):av:=((iQ S e).set 0 (i6 2))
def P8(S:Int):av:=((ko S).set 0 (i6 2))
theorem Md(g:0<=S∧S<=7)(d:1<=e∧e<=16777215)(w:World):aC 64 #[.agg #[i6 2,i6 S,i6 e,i6 0,i6 0,i6 0,i6 0,i6 0,sT ⟨#[]⟩]] w (bf (bO_ true) w):=by
 refine cH (S:=z8) (n:=205) func64 (ab.none w _) ?_;refine z6 36 (dz 20 0x1020800900180001010800100080040010108000010108000) [1,2,3,20] (rE 4 (dF ((S:Int)<0))++[dF ((S:Int)>=8)]) [(w.z,1,1),(w.z,1,1),(w.z,0,1),(w.z,1,1),(w.z+1,0,9),(w.z,2,1)] [.ops (Ac 30) [2,3],y6 31] [⟨w.z,59,true,wF S e⟩,⟨w.z+1,59,true,P8 S⟩] [] (w.z+2) ?_;refine DV (bO_ true) 100 [i6 e] (some 21) [] tI rfl (λa b=>nj _ yq a) λc h=>?_;refine z6 9 (dz 3 16975872) [1,2,3,4,23] [] [(w.z,3,1)] [.ops (Ac 62) [2,3],y6 63] [⟨w.z,59,true,wF S e⟩,⟨w.z+1,59,true,P8 S⟩] [] c ?_;refine DV (bO_ false) _ _ (some 24) [] tI rfl (λa b=>pl a) λf i=>?_;refine z6 44 (dz 21 0x350900090900190001021800102080110000001000800) [2] [fF,tT,tT,tT,tT,tT,vV,tT] [(w.z,0,1),(w.z,2,1),(w.z+1,2,1),(w.z+1,0,9),(w.z,0,9)] [y6 8107,.zq 0,y6 127] [⟨w.z,59,true,wF S e⟩,⟨w.z+1,59,true,wF S e⟩] [] f ?_;refine B1 [] [bO_ (((S:Int)==S)&&(((e:Int)==e)&&true))] [] ?_;intro a b;exact⟨dk z1,b.x2⟩
def wG(S:Int)(e:Int):av:=((iQ S e).set 0 (i6 3))
def P9(S:Int):av:=((ko S).set 0 (i6 3))
theorem Me(g:0<=S∧S<=7)(d:1<=e∧e<=16777215)(w:World):aC 64 #[.agg #[i6 3,i6 S,i6 e,i6 0,i6 0,i6 0,i6 0,i6 0,sT ⟨#[]⟩]] w (bf (bO_ true) w):=by
 refine cH (S:=z8) (n:=205) func64 (ab.none w _) ?_;refine z6 36 (dz 20 0x1020800900180001010800100080040010108000010108000) [1,2,3,20] (rE 4 (dF ((S:Int)<0))++[dF ((S:Int)>=8)]) [(w.z,1,1),(w.z,1,1),(w.z,0,1),(w.z,1,1),(w.z+1,0,9),(w.z,2,1)] [.ops (Ac 30) [2,3],y6 31] [⟨w.z,59,true,wG S e⟩,⟨w.z+1,59,true,P9 S⟩] [] (w.z+2) ?_;refine DV (bO_ true) 100 [i6 e] (some 21) [] tI rfl (λa b=>nj _ yq a) λc h=>?_;refine z6 9 (dz 3 16975872) [1,2,3,4,23] [] [(w.z,3,1)] [.ops (Ac 62) [2,3],y6 63] [⟨w.z,59,true,wG S e⟩,⟨w.z+1,59,true,P9 S⟩] [] c ?_;refine DV (bO_ false) _ _ (some 24) [] tI rfl (λa b=>pl a) λf i=>?_;refine z6 50 (dz 24 0x350900090900190001021800102080110000000001000800) [2] [fF,fF,tT,tT,tT,tT,tT,vV,tT] [(w.z,0,1),(w.z,2,1),(w.z+1,2,1),(w.z+1,0,9),(w.z,0,9)] [y6 8107,.zq 0,y6 127] [⟨w.z,59,true,wG S e⟩,⟨w.z+1,59,true,wG S e⟩] [] f ?_;refine B1 [] [bO_ (((S:Int)==S)&&(((e:Int)==e)&&true))] [] ?_;intro a b;exact⟨dk z1,b.x2⟩
def wH(S:Int)(e:Int)(Q:Int)(M:Int)(T:ByteArray):av:=[i6 4,i6 S,i6 e,i6 Q,i6 M,i6 0,i6 0,i6 0,sT T]
def Qa(S:Int):av:=((ko S).set 0 (i6 4))
theorem Mf(j:0<=S∧S<=7)(g:1<=e∧e<=16777215)(i:1<=Q∧Q<=16777215)(h:1<=M∧M<=63)(c:T.size=16)(w:World):aC 64 #[.agg #[i6 4,i6 S,i6 e,i6 Q,i6 M,i6 0,i6 0,i6 0,sT T]] w (bf (bO_ true) w):=by
 refine cH (S:=z8) (n:=205) func64 (ab.none w _) ?_;refine z6 36 (dz 20 0x1020800900180001010800100080040010108000010108000) [1,2,3,20] (rE 4 (dF ((S:Int)<0))++[dF ((S:Int)>=8)]) [(w.z,1,1),(w.z,1,1),(w.z,0,1),(w.z,1,1),(w.z+1,0,9),(w.z,2,1)] [.ops (Ac 30) [2,3],y6 31] [⟨w.z,59,true,wH S e Q M T⟩,⟨w.z+1,59,true,Qa S⟩] [] (w.z+2) ?_;refine DV (bO_ true) 100 [i6 e] (some 21) [] tI rfl (λa b=>nj _ yq a) λd k=>?_;refine z6 9 (dz 3 16975872) [1,2,3,4,23] [] [(w.z,3,1)] [.ops (Ac 62) [2,3],y6 63] [⟨w.z,59,true,wH S e Q M T⟩,⟨w.z+1,59,true,Qa S⟩] [] d ?_;refine DV (bO_ true) 100 [i6 Q] (some 24) [] tI rfl (λa b=>nj _ yq a) λf l=>?_;refine z6 99 (dz 60 0x350900090900190311010809103101040910310104091031000108180010808001041800104080010318001030800102180010208010000000000000001000800) [2] ([fF,fF,fF,fF]++rE 7 tT++rE 4 (dT ((M:Int)>=1))++rE 5 (dT ((M:Int)<=63))++rE 3 (oE (((T.size:Int)==16)=true) (by rw[c];rfl))++[vV,oE (((T.size:Int)==16)=true) (by rw[c];rfl)]) [(w.z,0,1),(w.z,2,1),(w.z+1,2,1),(w.z,3,1),(w.z+1,3,1),(w.z,4,1),(w.z+1,4,1),(w.z,8,1),(w.z+1,8,1),(w.z,4,1),(w.z,4,1),(w.z,8,1),(w.z+1,0,9),(w.z,0,9)] [y6 259551,.zq 0,y6 127] [⟨w.z,59,true,wH S e Q M T⟩,⟨w.z+1,59,true,wH S e Q M T⟩] [] f ?_;refine B1 [] [bO_ (((S:Int)==S)&&(((e:Int)==e)&&(((Q:Int)==Q)&&(((M:Int)==M)&&(((T:ByteArray)==T)&&true)))))] [] ?_;intro a b;exact⟨dk (by simp[xH]),b.x2⟩
def rK(S:Int)(e:Int)(Q:Int):av:=(((iQ S e).set 0 (i6 5)).set 3 (i6 Q))
def Qb(S:Int):av:=((ko S).set 0 (i6 5))
theorem Mg(h:0<=S∧S<=7)(d:1<=e∧e<=16777215)(g:1<=Q∧Q<=16777215)(w:World):aC 64 #[.agg #[i6 5,i6 S,i6 e,i6 Q,i6 0,i6 0,i6 0,i6 0,sT ⟨#[]⟩]] w (bf (bO_ true) w):=by
 refine cH (S:=z8) (n:=205) func64 (ab.none w _) ?_;refine z6 36 (dz 20 0x1020800900180001010800100080040010108000010108000) [1,2,3,20] (rE 4 (dF ((S:Int)<0))++[dF ((S:Int)>=8)]) [(w.z,1,1),(w.z,1,1),(w.z,0,1),(w.z,1,1),(w.z+1,0,9),(w.z,2,1)] [.ops (Ac 30) [2,3],y6 31] [⟨w.z,59,true,rK S e Q⟩,⟨w.z+1,59,true,Qb S⟩] [] (w.z+2) ?_;refine DV (bO_ true) 100 [i6 e] (some 21) [] tI rfl (λa b=>nj _ yq a) λc i=>?_;refine z6 9 (dz 3 16975872) [1,2,3,4,23] [] [(w.z,3,1)] [.ops (Ac 62) [2,3],y6 63] [⟨w.z,59,true,rK S e Q⟩,⟨w.z+1,59,true,Qb S⟩] [] c ?_;refine DV (bO_ true) 100 [i6 Q] (some 24) [] tI rfl (λa b=>nj _ yq a) λf j=>?_;refine z6 75 (dz 39 0x3509000909001903100010318001030800102180010208010000000000000000001000800) [2] [fF,fF,fF,fF,fF,tT,tT,tT,tT,tT,tT,vV,tT] [(w.z,0,1),(w.z,2,1),(w.z+1,2,1),(w.z,3,1),(w.z+1,3,1),(w.z+1,0,9),(w.z,0,9)] [y6 259575,.zq 0,y6 127] [⟨w.z,59,true,rK S e Q⟩,⟨w.z+1,59,true,rK S e Q⟩] [] f ?_;refine B1 [] [bO_ (((S:Int)==S)&&(((e:Int)==e)&&(((Q:Int)==Q)&&true)))] [] ?_;intro a b;exact⟨dk z1,b.x2⟩
def wI(S:Int)(e:Int)(Q:Int)(T:ByteArray):av:=(((rK S e Q).set 0 (i6 7)).set 8 (sT T))
def Qc(S:Int):av:=((ko S).set 0 (i6 7))
theorem Mh(i:0<=S∧S<=7)(g:1<=e∧e<=16777215)(h:1<=Q∧Q<=16777215)(c:T.size=16)(w:World):aC 64 #[.agg #[i6 7,i6 S,i6 e,i6 Q,i6 0,i6 0,i6 0,i6 0,sT T]] w (bf (bO_ true) w):=by
 refine cH (S:=z8) (n:=205) func64 (ab.none w _) ?_;refine z6 36 (dz 20 0x1020800900180001010800100080040010108000010108000) [1,2,3,20] (rE 4 (dF ((S:Int)<0))++[dF ((S:Int)>=8)]) [(w.z,1,1),(w.z,1,1),(w.z,0,1),(w.z,1,1),(w.z+1,0,9),(w.z,2,1)] [.ops (Ac 30) [2,3],y6 31] [⟨w.z,59,true,wI S e Q T⟩,⟨w.z+1,59,true,Qc S⟩] [] (w.z+2) ?_;refine DV (bO_ true) 100 [i6 e] (some 21) [] tI rfl (λa b=>nj _ yq a) λd j=>?_;refine z6 9 (dz 3 16975872) [1,2,3,4,23] [] [(w.z,3,1)] [.ops (Ac 62) [2,3],y6 63] [⟨w.z,59,true,wI S e Q T⟩,⟨w.z+1,59,true,Qc S⟩] [] d ?_;refine DV (bO_ true) 100 [i6 Q] (some 24) [] tI rfl (λa b=>nj _ yq a) λf k=>?_;refine z6 94 (dz 52 0x35090009090019031101080910310001081800108080010318001030800102180010208010000000000000000000001000800) [2] ([fF,fF,fF,fF,fF,fF]++rE 8 tT++rE 3 (oE (((T.size:Int)==16)=true) (by rw[c];rfl))++[vV,oE (((T.size:Int)==16)=true) (by rw[c];rfl)]) [(w.z,0,1),(w.z,2,1),(w.z+1,2,1),(w.z,3,1),(w.z+1,3,1),(w.z,8,1),(w.z+1,8,1),(w.z,8,1),(w.z+1,0,9),(w.z,0,9)] [y6 2076655,.zq 0,y6 127] [⟨w.z,59,true,wI S e Q T⟩,⟨w.z+1,59,true,wI S e Q T⟩] [] f ?_;refine B1 [] [bO_ (((S:Int)==S)&&(((e:Int)==e)&&(((Q:Int)==Q)&&(((T:ByteArray)==T)&&true))))] [] ?_;intro a b;exact⟨dk (by simp[xH]),b.x2⟩
def Qd(S:Int):av:=((ko S).set 0 (i6 8))
@[simp] def GZ(S:Int)(w:World):ax:=[⟨w.z,59,true,Qd S⟩,⟨w.z+1,59,true,Qd S⟩]
theorem Mb(d:0<=S∧S<=7)(w:World):aC 64 #[.agg #[i6 8,i6 S,i6 0,i6 0,i6 0,i6 0,i6 0,i6 0,sT ⟨#[]⟩]] w (bf (bO_ true) w):=by
 refine cH (S:=z8) (n:=205) func64 (ab.none w _) ?_;refine z6 36 (dz 20 0x1020800900180001010800100080040010108000010108000) [1,2,3,20] (rE 4 (dF ((S:Int)<0))++[dF ((S:Int)>=8)]) [(w.z,1,1),(w.z,1,1),(w.z,0,1),(w.z,1,1),(w.z+1,0,9),(w.z,2,1)] [.ops (Ac 30) [2,3],y6 31] (GZ S w) [] (w.z+2) ?_;refine DV (bO_ false) _ _ (some 21) [] tI rfl (λa b=>pl a) λc e=>?_;refine z6 9 (dz 3 16975872) [1,2,3,4,23] [] [(w.z,3,1)] [.ops (Ac 62) [2,3],y6 63] (GZ S w) [] c ?_;refine DV (bO_ false) _ _ (some 24) [] tI rfl (λa b=>pl a) λf g=>?_;refine z6 73 (dz 34 0x209000809001810000000000000000000000000001000800) [2] (rE 8 fF++[tT,vV]) [(w.z,0,1),(w.z+1,0,9),(w.z,0,9)] [y6 4153341,.zq 0,y6 127] (GZ S w) [] f ?_;refine B1 [] [bO_ (((S:Int)==S)&&true)] [] ?_;intro a b;exact⟨dk z1,b.x2⟩
def BO(S:Int)(e:Int)(a:Int):av:=(((iQ S e).set 0 (i6 9)).set 5 (i6 a))
def Qe(S:Int):av:=((ko S).set 0 (i6 9))
theorem Mc(a:Int)(h:0<=S∧S<=7)(g:1<=e∧e<=16777215)(i:0<=a∧a<=5)(w:World):aC 64 #[.agg #[i6 9,i6 S,i6 e,i6 0,i6 0,i6 a,i6 0,i6 0,sT ⟨#[]⟩]] w (bf (bO_ true) w):=by
 refine cH (S:=z8) (n:=205) func64 (ab.none w _) ?_;refine z6 36 (dz 20 0x1020800900180001010800100080040010108000010108000) [1,2,3,20] (rE 4 (dF ((S:Int)<0))++[dF ((S:Int)>=8)]) [(w.z,1,1),(w.z,1,1),(w.z,0,1),(w.z,1,1),(w.z+1,0,9),(w.z,2,1)] [.ops (Ac 30) [2,3],y6 31] [⟨w.z,59,true,BO S e a⟩,⟨w.z+1,59,true,Qe S⟩] [] (w.z+2) ?_;refine DV (bO_ true) 100 [i6 e] (some 21) [] tI rfl (λb c=>nj _ yq b) λd j=>?_;refine z6 9 (dz 3 16975872) [1,2,3,4,23] [] [(w.z,3,1)] [.ops (Ac 62) [2,3],y6 63] [⟨w.z,59,true,BO S e a⟩,⟨w.z+1,59,true,Qe S⟩] [] d ?_;refine DV (bO_ false) _ _ (some 24) [] tI rfl (λb c=>pl b) λf k=>?_;refine z6 106 (dz 58 0x350900090900190310105091031010509100010518001050800102180010208010000000000000000000000000000001000800) [2] (rE 9 fF++[tT,tT,tT,tT,tT]++rE 4 (dT ((a:Int)>=0))++rE 3 (dT ((a:Int)<=5))++[vV,dT ((a:Int)<=5)]) [(w.z,0,1),(w.z,2,1),(w.z+1,2,1),(w.z,5,1),(w.z+1,5,1),(w.z,5,1),(w.z,5,1),(w.z+1,0,9),(w.z,0,9)] [y6 66453495,.zq 0,y6 127] [⟨w.z,59,true,BO S e a⟩,⟨w.z+1,59,true,BO S e a⟩] [] f ?_;refine B1 [] [bO_ (((S:Int)==S)&&(((e:Int)==e)&&(((a:Int)==a)&&true)))] [] ?_;intro b c;exact⟨dk z1,c.x2⟩
def tD(S:Int)(e:Int):av:=((iQ S e).set 0 (i6 10))
def JP(S:Int):av:=((ko S).set 0 (i6 10))
theorem GX(g:0<=S∧S<=7)(d:1<=e∧e<=16777215)(w:World):aC 64 #[.agg #[i6 10,i6 S,i6 e,i6 0,i6 0,i6 0,i6 0,i6 0,sT ⟨#[]⟩]] w (bf (bO_ true) w):=by
 refine cH (S:=z8) (n:=205) func64 (ab.none w _) ?_;refine z6 36 (dz 20 0x1020800900180001010800100080040010108000010108000) [1,2,3,20] (rE 4 (dF ((S:Int)<0))++[dF ((S:Int)>=8)]) [(w.z,1,1),(w.z,1,1),(w.z,0,1),(w.z,1,1),(w.z+1,0,9),(w.z,2,1)] [.ops (Ac 30) [2,3],y6 31] [⟨w.z,59,true,tD S e⟩,⟨w.z+1,59,true,JP S⟩] [] (w.z+2) ?_;refine DV (bO_ true) 100 [i6 e] (some 21) [] tI rfl (λa b=>nj _ yq a) λc h=>?_;refine z6 9 (dz 3 16975872) [1,2,3,4,23] [] [(w.z,3,1)] [.ops (Ac 62) [2,3],y6 63] [⟨w.z,59,true,tD S e⟩,⟨w.z+1,59,true,JP S⟩] [] c ?_;refine DV (bO_ false) _ _ (some 24) [] tI rfl (λa b=>pl a) λf i=>?_;refine z6 53 (dz 26 0x35090009090019000102180010208010000000000001000800) [2] [fF,fF,fF,tT,tT,tT,tT,vV,tT] [(w.z,0,1),(w.z,2,1),(w.z+1,2,1),(w.z+1,0,9),(w.z,0,9)] [y6 8107,.zq 0,y6 127] [⟨w.z,59,true,tD S e⟩,⟨w.z+1,59,true,tD S e⟩] [] f ?_;refine B1 [] [bO_ (((S:Int)==S)&&(((e:Int)==e)&&true))] [] ?_;intro a b;exact⟨dk z1,b.x2⟩
def Xi(a b c d:Int):Bool:=decide (a<c)||(decide (a=c)&&decide (b<d))
@[simp] def wJ(a:Int)(b:Int)(c:Int)(d:Int)(w:World):ax:=[⟨w.z,57,true,[i6 a,i6 b]⟩,⟨w.z+1,57,true,[i6 c,i6 d]⟩]
theorem nk(c d:Int)(w:World):aC 66 #[.agg #[i6 a,i6 b],.agg #[i6 c,i6 d]] w (bf (bO_ (Xi a b c d)) w):=by
 refine cH (S:=z8) (n:=24) func66 (ab.none w _) ?_;refine Aq 17 (dz 9 0x1001800100080000) [2,3,4,10] [] [(w.z,0,1),(w.z+1,0,1)] [.ops [1,0] [6,7,8,9,10,11,12,13,14,15,16,17,18,19],.code [1,1]] ⟨[(2,pt w.z 0),(3,pt (w.z+1) 0),(4,.bool false),(10,.bool (decide ((a:Int)<c)))],wJ a b c d w,[],w.z+2⟩ ?_;rcases fZ (decide ((a:Int)<c))with e|e
 ·skip;refine z6 18 (dz 14 0x3100000111111) [4] (rE 8 (eD e)) [] [.code [1,1]] (wJ a b c d w) [] (w.z+2) ?_;refine B1 [] [bO_ true] [] ?_;intro h g;exact⟨dk (by unfold Xi;((try simp_all)<;>omega)),g.x2⟩
 ·skip;refine Aq 9 (dz 6 0x1001800100080) [2,3,4,10,16] (rE 6 (eD e)) [(w.z,0,1),(w.z+1,0,1)] [.ops [1,0] [12,13,14,15,16,17,18,19],.code [1,1]] ⟨[(2,pt w.z 0),(3,pt (w.z+1) 0),(4,.bool false),(10,.bool (decide ((a:Int)<c))),(16,.bool (a==c))],wJ a b c d w,[],w.z+2⟩ ?_;rcases fZ (a==c)with f|f
  ·skip;refine z6 12 (dz 8 0x43101011910101091) [4] (rE 5 (eD f)++[eD e,eD f,eD e]) [(w.z,1,1),(w.z+1,1,1)] [.code [1,1]] (wJ a b c d w) [] (w.z+2) ?_;refine B1 [] [bO_ (decide ((b:Int)<d))] [] ?_;intro h g;exact⟨dk (by unfold Xi;((try simp_all)<;>omega)),g.x2⟩
  ·skip;refine z6 12 (dz 8 71303168) [4] (rE 5 (eD f)++[eD e,eD f,eD e]) [] [.code [1,1]] (wJ a b c d w) [] (w.z+2) ?_;refine B1 [] [bO_ false] [] ?_;intro h g;exact⟨dk (by unfold Xi;((try simp_all)<;>omega)),g.x2⟩
def UU(M:Int)(F:Int)(a:Int)(b:Int)(i:Int)(is:Int)(B:ByteArray)(T:ByteArray):av:=(pk M F a b i is B T)
def G0(F:Int)(i:Int)(is:Int)(T:ByteArray):av:=[bO_ true,i6 F,i6 i,i6 is,sT T,bO_ false,i6 0,i6 0,i6 0,sT ⟨#[]⟩]
theorem UV:aC 68 #[.agg #[bO_ true,i6 F,i6 a,i6 b,sT B,bO_ true,i6 i,i6 is,i6 M,sT T]] w (bf (.agg #[bO_ true,i6 F,i6 i,i6 is,sT T,bO_ false,i6 0,i6 0,i6 0,sT ⟨#[]⟩]) w):=by
 refine cH (S:=z8) (n:=10) func68 (ab.none w _) ?_;refine z6 19 (dz 10 0xa0018001090800206080010108000) [2] [] [(w.z,1,1),(w.z,6,2),(w.z,9,1),(w.z+1,0,10)] [.code [1,1]] [⟨w.z,61,true,UU M F a b i is B T⟩,⟨w.z+1,61,true,G0 F i is T⟩] [] (w.z+2) ?_;refine B1 [[⟨false,1,0,10⟩]] [aE (G0 F i is T)] [(w.z+1,0,10)] ?_;intro d c;exact⟨rfl,c.x2⟩
def G1(F:Int)(a:Int)(b:Int)(B:ByteArray):av:=(km F a b B)
theorem Qf:aC 67 #[.agg #[bO_ true,i6 F,i6 a,i6 b,sT B,bO_ false,i6 0,i6 0,i6 0,sT ⟨#[]⟩]] w (bf (.agg #[bO_ true,i6 F,i6 a,i6 b,sT B,bO_ false,i6 0,i6 0,i6 0,sT ⟨#[]⟩]) w):=by
 refine cH (S:=z8) (n:=10) func67 (ab.none w _) ?_;refine z6 19 (dz 10 0xa0018001040800202080010108000) [2] [] [(w.z,1,1),(w.z,2,2),(w.z,4,1),(w.z+1,0,10)] [.code [1,1]] [⟨w.z,61,true,G1 F a b B⟩,⟨w.z+1,61,true,G1 F a b B⟩] [] (w.z+2) ?_;refine B1 [[⟨false,1,0,10⟩]] [aE (G1 F a b B)] [(w.z+1,0,10)] ?_;intro d c;exact⟨rfl,c.x2⟩
section
variable (F a b:Int)(B:ByteArray)(w:World)(k:Int)
def j6:av:=(km F a b B)
def qs:av:=([i6 k,i6 F,i6 0]++ka)
def BP:av:=[bO_ false]++rp 3 (i6 0)++[sT ⟨#[]⟩,bO_ false]++rp 3 (i6 0)++[sT ⟨#[]⟩]
def tE:av:=rp 3 (i6 0)++[bO_ false]++rp 3 (i6 0)++[sT ⟨#[]⟩,bO_ false]++rp 3 (i6 0)++[sT ⟨#[]⟩]
@[simp] def tG:ax:=[⟨w.z,61,true,j6 F a b B⟩,⟨w.z+1,61,true,BP⟩,⟨w.z+2,63,true,tE⟩]
@[simp] def BQ:ax:=[⟨w.z,61,true,j6 F a b B⟩,⟨w.z+1,61,true,j6 F a b B⟩,⟨w.z+2,63,true,tE⟩]
@[simp] def tH:ax:=[⟨w.z,61,true,j6 F a b B⟩,⟨w.z+1,61,true,j6 F a b B⟩,⟨w.z+2,63,true,qs F k⟩]
def wK:bu:=[(1,i6 k),(2,pt w.z 0),(4,pt (w.z+1) 0),(5,pt (w.z+2) 0)]
def qt:List (Option Value):=[some (aE (j6 F a b B)),some (i6 k),some (pt w.z 1),some (i6 F),some (aE (qs F k)),some (.tuple #[]),some (.tuple #[])]
def Er:List (ax):=[tG F a b B w,BQ F a b B w,tH F a b B w k]
def Es:List (bi):=[none,none,none,none,none,some 0,some 1]
theorem Mi:∀c,opG prog (aj (aa (al f65) [1,0])) ⟨slG (aj (aa (al f65) [1,0])) (qt F a b B w k) (J3 (aj (aa (al f65) [1,0])) (wK w k) 5) (aM (aj (aa (al f65) [1,0])) 5),tG F a b B w,[],c⟩ 5 (oA 1 0 10)=some ([],aX [(w.z+1,0,10)],undef,BQ F a b B w,c):=λc=>v7
theorem Mj:∀c,opG prog (aj (aa (al f65) [1,0])) ⟨slG (aj (aa (al f65) [1,0])) (qt F a b B w k) (J3 (aj (aa (al f65) [1,0])) (wK w k) 6) (aM (aj (aa (al f65) [1,0])) 6),BQ F a b B w,[],c⟩ 6 (oA 2 0 13)=some ([],aX [(w.z+2,0,13)],undef,tH F a b B w k,c):=λc=>v7
def wL(c:Nat):Prop:=eQ (wpOp prog (aj (aa (al f65) [1,0])) (sem prog (al f65) (bodyPost prog f65 (bf (.tuple #[aE (j6 F a b B),aE (qs F k)]) w)) [.code [1,1]])) [] 11 (aj (aa (al f65) [1,0])) (J3 (aj (aa (al f65) [1,0])) (wK w k) c) (Es) 2 (MG w z8 (Er F a b B w k) [] (w.z+3)) (ao (tG F a b B w)) (PvG (qt F a b B w k) (λ_ _ _=>False)) c
end
theorem tJ(k:Int)(B:ByteArray)(w:World):aC 65 #[.agg #[bO_ true,i6 F,i6 a,i6 b,sT B,bO_ false,i6 0,i6 0,i6 0,sT ⟨#[]⟩],i6 k] w (bf (.tuple #[.agg #[bO_ true,i6 F,i6 a,i6 b,sT B,bO_ false,i6 0,i6 0,i6 0,sT ⟨#[]⟩],.agg #[i6 k,i6 F,i6 0,bO_ false,i6 0,i6 0,i6 0,sT ⟨#[]⟩,bO_ false,i6 0,i6 0,i6 0,sT ⟨#[]⟩]]) w):=by
 refine cH (S:=z8) (n:=11) func65 (ab.none w _) ?_;refine Aq 10 (dz 3 0) [1,2,4,5] [] [] [.code [1,0],.code [1,1]] ⟨[(1,i6 k),(2,pt w.z 0),(4,pt (w.z+1) 0),(5,pt (w.z+2) 0)],tG F a b B w,[],w.z+3⟩ ?_;have i:wL F a b B w k 5:=cu (s:=0) (v:=undef) v7 v7 v7 v7 v7 (Mi F a b B w k) trivial;have j:wL F a b B w k 6:=cu (s:=1) (v:=undef) v7 v7 v7 v7 v7 (Mj F a b B w k) trivial;have h:∀f∈(WU [1,2,4]++[rG 0 0 0 10 w.z,rG 3 0 1 1 w.z]:List jU),wL F a b B w k f.i:=dP v7 _ (λl=>v7);refine dO (vs:=qt F a b B w k) (ms:=Er F a b B w k) (Dt:=Es) (J:=2) (V9:=[(4,pt (w.z+1) 0),(5,pt (w.z+2) 0)]) (Ex:=tH F a b B w k) (λ_ _ _=>False) [4,5] v7 v7 v7 (λ_ _ _ _ e=>e.elim) (dW h [5,6] ⟨i,j,tI⟩ v7) v7 v7 v7 (λc d=>?_);replace d:w.z+3<=c:=d;refine z6 3 [] [4,5] [] [] [.code [1,1]] (tH F a b B w k) [] c ?_;refine B1 [[⟨false,1,0,10⟩],[⟨false,2,0,13⟩]] [aE (j6 F a b B),aE (qs F k)] [(w.z+1,0,10),(w.z+2,0,13)] ?_;intro m g;exact⟨rfl,g.x2⟩
section
variable (M F a b i is:Int)(B T:ByteArray)(w:World)(k:Int)
def j7:av:=(pk M F a b i is B T)
def tK:av:=(qs F k)
def SM:av:=BP
def JQ:av:=tE
@[simp] def tL:ax:=[⟨w.z,61,true,j7 M F a b i is B T⟩,⟨w.z+1,61,true,SM⟩,⟨w.z+2,63,true,JQ⟩]
@[simp] def BR:ax:=[⟨w.z,61,true,j7 M F a b i is B T⟩,⟨w.z+1,61,true,j7 M F a b i is B T⟩,⟨w.z+2,63,true,JQ⟩]
@[simp] def tM:ax:=[⟨w.z,61,true,j7 M F a b i is B T⟩,⟨w.z+1,61,true,j7 M F a b i is B T⟩,⟨w.z+2,63,true,tK F k⟩]
def wM:bu:=[(1,i6 k),(2,pt w.z 0),(4,pt (w.z+1) 0),(5,pt (w.z+2) 0)]
def qu:List (Option Value):=[some (aE (j7 M F a b i is B T)),some (i6 k),some (pt w.z 1),some (i6 F),some (aE (tK F k)),some (.tuple #[]),some (.tuple #[])]
def Et:List (ax):=[tL M F a b i is B T w,BR M F a b i is B T w,tM M F a b i is B T w k]
def Eu:List (bi):=[none,none,none,none,none,some 0,some 1]
theorem Mk:∀c,opG prog (aj (aa (al f65) [1,0])) ⟨slG (aj (aa (al f65) [1,0])) (qu M F a b i is B T w k) (J3 (aj (aa (al f65) [1,0])) (wM w k) 5) (aM (aj (aa (al f65) [1,0])) 5),tL M F a b i is B T w,[],c⟩ 5 (oA 1 0 10)=some ([],aX [(w.z+1,0,10)],undef,BR M F a b i is B T w,c):=λc=>v7
theorem Ml:∀c,opG prog (aj (aa (al f65) [1,0])) ⟨slG (aj (aa (al f65) [1,0])) (qu M F a b i is B T w k) (J3 (aj (aa (al f65) [1,0])) (wM w k) 6) (aM (aj (aa (al f65) [1,0])) 6),BR M F a b i is B T w,[],c⟩ 6 (oA 2 0 13)=some ([],aX [(w.z+2,0,13)],undef,tM M F a b i is B T w k,c):=λc=>v7
def wN(c:Nat):Prop:=eQ (wpOp prog (aj (aa (al f65) [1,0])) (sem prog (al f65) (bodyPost prog f65 (bf (.tuple #[aE (j7 M F a b i is B T),aE (tK F k)]) w)) [.code [1,1]])) [] 11 (aj (aa (al f65) [1,0])) (J3 (aj (aa (al f65) [1,0])) (wM w k) c) (Eu) 2 (MG w z8 (Et M F a b i is B T w k) [] (w.z+3)) (ao (tL M F a b i is B T w)) (PvG (qu M F a b i is B T w k) (λ_ _ _=>False)) c
end
theorem JR(k:Int)(B T:ByteArray)(w:World):aC 65 #[.agg #[bO_ true,i6 F,i6 a,i6 b,sT B,bO_ true,i6 i,i6 is,i6 M,sT T],i6 k] w (bf (.tuple #[.agg #[bO_ true,i6 F,i6 a,i6 b,sT B,bO_ true,i6 i,i6 is,i6 M,sT T],.agg #[i6 k,i6 F,i6 0,bO_ false,i6 0,i6 0,i6 0,sT ⟨#[]⟩,bO_ false,i6 0,i6 0,i6 0,sT ⟨#[]⟩]]) w):=by
 refine cH (S:=z8) (n:=11) func65 (ab.none w _) ?_;refine Aq 10 (dz 3 0) [1,2,4,5] [] [] [.code [1,0],.code [1,1]] ⟨[(1,i6 k),(2,pt w.z 0),(4,pt (w.z+1) 0),(5,pt (w.z+2) 0)],tL M F a b i is B T w,[],w.z+3⟩ ?_;have j:wN M F a b i is B T w k 5:=cu (s:=0) (v:=undef) v7 v7 v7 v7 v7 (Mk M F a b i is B T w k) trivial;have l:wN M F a b i is B T w k 6:=cu (s:=1) (v:=undef) v7 v7 v7 v7 v7 (Ml M F a b i is B T w k) trivial;have h:∀f∈(WU [1,2,4]++[rG 0 0 0 10 w.z,rG 3 0 1 1 w.z]:List jU),wN M F a b i is B T w k f.i:=dP v7 _ (λm=>v7);refine dO (vs:=qu M F a b i is B T w k) (ms:=Et M F a b i is B T w k) (Dt:=Eu) (J:=2) (V9:=[(4,pt (w.z+1) 0),(5,pt (w.z+2) 0)]) (Ex:=tM M F a b i is B T w k) (λ_ _ _=>False) [4,5] v7 v7 v7 (λ_ _ _ _ e=>e.elim) (dW h [5,6] ⟨j,l,tI⟩ v7) v7 v7 v7 (λc d=>?_);replace d:w.z+3<=c:=d;refine z6 3 [] [4,5] [] [] [.code [1,1]] (tM M F a b i is B T w k) [] c ?_;refine B1 [[⟨false,1,0,10⟩],[⟨false,2,0,13⟩]] [aE (j7 M F a b i is B T),aE (tK F k)] [(w.z+1,0,10),(w.z+2,0,13)] ?_;intro o g;exact⟨rfl,g.x2⟩
section
variable (S e F a b:Int)(B:ByteArray)(w:World)(f:Nat)
def lT:av:=[bO_ true,i6 e,i6 a,i6 b,sT B,bO_ false,i6 0,i6 0,i6 0,sT ⟨#[]⟩]
def BS:av:=[i6 1,i6 e,i6 0,bO_ true,i6 e,i6 a,i6 b,sT B,bO_ false,i6 0,i6 0,i6 0,sT ⟨#[]⟩]
def BT:av:=(iQ S e)
def kr:av:=BP
def jS:av:=tE
def UW:av:=(km F a b B)
def jl:aH:=[1,1,1,1,1,0,1,0,1,1,0]
def G2:aH:=[1,1,1,1,1,0,1,0,1,1,1]
@[simp] def BU:ax:=[⟨w.z,61,true,lT e a b B⟩,⟨w.z+1,59,true,BT S e⟩,⟨w.z+2,61,true,kr⟩,⟨w.z+3,63,true,jS⟩,⟨f,57,true,[i6 e,i6 0]⟩]
@[simp] def G3:ax:=[⟨w.z,61,true,lT e a b B⟩,⟨w.z+1,59,true,BT S e⟩,⟨w.z+2,61,true,lT e a b B⟩,⟨w.z+3,63,true,jS⟩,⟨f,57,true,[i6 e,i6 0]⟩]
@[simp] def BW:ax:=[⟨w.z,61,true,lT e a b B⟩,⟨w.z+1,59,true,BT S e⟩,⟨w.z+2,61,true,lT e a b B⟩,⟨w.z+3,63,true,BS e a b B⟩,⟨f,57,true,[i6 e,i6 0]⟩]
@[simp] def Qg:ax:=[⟨w.z,61,true,UW F a b B⟩,⟨w.z+1,59,true,BT S e⟩,⟨w.z+2,61,true,kr⟩,⟨w.z+3,63,true,jS⟩]
def BX:bu:=[(2,pt w.z 0),(3,pt (w.z+1) 0),(4,pt (w.z+2) 0),(5,pt (w.z+3) 0),(8,pt f 0)]
def tP:List (Option Value):=[some (aE (lT e a b B)),some (pt w.z 1),some (i6 e),some (aE (lT e a b B)),some (aE (BS e a b B)),some (.tuple #[]),some (.tuple #[])]
def JS:List (ax):=[BU S e a b B w f,G3 S e a b B w f,BW S e a b B w f]
def JT:List (bi):=[none,none,none,none,none,some 0,some 1]
theorem Qh:∀c,opG prog (aj (aa (al f40) jl)) ⟨slG (aj (aa (al f40) jl)) (tP e a b B w) (J3 (aj (aa (al f40) jl)) (BX w f) 5) (aM (aj (aa (al f40) jl)) 5),BU S e a b B w f,[],c⟩ 5 (oA 2 0 10)=some ([],aX [(w.z+2,0,10)],undef,G3 S e a b B w f,c):=λc=>v7
theorem Qi:∀c,opG prog (aj (aa (al f40) jl)) ⟨slG (aj (aa (al f40) jl)) (tP e a b B w) (J3 (aj (aa (al f40) jl)) (BX w f) 6) (aM (aj (aa (al f40) jl)) 6),G3 S e a b B w f,[],c⟩ 6 (oA 3 0 13)=some ([],aX [(w.z+3,0,13)],undef,BW S e a b B w f,c):=λc=>v7
def BY(c:Nat):Prop:=eQ (wpOp prog (aj (aa (al f40) jl)) (sem prog (al f40) (bodyPost prog f40 (bf (.tuple #[aE (lT e a b B),aE (BS e a b B)]) w)) [.code G2,y6 127])) [] 235 (aj (aa (al f40) jl)) (J3 (aj (aa (al f40) jl)) (BX w f) c) (JT) 2 (MG w z8 (JS S e a b B w f) [] (f+1)) (ao (BU S e a b B w f)) (PvG (tP e a b B w) (λ_ _ _=>False)) c
end
theorem sm(m:0<=F∧F<=16777215)(p:0<=a∧a<=16777215)(q:0<=b∧b<=16777215)(k:B.size=16)(o:0<=S∧S<=7)(l:1<=e∧e<=16777215)(z:F<=e)(w:World):aC 40 #[.agg #[bO_ true,i6 F,i6 a,i6 b,sT B,bO_ false,i6 0,i6 0,i6 0,sT ⟨#[]⟩],.agg #[i6 1,i6 S,i6 e,i6 0,i6 0,i6 0,i6 0,i6 0,sT ⟨#[]⟩]] w (bf (.tuple #[.agg #[bO_ true,i6 e,i6 a,i6 b,sT B,bO_ false,i6 0,i6 0,i6 0,sT ⟨#[]⟩],.agg #[i6 1,i6 e,i6 0,bO_ true,i6 e,i6 a,i6 b,sT B,bO_ false,i6 0,i6 0,i6 0,sT ⟨#[]⟩]]) w):=by
 refine cH (S:=z8) (n:=235) func40 (ab.none w _) ?_;refine z6 13 (dz 5 42950197248) [2,3,4,5,10] [] [(w.z,0,10)] [.ops [1,0] [1,2],.code [1,1]] (Qg S e F a b B w) [] (w.z+4) ?_;refine DV (bO_ true) _ _ (some 11) [] tI rfl (λc d=>lc F a b B m p q k c) λr A=>?_;refine z6 8 (dz 2 9437568) [2,3,4,5,6,12] [] [(w.z+1,0,9)] [.ops (Ac 14) [1,2],y6 15] (Qg S e F a b B w) [] r ?_;refine DV (bO_ true) _ _ (some 13) [] tI rfl (λc d=>nW S e o l c) λf C=>?_;refine Aq 64 (dz 39 0x1010800102180000101080010218010010018002004800010318001021800400100180040010018004000000) [2,3,4,5,8] (rE 12 fF++[tT,dF ((e:Int)<F)]) [(w.z+1,0,1),(w.z+1,0,1),(w.z+1,2,1),(w.z+1,3,1),(f,0,2),(w.z+1,0,1),(w.z+1,2,1),(w.z,1,1),(w.z+1,2,1),(w.z,1,1)] [.code jl,.code G2,y6 127] ⟨[(2,pt w.z 0),(3,pt (w.z+1) 0),(4,pt (w.z+2) 0),(5,pt (w.z+3) 0),(8,pt f 0)],BU S e a b B w f,[],f+1⟩ ?_;have u:BY S e a b B w f 5:=cu (s:=0) (v:=undef) v7 v7 v7 v7 v7 (Qh S e a b B w f) trivial;have x:BY S e a b B w f 6:=cu (s:=1) (v:=undef) v7 v7 v7 v7 v7 (Qi S e a b B w f) trivial;have t:∀j∈(WU [1,4]++[rG 0 0 0 10 w.z,rG 2 0 1 1 w.z,rG 3 0 0 10 w.z]:List jU),BY S e a b B w f j.i:=dP v7 _ (λy=>v7);refine dO (vs:=tP e a b B w) (ms:=JS S e a b B w f) (Dt:=JT) (J:=2) (V9:=[(2,pt w.z 0),(3,pt (w.z+1) 0),(4,pt (w.z+2) 0),(5,pt (w.z+3) 0),(8,pt f 0)]) (Ex:=BW S e a b B w f) (λ_ _ _=>False) [2,3,4,5,8] v7 v7 v7 (λ_ _ _ _ i=>i.elim) (dW t [5,6] ⟨u,x,tI⟩ v7) v7 v7 v7 (λg h=>?_);replace h:f+1<=g:=h;refine z6 3 [] [2,3,4,5,8] [] [] [.code G2,y6 127] (BW S e a b B w f) [] g ?_;refine B1 [[⟨false,2,0,10⟩],[⟨false,3,0,13⟩]] [aE (lT e a b B),aE (BS e a b B)] [(w.z+2,0,10),(w.z+3,0,13)] ?_;intro c d;exact⟨rfl,d.x2⟩
section
variable (S e F a b:Int)(B:ByteArray)(w:World)(f:Nat)
def iR:av:=(km F a b B)
def BZ:av:=[i6 1,i6 F,i6 0,bO_ true,i6 F,i6 a,i6 b,sT B,bO_ false,i6 0,i6 0,i6 0,sT ⟨#[]⟩]
def B2:av:=(wF S e)
def Qj:av:=kr
def G4:av:=jS
def gu:aH:=[1,1,1,1,1,1,1,1,1,1,0,1,0,1,0,0]
def G5:aH:=[1,1,1,1,1,1,1,1,1,1,0,1,0,1,0,1]
def G6:aH:=[1,1,1,1,1,1,1,1,1,1,1]
@[simp] def wO:ax:=[⟨w.z,61,true,iR F a b B⟩,⟨w.z+1,59,true,B2 S e⟩,⟨w.z+2,61,true,Qj⟩,⟨w.z+3,63,true,G4⟩,⟨f,57,true,[i6 e,i6 0]⟩]
@[simp] def G7:ax:=[⟨w.z,61,true,iR F a b B⟩,⟨w.z+1,59,true,B2 S e⟩,⟨w.z+2,61,true,iR F a b B⟩,⟨w.z+3,63,true,G4⟩,⟨f,57,true,[i6 e,i6 0]⟩]
@[simp] def B3:ax:=[⟨w.z,61,true,iR F a b B⟩,⟨w.z+1,59,true,B2 S e⟩,⟨w.z+2,61,true,iR F a b B⟩,⟨w.z+3,63,true,BZ F a b B⟩,⟨f,57,true,[i6 e,i6 0]⟩]
@[simp] def Qk:ax:=[⟨w.z,61,true,iR F a b B⟩,⟨w.z+1,59,true,B2 S e⟩,⟨w.z+2,61,true,Qj⟩,⟨w.z+3,63,true,G4⟩]
def tQ:bu:=[(2,pt w.z 0),(4,pt (w.z+2) 0),(5,pt (w.z+3) 0)]
def qv:List (Option Value):=[some (aE (iR F a b B)),some (pt w.z 1),some (i6 F),some (aE (iR F a b B)),some (aE (iR F a b B)),some (aE (BZ F a b B)),some (.tuple #[]),some (.tuple #[])]
def JU:List (ax):=[wO S e F a b B w f,G7 S e F a b B w f,B3 S e F a b B w f]
def JV:List (bi):=[none,none,none,none,none,none,some 0,some 1]
theorem Ql:gg prog (aj (aa (al f40) gu)) (slG (aj (aa (al f40) gu)) (qv F a b B w) (J3 (aj (aa (al f40) gu)) (tQ w) 4) (aM (aj (aa (al f40) gu)) 4)) 4=some (67,[aE (iR F a b B)],bV (aj (aa (al f40) gu)) 4,[]):=v7
theorem Qm:∀c,opG prog (aj (aa (al f40) gu)) ⟨slG (aj (aa (al f40) gu)) (qv F a b B w) (J3 (aj (aa (al f40) gu)) (tQ w) 6) (aM (aj (aa (al f40) gu)) 6),wO S e F a b B w f,[],c⟩ 6 (oA 2 0 10)=some ([],aX [(w.z+2,0,10)],undef,G7 S e F a b B w f,c):=λc=>v7
theorem Qo:∀c,opG prog (aj (aa (al f40) gu)) ⟨slG (aj (aa (al f40) gu)) (qv F a b B w) (J3 (aj (aa (al f40) gu)) (tQ w) 7) (aM (aj (aa (al f40) gu)) 7),G7 S e F a b B w f,[],c⟩ 7 (oA 3 0 13)=some ([],aX [(w.z+3,0,13)],undef,B3 S e F a b B w f,c):=λc=>v7
def tR(d:Nat)(c:Nat):Prop:=eQ (wpOp prog (aj (aa (al f40) gu)) (sem prog (al f40) (bodyPost prog f40 (bf (.tuple #[aE (iR F a b B),aE (BZ F a b B)]) w)) [.code G5,.zq 0,.code G6])) [] 235 (aj (aa (al f40) gu)) (J3 (aj (aa (al f40) gu)) (tQ w) c) (JV) 2 (MG w z8 (JU S e F a b B w f) [] d) (ao (wO S e F a b B w f)) (PvG (qv F a b B w) (λ_ _ _=>False)) c
end
theorem FW(o:0<=F∧F<=16777215)(q:0<=a∧a<=16777215)(r:0<=b∧b<=16777215)(l:B.size=16)(p:0<=S∧S<=7)(m:1<=e∧e<=16777215)(D:F=e)(w:World):aC 40 #[.agg #[bO_ true,i6 F,i6 a,i6 b,sT B,bO_ false,i6 0,i6 0,i6 0,sT ⟨#[]⟩],.agg #[i6 2,i6 S,i6 e,i6 0,i6 0,i6 0,i6 0,i6 0,sT ⟨#[]⟩]] w (bf (.tuple #[.agg #[bO_ true,i6 F,i6 a,i6 b,sT B,bO_ false,i6 0,i6 0,i6 0,sT ⟨#[]⟩],.agg #[i6 1,i6 F,i6 0,bO_ true,i6 F,i6 a,i6 b,sT B,bO_ false,i6 0,i6 0,i6 0,sT ⟨#[]⟩]]) w):=by
 refine cH (S:=z8) (n:=235) func40 (ab.none w _) ?_;refine z6 13 (dz 5 42950197248) [2,3,4,5,10] [] [(w.z,0,10)] [.ops [1,0] [1,2],.code [1,1]] (Qk S e F a b B w) [] (w.z+4) ?_;refine DV (bO_ true) _ _ (some 11) [] tI rfl (λc g=>lc F a b B o q r l c) λt E=>?_;refine z6 8 (dz 2 9437568) [2,3,4,5,6,12] [] [(w.z+1,0,9)] [.ops (Ac 14) [1,2],y6 15] (Qk S e F a b B w) [] t ?_;refine DV (bO_ true) _ _ (some 13) [] tI rfl (λc g=>Md S e p m c) λf G=>?_;refine z6 62 (dz 38 0x200480202080000101080010218000010018002004800010318001021800400100180040010018004000000) [2,3,4,5,8,67,68] (rE 13 fF++[oE ((e != F)=false) (c8.2 yq)]) [(w.z+1,0,1),(w.z+1,0,1),(w.z+1,2,1),(w.z+1,3,1),(f,0,2),(w.z+1,0,1),(w.z+1,2,1),(w.z,1,1),(w.z,2,2),(f,0,2)] [.ops (Ac 510) [3,4,5],y6 511] (wO S e F a b B w f) [] (f+1) ?_;refine DV (bO_ (Xi a b e 0)) _ _ (some 69) [] tI rfl (λc g=>nk a b e 0 c) λd H=>?_;refine Aq 38 (dz 15 0x100010018000010008000010018000) [2,4,5] [fF,fF,tT] [(w.z+1,0,1),(w.z,0,1),(w.z+1,0,1)] [.code gu,.code G5,.zq 0,.code G6] ⟨[(2,pt w.z 0),(4,pt (w.z+2) 0),(5,pt (w.z+3) 0)],wO S e F a b B w f,[],d⟩ ?_;have x:tR S e F a b B w f d 4:=qU (v:=aE (iR F a b B)) v7 v7 (Ql F a b B w) trivial (λA c _ g=>Qf F a b B c);have y:tR S e F a b B w f d 6:=cu (s:=0) (v:=undef) v7 v7 v7 v7 v7 (Qm S e F a b B w f) trivial;have z:tR S e F a b B w f d 7:=cu (s:=1) (v:=undef) v7 v7 v7 v7 v7 (Qo S e F a b B w f) trivial;have u:∀k∈(WU [1,5]++[rG 0 0 0 10 w.z,rG 2 0 1 1 w.z,rG 3 0 0 10 w.z]:List jU),tR S e F a b B w f d k.i:=dP v7 _ (λC=>v7);refine dO (vs:=qv F a b B w) (ms:=JU S e F a b B w f) (Dt:=JV) (J:=2) (V9:=[(2,pt w.z 0),(4,pt (w.z+2) 0),(5,pt (w.z+3) 0)]) (Ex:=B3 S e F a b B w f) (λ_ _ _=>False) [2,4,5] v7 v7 v7 (λ_ _ _ _ j=>j.elim) (dW u [4,6,7] ⟨x,y,z,tI⟩ v7) v7 v7 v7 (λh i=>?_);replace i:d<=h:=i;refine z6 3 [] [2,4,5] [] [] [.code G5,.zq 0,.code G6] (B3 S e F a b B w f) [] h ?_;refine B1 [[⟨false,2,0,10⟩],[⟨false,3,0,13⟩]] [aE (iR F a b B),aE (BZ F a b B)] [(w.z+2,0,10),(w.z+3,0,13)] ?_;intro c g;exact⟨rfl,g.x2⟩
section
variable (S e F a b:Int)(B:ByteArray)(w:World)
def rL:av:=(km F a b B)
def G8:av:=(wG S e)
def Qp:av:=kr
def Qq:av:=jS
def pm:av:=([i6 1,i6 F,i6 0]++ka)
@[simp] def Qr:ax:=[⟨w.z,61,true,rL F a b B⟩,⟨w.z+1,59,true,G8 S e⟩,⟨w.z+2,61,true,Qp⟩,⟨w.z+3,63,true,Qq⟩]
@[simp] def Qs(f:Nat):ax:=[⟨w.z,61,true,rL F a b B⟩,⟨w.z+1,59,true,G8 S e⟩,⟨w.z+2,61,true,Qp⟩,⟨w.z+3,63,true,Qq⟩,⟨f,57,true,[i6 e,i6 0]⟩]
end
theorem DG(i:0<=F∧F<=16777215)(k:0<=a∧a<=16777215)(l:0<=b∧b<=16777215)(g:B.size=16)(j:0<=S∧S<=7)(h:1<=e∧e<=16777215)(q:F=e)(w:World):aC 40 #[.agg #[bO_ true,i6 F,i6 a,i6 b,sT B,bO_ false,i6 0,i6 0,i6 0,sT ⟨#[]⟩],.agg #[i6 3,i6 S,i6 e,i6 0,i6 0,i6 0,i6 0,i6 0,sT ⟨#[]⟩]] w (bf (.tuple #[.agg #[bO_ true,i6 F,i6 a,i6 b,sT B,bO_ false,i6 0,i6 0,i6 0,sT ⟨#[]⟩],.agg #[i6 1,i6 F,i6 0,bO_ false,i6 0,i6 0,i6 0,sT ⟨#[]⟩,bO_ false,i6 0,i6 0,i6 0,sT ⟨#[]⟩]]) w):=by
 refine cH (S:=z8) (n:=235) func40 (ab.none w _) ?_;refine z6 13 (dz 5 42950197248) [2,3,4,5,10] [] [(w.z,0,10)] [.ops [1,0] [1,2],.code [1,1]] (Qr S e F a b B w) [] (w.z+4) ?_;refine DV (bO_ true) _ _ (some 11) [] tI rfl (λc d=>lc F a b B i k l g c) λm r=>?_;refine z6 8 (dz 2 9437568) [2,3,4,5,6,12] [] [(w.z+1,0,9)] [.ops (Ac 14) [1,2],y6 15] (Qr S e F a b B w) [] m ?_;refine DV (bO_ true) _ _ (some 13) [] tI rfl (λc d=>Me S e j h c) λf s=>?_;refine z6 62 (dz 38 0x200480202080000101080010218000010018002004800010318001021800400100180040010018004000000) [2,3,4,5,8,67,68] (rE 13 fF++[oE ((e != F)=false) (c8.2 yq)]) [(w.z+1,0,1),(w.z+1,0,1),(w.z+1,2,1),(w.z+1,3,1),(f,0,2),(w.z+1,0,1),(w.z+1,2,1),(w.z,1,1),(w.z,2,2),(f,0,2)] [.ops (Ac 510) [3,4,5],y6 511] (Qs S e F a b B w f) [] (f+1) ?_;refine DV (bO_ (Xi a b e 0)) _ _ (some 69) [] tI rfl (λc d=>nk a b e 0 c) λo t=>?_;refine z6 60 (dz 25 0xa0008000000000000010018000010008000010018000) [4,5,231] [fF,fF,fF,fF,fF,fF] [(w.z+1,0,1),(w.z,0,1),(w.z+1,0,1),(w.z,0,10)] [.ops (Ac 8190) [1,2,3,4,5],y6 8191] (Qs S e F a b B w f) [] o ?_;refine DV (.tuple #[aE (rL F a b B),aE (pm F)]) _ _ (some 232) [] tI rfl (λc d=>tJ F a b 1 B c) λp u=>?_;refine z6 8 (dz 4 0xd00380a002800) [4,5] [] [(w.z+2,0,10),(w.z+3,0,13)] [y6 8191] [⟨w.z,61,true,rL F a b B⟩,⟨w.z+1,59,true,G8 S e⟩,⟨w.z+2,61,true,rL F a b B⟩,⟨w.z+3,63,true,pm F⟩,⟨f,57,true,[i6 e,i6 0]⟩] [] p ?_;refine B1 [[⟨false,2,0,10⟩],[⟨false,3,0,13⟩]] [aE (rL F a b B),aE (pm F)] [(w.z+2,0,10),(w.z+3,0,13)] ?_;intro c d;exact⟨rfl,d.x2⟩
section
variable (S e Q M F a b:Int)(B T:ByteArray)
def Qt:av:=(km F a b B)
def B4:av:=(wH S e Q M T)
def G9:av:=kr
def G':av:=jS
def wP:av:=[bO_ true,i6 F,i6 a,i6 b,sT B,bO_ true,i6 e,i6 Q,i6 M,sT T]
def Ha:av:=(pm F)
def Qu:aH:=[1,1,1,1,1,1,1,1,1,1,0,1,0,1,1,1,0,1,1,1,1,1,1,1,1]
@[simp] def Qv(w:World):ax:=[⟨w.z,61,true,Qt F a b B⟩,⟨w.z+1,59,true,B4 S e Q M T⟩,⟨w.z+2,61,true,G9⟩,⟨w.z+3,63,true,G'⟩]
end
theorem xj(i:0<=F∧F<=16777215)(o:0<=a∧a<=16777215)(p:0<=b∧b<=16777215)(g:B.size=16)(l:0<=S∧S<=7)(h:1<=e∧e<=16777215)(k:1<=Q∧Q<=16777215)(j:1<=M∧M<=63)(m:T.size=16)(u:F=e)(t:Xi a b e Q=true)(v:¬(a=e∧b=Q))(w:World):aC 40 #[.agg #[bO_ true,i6 F,i6 a,i6 b,sT B,bO_ false,i6 0,i6 0,i6 0,sT ⟨#[]⟩],.agg #[i6 4,i6 S,i6 e,i6 Q,i6 M,i6 0,i6 0,i6 0,sT T]] w (bf (.tuple #[.agg #[bO_ true,i6 F,i6 a,i6 b,sT B,bO_ true,i6 e,i6 Q,i6 M,sT T],.agg #[i6 1,i6 F,i6 0,bO_ false,i6 0,i6 0,i6 0,sT ⟨#[]⟩,bO_ false,i6 0,i6 0,i6 0,sT ⟨#[]⟩]]) w):=by
 refine cH (S:=z8) (n:=235) func40 (ab.none w _) ?_;refine z6 13 (dz 5 42950197248) [2,3,4,5,10] [] [(w.z,0,10)] [.ops [1,0] [1,2],.code [1,1]] (Qv S e Q M F a b B T w) [] (w.z+4) ?_;refine DV (bO_ true) _ _ (some 11) [] tI rfl (λc d=>lc F a b B i o p g c) λq x=>?_;refine z6 8 (dz 2 9437568) [2,3,4,5,6,12] [] [(w.z+1,0,9)] [.ops (Ac 14) [1,2],y6 15] (Qv S e Q M F a b B T w) [] q ?_;refine DV (bO_ true) _ _ (some 13) [] tI rfl (λc d=>Mf S e Q M T l h k j m c) λf y=>?_;refine z6 62 (dz 38 0x200480202080000101080010218000010018002004800010318001021800400100180040010018004000000) [2,3,4,5,8,67,68] (rE 13 fF++[oE ((e != F)=false) (c8.2 yq)]) [(w.z+1,0,1),(w.z+1,0,1),(w.z+1,2,1),(w.z+1,3,1),(f,0,2),(w.z+1,0,1),(w.z+1,2,1),(w.z,1,1),(w.z,2,2),(f,0,2)] [.ops (Ac 510) [3,4,5],y6 511] [⟨w.z,61,true,Qt F a b B⟩,⟨w.z+1,59,true,B4 S e Q M T⟩,⟨w.z+2,61,true,G9⟩,⟨w.z+3,63,true,G'⟩,⟨f,57,true,[i6 e,i6 Q]⟩] [] (f+1) ?_;refine DV (bO_ (Xi a b e Q)) _ _ (some 69) [] tI rfl (λc d=>nk a b e Q c) λr z=>?_;refine z6 110 (dz 56 0xa000801090800108180010808001041800206080020048010508000105080000440004000000105080020200480202080100000010018000010008000010018000) [2,4,5,165] ([fF,fF,fF,tT,vV]++rE 3 (oE ((((a:Int)==e)&&(((b:Int)==Q)&&true))=false) (by simp;omega))++[fF,fF,fF,fF,oE ((((a:Int)==e)&&(((b:Int)==Q)&&true))=false) (by simp;omega),fF,oE ((((a:Int)==e)&&(((b:Int)==Q)&&true))=false) (by simp;omega),fF,fF,oE ((((a:Int)==e)&&(((b:Int)==Q)&&true))=false) (by simp;omega),fF,oE ((((a:Int)==e)&&(((b:Int)==Q)&&true))=false) (by simp;omega),fF,eD (nF t),fF]) [(w.z+1,0,1),(w.z,0,1),(w.z+1,0,1),(w.z,2,2),(f,0,2),(w.z,5,1),(w.z,5,1),(w.z,5,1),(f,0,2),(w.z,6,2),(w.z+1,4,1),(w.z,8,1),(w.z+1,8,1),(w.z,9,1),(w.z,0,10)] [.ops (Ac 67088126) [1,2,3,4,5],.code Qu,.zq 0,y6 4095] [⟨w.z,61,true,wP e Q M F a b B T⟩,⟨w.z+1,59,true,B4 S e Q M T⟩,⟨w.z+2,61,true,G9⟩,⟨w.z+3,63,true,G'⟩,⟨f,57,true,[i6 e,i6 Q]⟩] [] r ?_;refine DV (.tuple #[aE (wP e Q M F a b B T),aE (Ha F)]) _ _ (some 166) [] tI rfl (λc d=>JR F a b e Q M 1 B T c) λs A=>?_;refine z6 8 (dz 4 0xd00380a002800) [2,4,5] [] [(w.z+2,0,10),(w.z+3,0,13)] [.code Qu,.zq 0,y6 4095] [⟨w.z,61,true,wP e Q M F a b B T⟩,⟨w.z+1,59,true,B4 S e Q M T⟩,⟨w.z+2,61,true,wP e Q M F a b B T⟩,⟨w.z+3,63,true,Ha F⟩,⟨f,57,true,[i6 e,i6 Q]⟩] [] s ?_;refine B1 [[⟨false,2,0,10⟩],[⟨false,3,0,13⟩]] [aE (wP e Q M F a b B T),aE (Ha F)] [(w.z+2,0,10),(w.z+3,0,13)] ?_;intro c d;exact⟨rfl,d.x2⟩
section
variable (S e Q M F a b i is:Int)(B T:ByteArray)(w:World)
def Hb:av:=(pk M F a b i is B T)
def Hc:av:=(rK S e Q)
def Qw:av:=kr
def Qy:av:=jS
def B5:av:=(G0 F i is T)
def Hd:av:=(pm F)
def Qz:aH:=[1,1,1,1,1,1,1,1,1,1,0,1,0,1,1,1,1,1,0,0,1,0,0]
def He:aH:=[1,1,1,1,1,1,1,1,1,1,0,1,0,1,1,1,1,1,0,0,1,0,1]
def Hf:aH:=[1,1,1,1,1,1,1,1,1,1,0,1,0,1,1,1,1,1,0,1]
def Hg:aH:=[1,1,1,1,1,1,1,1,1,1,1]
@[simp] def QA:ax:=[⟨w.z,61,true,Hb M F a b i is B T⟩,⟨w.z+1,59,true,Hc S e Q⟩,⟨w.z+2,61,true,Qw⟩,⟨w.z+3,63,true,Qy⟩]
@[simp] def Hh(f:Nat):ax:=[⟨w.z,61,true,Hb M F a b i is B T⟩,⟨w.z+1,59,true,Hc S e Q⟩,⟨w.z+2,61,true,Qw⟩,⟨w.z+3,63,true,Qy⟩,⟨f,57,true,[i6 e,i6 Q]⟩]
end
theorem zE(S e Q:Int)(B T:ByteArray)(j:0<=F∧F<=16777215)(p:0<=a∧a<=16777215)(q:0<=b∧b<=16777215)(g:B.size=16)(u:0<=i∧i<=16777215)(v:0<=is∧is<=16777215)(k:1<=M∧M<=63)(o:T.size=16)(m:0<=S∧S<=7)(h:1<=e∧e<=16777215)(l:1<=Q∧Q<=16777215)(A:F=e)(y:i=e)(z:is=Q)(w:World):aC 40 #[.agg #[bO_ true,i6 F,i6 a,i6 b,sT B,bO_ true,i6 i,i6 is,i6 M,sT T],.agg #[i6 5,i6 S,i6 e,i6 Q,i6 0,i6 0,i6 0,i6 0,sT ⟨#[]⟩]] w (bf (.tuple #[.agg #[bO_ true,i6 F,i6 i,i6 is,sT T,bO_ false,i6 0,i6 0,i6 0,sT ⟨#[]⟩],.agg #[i6 1,i6 F,i6 0,bO_ false,i6 0,i6 0,i6 0,sT ⟨#[]⟩,bO_ false,i6 0,i6 0,i6 0,sT ⟨#[]⟩]]) w):=by
 refine cH (S:=z8) (n:=235) func40 (ab.none w _) ?_;refine z6 13 (dz 5 42950197248) [2,3,4,5,10] [] [(w.z,0,10)] [.ops [1,0] [1,2],.code [1,1]] (QA S e Q M F a b i is B T w) [] (w.z+4) ?_;refine DV (bO_ true) _ _ (some 11) [] tI rfl (λc d=>yf F a b i is M B T j p q g u v k o c) λr C=>?_;refine z6 8 (dz 2 9437568) [2,3,4,5,6,12] [] [(w.z+1,0,9)] [.ops (Ac 14) [1,2],y6 15] (QA S e Q M F a b i is B T w) [] r ?_;refine DV (bO_ true) _ _ (some 13) [] tI rfl (λc d=>Mg S e Q m h l c) λf D=>?_;refine z6 62 (dz 38 0x200480202080000101080010218000010018002004800010318001021800400100180040010018004000000) [2,3,4,5,8,67,68] (rE 13 fF++[oE ((e != F)=false) (c8.2 yq)]) [(w.z+1,0,1),(w.z+1,0,1),(w.z+1,2,1),(w.z+1,3,1),(f,0,2),(w.z+1,0,1),(w.z+1,2,1),(w.z,1,1),(w.z,2,2),(f,0,2)] [.ops (Ac 510) [3,4,5],y6 511] (Hh S e Q M F a b i is B T w f) [] (f+1) ?_;refine DV (bO_ (Xi a b e Q)) _ _ (some 69) [] tI rfl (λc d=>nk a b e Q c) λs E=>?_;refine z6 65 (dz 31 0xa0008135020049020609100105080100000000010018000010008000010018000) [2,4,5,8,179] [fF,fF,fF,fF,tT,tT,tT,tT,tT,vV,tT,oE ((((i:Int)==e)&&(((is:Int)==Q)&&true))=true) (by simp[y,z])] [(w.z+1,0,1),(w.z,0,1),(w.z+1,0,1),(w.z,5,1),(w.z,6,2),(f,0,2),(w.z,0,10)] [.ops Qz [1,2,3,4,5,6],.code He,.code Hf,.zq 0,.code Hg] (Hh S e Q M F a b i is B T w f) [] s ?_;refine DV (aE (B5 F i is T)) _ _ (some 180) [] tI rfl (λc d=>UV F a b i is M B T c) λt G=>?_;refine z6 3 [] [2,4,5,8,180] [] [] [.ops Qz [2,3,4,5,6],.code He,.code Hf,.zq 0,.code Hg] (Hh S e Q M F a b i is B T w f) [] t ?_;refine DV (.tuple #[aE (B5 F i is T),aE (Hd F)]) _ _ (some 181) [] tI rfl (λc d=>tJ F i is 1 T c) λx H=>?_;refine z6 8 (dz 4 0xd00380a002800) [2,4,5,8] [] [(w.z+2,0,10),(w.z+3,0,13)] [.code He,.code Hf,.zq 0,.code Hg] [⟨w.z,61,true,Hb M F a b i is B T⟩,⟨w.z+1,59,true,Hc S e Q⟩,⟨w.z+2,61,true,B5 F i is T⟩,⟨w.z+3,63,true,Hd F⟩,⟨f,57,true,[i6 e,i6 Q]⟩] [] x ?_;refine B1 [[⟨false,2,0,10⟩],[⟨false,3,0,13⟩]] [aE (B5 F i is T),aE (Hd F)] [(w.z+2,0,10),(w.z+3,0,13)] ?_;intro c d;exact⟨rfl,d.x2⟩
section
variable (S e F:Int)(w:World)(f:Nat)
def js:av:=[bO_ false,i6 e,i6 0,i6 0,sT ⟨#[]⟩,bO_ false,i6 0,i6 0,i6 0,sT ⟨#[]⟩]
def tS:av:=[i6 1,i6 e,i6 0,bO_ false,i6 e,i6 0,i6 0,sT ⟨#[]⟩,bO_ false,i6 0,i6 0,i6 0,sT ⟨#[]⟩]
def tU:av:=(iQ S e)
def JW:av:=kr
def B6:av:=jS
def SN:av:=(wE F)
def gY:aH:=[1,1,1,1,1,0,1,0,1,1,0]
def B7:aH:=[1,1,1,1,1,0,1,0,1,1,1]
@[simp] def tV:ax:=[⟨w.z,61,true,js e⟩,⟨w.z+1,59,true,tU S e⟩,⟨w.z+2,61,true,JW⟩,⟨w.z+3,63,true,B6⟩,⟨f,57,true,[i6 e,i6 0]⟩]
@[simp] def B8:ax:=[⟨w.z,61,true,js e⟩,⟨w.z+1,59,true,tU S e⟩,⟨w.z+2,61,true,js e⟩,⟨w.z+3,63,true,B6⟩,⟨f,57,true,[i6 e,i6 0]⟩]
@[simp] def tW:ax:=[⟨w.z,61,true,js e⟩,⟨w.z+1,59,true,tU S e⟩,⟨w.z+2,61,true,js e⟩,⟨w.z+3,63,true,tS e⟩,⟨f,57,true,[i6 e,i6 0]⟩]
@[simp] def JX:ax:=[⟨w.z,61,true,SN F⟩,⟨w.z+1,59,true,tU S e⟩,⟨w.z+2,61,true,JW⟩,⟨w.z+3,63,true,B6⟩]
def wQ:bu:=[(2,pt w.z 0),(3,pt (w.z+1) 0),(4,pt (w.z+2) 0),(5,pt (w.z+3) 0),(8,pt f 0)]
def qw:List (Option Value):=[some (aE (js e)),some (pt w.z 1),some (i6 e),some (aE (js e)),some (aE (tS e)),some (.tuple #[]),some (.tuple #[])]
def Ew:List (ax):=[tV S e w f,B8 S e w f,tW S e w f]
def Ey:List (bi):=[none,none,none,none,none,some 0,some 1]
theorem Mm:∀a,opG prog (aj (aa (al f40) gY)) ⟨slG (aj (aa (al f40) gY)) (qw e w) (J3 (aj (aa (al f40) gY)) (wQ w f) 5) (aM (aj (aa (al f40) gY)) 5),tV S e w f,[],a⟩ 5 (oA 2 0 10)=some ([],aX [(w.z+2,0,10)],undef,B8 S e w f,a):=λa=>v7
theorem Mn:∀a,opG prog (aj (aa (al f40) gY)) ⟨slG (aj (aa (al f40) gY)) (qw e w) (J3 (aj (aa (al f40) gY)) (wQ w f) 6) (aM (aj (aa (al f40) gY)) 6),B8 S e w f,[],a⟩ 6 (oA 3 0 13)=some ([],aX [(w.z+3,0,13)],undef,tW S e w f,a):=λa=>v7
def wR(a:Nat):Prop:=eQ (wpOp prog (aj (aa (al f40) gY)) (sem prog (al f40) (bodyPost prog f40 (bf (.tuple #[aE (js e),aE (tS e)]) w)) [.code B7,y6 127])) [] 235 (aj (aa (al f40) gY)) (J3 (aj (aa (al f40) gY)) (wQ w f) a) (Ey) 2 (MG w z8 (Ew S e w f) [] (f+1)) (ao (tV S e w f)) (PvG (qw e w) (λ_ _ _=>False)) a
end
theorem zw(j:0<=F∧F<=16777215)(k:0<=S∧S<=7)(i:1<=e∧e<=16777215)(r:F<=e)(w:World):aC 40 #[.agg #[bO_ false,i6 F,i6 0,i6 0,sT ⟨#[]⟩,bO_ false,i6 0,i6 0,i6 0,sT ⟨#[]⟩],.agg #[i6 1,i6 S,i6 e,i6 0,i6 0,i6 0,i6 0,i6 0,sT ⟨#[]⟩]] w (bf (.tuple #[.agg #[bO_ false,i6 e,i6 0,i6 0,sT ⟨#[]⟩,bO_ false,i6 0,i6 0,i6 0,sT ⟨#[]⟩],.agg #[i6 1,i6 e,i6 0,bO_ false,i6 e,i6 0,i6 0,sT ⟨#[]⟩,bO_ false,i6 0,i6 0,i6 0,sT ⟨#[]⟩]]) w):=by
 refine cH (S:=z8) (n:=235) func40 (ab.none w _) ?_;refine z6 13 (dz 5 42950197248) [2,3,4,5,10] [] [(w.z,0,10)] [.ops [1,0] [1,2],.code [1,1]] (JX S e F w) [] (w.z+4) ?_;refine DV (bO_ true) _ _ (some 11) [] tI rfl (λa b=>yg F j a) λl t=>?_;refine z6 8 (dz 2 9437568) [2,3,4,5,6,12] [] [(w.z+1,0,9)] [.ops (Ac 14) [1,2],y6 15] (JX S e F w) [] l ?_;refine DV (bO_ true) _ _ (some 13) [] tI rfl (λa b=>nW S e k i a) λf u=>?_;refine Aq 64 (dz 39 0x1010800102180000101080010218010010018002004800010318001021800400100180040010018004000000) [2,3,4,5,8] (rE 12 fF++[tT,dF ((e:Int)<F)]) [(w.z+1,0,1),(w.z+1,0,1),(w.z+1,2,1),(w.z+1,3,1),(f,0,2),(w.z+1,0,1),(w.z+1,2,1),(w.z,1,1),(w.z+1,2,1),(w.z,1,1)] [.code gY,.code B7,y6 127] ⟨[(2,pt w.z 0),(3,pt (w.z+1) 0),(4,pt (w.z+2) 0),(5,pt (w.z+3) 0),(8,pt f 0)],tV S e w f,[],f+1⟩ ?_;have o:wR S e w f 5:=cu (s:=0) (v:=undef) v7 v7 v7 v7 v7 (Mm S e w f) trivial;have p:wR S e w f 6:=cu (s:=1) (v:=undef) v7 v7 v7 v7 v7 (Mn S e w f) trivial;have m:∀h∈(WU [1,4]++[rG 0 0 0 10 w.z,rG 2 0 1 1 w.z,rG 3 0 0 10 w.z]:List jU),wR S e w f h.i:=dP v7 _ (λq=>v7);refine dO (vs:=qw e w) (ms:=Ew S e w f) (Dt:=Ey) (J:=2) (V9:=[(2,pt w.z 0),(3,pt (w.z+1) 0),(4,pt (w.z+2) 0),(5,pt (w.z+3) 0),(8,pt f 0)]) (Ex:=tW S e w f) (λ_ _ _=>False) [2,3,4,5,8] v7 v7 v7 (λ_ _ _ _ g=>g.elim) (dW m [5,6] ⟨o,p,tI⟩ v7) v7 v7 v7 (λc d=>?_);replace d:f+1<=c:=d;refine z6 3 [] [2,3,4,5,8] [] [] [.code B7,y6 127] (tW S e w f) [] c ?_;refine B1 [[⟨false,2,0,10⟩],[⟨false,3,0,13⟩]] [aE (js e),aE (tS e)] [(w.z+2,0,10),(w.z+3,0,13)] ?_;intro a b;exact⟨rfl,b.x2⟩
section
variable (S e Q F:Int)(T:ByteArray)(w:World)
def B9:av:=(wE F)
def Ca:av:=(wI S e Q T)
def JY:av:=kr
def JZ:av:=jS
def Cb:av:=[bO_ true,i6 F,i6 e,i6 Q,sT T,bO_ false,i6 0,i6 0,i6 0,sT ⟨#[]⟩]
def Cc:av:=(pm F)
@[simp] def J0:ax:=[⟨w.z,61,true,B9 F⟩,⟨w.z+1,59,true,Ca S e Q T⟩,⟨w.z+2,61,true,JY⟩,⟨w.z+3,63,true,JZ⟩]
@[simp] def J6(f:Nat):ax:=[⟨w.z,61,true,B9 F⟩,⟨w.z+1,59,true,Ca S e Q T⟩,⟨w.z+2,61,true,JY⟩,⟨w.z+3,63,true,JZ⟩,⟨f,57,true,[i6 e,i6 Q]⟩]
end
theorem LL(d:0<=F∧F<=16777215)(h:0<=S∧S<=7)(c:1<=e∧e<=16777215)(g:1<=Q∧Q<=16777215)(i:T.size=16)(m:F=e)(w:World):aC 40 #[.agg #[bO_ false,i6 F,i6 0,i6 0,sT ⟨#[]⟩,bO_ false,i6 0,i6 0,i6 0,sT ⟨#[]⟩],.agg #[i6 7,i6 S,i6 e,i6 Q,i6 0,i6 0,i6 0,i6 0,sT T]] w (bf (.tuple #[.agg #[bO_ true,i6 F,i6 e,i6 Q,sT T,bO_ false,i6 0,i6 0,i6 0,sT ⟨#[]⟩],.agg #[i6 1,i6 F,i6 0,bO_ false,i6 0,i6 0,i6 0,sT ⟨#[]⟩,bO_ false,i6 0,i6 0,i6 0,sT ⟨#[]⟩]]) w):=by
 refine cH (S:=z8) (n:=235) func40 (ab.none w _) ?_;refine z6 13 (dz 5 42950197248) [2,3,4,5,10] [] [(w.z,0,10)] [.ops [1,0] [1,2],.code [1,1]] (J0 S e Q F T w) [] (w.z+4) ?_;refine DV (bO_ true) _ _ (some 11) [] tI rfl (λa b=>yg F d a) λj o=>?_;refine z6 8 (dz 2 9437568) [2,3,4,5,6,12] [] [(w.z+1,0,9)] [.ops (Ac 14) [1,2],y6 15] (J0 S e Q F T w) [] j ?_;refine DV (bO_ true) _ _ (some 13) [] tI rfl (λa b=>Mh S e Q T h c g i a) λf p=>?_;refine z6 62 (dz 38 0x200480202080000101080010218000010018002004800010318001021800400100180040010018004000000) [2,3,4,5,8,67,68] (rE 13 fF++[oE ((e != F)=false) (c8.2 yq)]) [(w.z+1,0,1),(w.z+1,0,1),(w.z+1,2,1),(w.z+1,3,1),(f,0,2),(w.z+1,0,1),(w.z+1,2,1),(w.z,1,1),(w.z,2,2),(f,0,2)] [.ops (Ac 510) [3,4,5],y6 511] (J6 S e Q F T w f) [] (f+1) ?_;refine DV (bO_ (Xi 0 0 e Q)) _ _ (some 69) [] tI rfl (λa b=>nk 0 0 e Q a) λk q=>?_;refine z6 47 (dz 27 0x1081800200480101080040001000800400000010008010010018000) [2,3,4,5,8,9,100] ([tT]++rE 9 fF) [(w.z+1,0,1),(w.z,0,1),(w.z,0,1),(w.z,1,1),(f,0,2),(w.z+1,8,1)] [.ops (Ac 32726) [6,7,8,9,10],y6 32727,y6 1023] (J6 S e Q F T w f) [] k ?_;refine DV (.tuple #[aE (Cb e Q F T),aE (Cc F)]) _ _ (some 101) [] tI rfl (λa b=>tJ F e Q 1 T a) λl r=>?_;refine z6 8 (dz 4 0xd00380a002800) [2,3,4,5,8,9] [] [(w.z+2,0,10),(w.z+3,0,13)] [y6 32727,y6 1023] [⟨w.z,61,true,B9 F⟩,⟨w.z+1,59,true,Ca S e Q T⟩,⟨w.z+2,61,true,Cb e Q F T⟩,⟨w.z+3,63,true,Cc F⟩,⟨f,57,true,[i6 e,i6 Q]⟩] [] l ?_;refine B1 [[⟨false,2,0,10⟩],[⟨false,3,0,13⟩]] [aE (Cb e Q F T),aE (Cc F)] [(w.z+2,0,10),(w.z+3,0,13)] ?_;intro a b;exact⟨rfl,b.x2⟩
section
variable (S e F a b:Int)(B:ByteArray)
def nX:av:=(km F a b B)
def Cd:av:=(iQ S e)
def J9:av:=kr
def J':av:=jS
def tX:av:=((pm F).set 0 (i6 2))
@[simp] def Ka(w:World):ax:=[⟨w.z,61,true,nX F a b B⟩,⟨w.z+1,59,true,Cd S e⟩,⟨w.z+2,61,true,J9⟩,⟨w.z+3,63,true,J'⟩]
end
theorem zm(i:0<=F∧F<=16777215)(k:0<=a∧a<=16777215)(l:0<=b∧b<=16777215)(g:B.size=16)(j:0<=S∧S<=7)(h:1<=e∧e<=16777215)(p:e<F)(w:World):aC 40 #[.agg #[bO_ true,i6 F,i6 a,i6 b,sT B,bO_ false,i6 0,i6 0,i6 0,sT ⟨#[]⟩],.agg #[i6 1,i6 S,i6 e,i6 0,i6 0,i6 0,i6 0,i6 0,sT ⟨#[]⟩]] w (bf (.tuple #[.agg #[bO_ true,i6 F,i6 a,i6 b,sT B,bO_ false,i6 0,i6 0,i6 0,sT ⟨#[]⟩],.agg #[i6 2,i6 F,i6 0,bO_ false,i6 0,i6 0,i6 0,sT ⟨#[]⟩,bO_ false,i6 0,i6 0,i6 0,sT ⟨#[]⟩]]) w):=by
 refine cH (S:=z8) (n:=235) func40 (ab.none w _) ?_;refine z6 13 (dz 5 42950197248) [2,3,4,5,10] [] [(w.z,0,10)] [.ops [1,0] [1,2],.code [1,1]] (Ka S e F a b B w) [] (w.z+4) ?_;refine DV (bO_ true) _ _ (some 11) [] tI rfl (λc d=>lc F a b B i k l g c) λm q=>?_;refine z6 8 (dz 2 9437568) [2,3,4,5,6,12] [] [(w.z+1,0,9)] [.ops (Ac 14) [1,2],y6 15] (Ka S e F a b B w) [] m ?_;refine DV (bO_ true) _ _ (some 13) [] tI rfl (λc d=>nW S e j h c) λf r=>?_;refine z6 58 (dz 36 0xa0008100101080010218010010018002004800010318001021800400100180040010018004000000) [2,3,4,5,8,45] (rE 12 fF++[tT,dT ((e:Int)<F)]) [(w.z+1,0,1),(w.z+1,0,1),(w.z+1,2,1),(w.z+1,3,1),(f,0,2),(w.z+1,0,1),(w.z+1,2,1),(w.z,1,1),(w.z,0,10)] [.ops (Ac 8100) [1,2,3,4,5],y6 8101,y6 1013,y6 127] [⟨w.z,61,true,nX F a b B⟩,⟨w.z+1,59,true,Cd S e⟩,⟨w.z+2,61,true,J9⟩,⟨w.z+3,63,true,J'⟩,⟨f,57,true,[i6 e,i6 0]⟩] [] (f+1) ?_;refine DV (.tuple #[aE (nX F a b B),aE (tX F)]) _ _ (some 46) [] tI rfl (λc d=>tJ F a b 2 B c) λo s=>?_;refine z6 8 (dz 4 0xd00380a002800) [2,3,4,5,8] [] [(w.z+2,0,10),(w.z+3,0,13)] [y6 8101,y6 1013,y6 127] [⟨w.z,61,true,nX F a b B⟩,⟨w.z+1,59,true,Cd S e⟩,⟨w.z+2,61,true,nX F a b B⟩,⟨w.z+3,63,true,tX F⟩,⟨f,57,true,[i6 e,i6 0]⟩] [] o ?_;refine B1 [[⟨false,2,0,10⟩],[⟨false,3,0,13⟩]] [aE (nX F a b B),aE (tX F)] [(w.z+2,0,10),(w.z+3,0,13)] ?_;intro c d;exact⟨rfl,d.x2⟩
section
variable (S e M F a b i is:Int)(B T:ByteArray)
def nY:av:=(pk M F a b i is B T)
def Ce:av:=(iQ S e)
def Kb:av:=kr
def Kc:av:=jS
def Cf:av:=(tX F)
@[simp] def Kd(w:World):ax:=[⟨w.z,61,true,nY M F a b i is B T⟩,⟨w.z+1,59,true,Ce S e⟩,⟨w.z+2,61,true,Kb⟩,⟨w.z+3,63,true,Kc⟩]
end
theorem zn(S e:Int)(B T:ByteArray)(j:0<=F∧F<=16777215)(o:0<=a∧a<=16777215)(p:0<=b∧b<=16777215)(g:B.size=16)(s:0<=i∧i<=16777215)(t:0<=is∧is<=16777215)(k:1<=M∧M<=63)(m:T.size=16)(l:0<=S∧S<=7)(h:1<=e∧e<=16777215)(u:e<F)(w:World):aC 40 #[.agg #[bO_ true,i6 F,i6 a,i6 b,sT B,bO_ true,i6 i,i6 is,i6 M,sT T],.agg #[i6 1,i6 S,i6 e,i6 0,i6 0,i6 0,i6 0,i6 0,sT ⟨#[]⟩]] w (bf (.tuple #[.agg #[bO_ true,i6 F,i6 a,i6 b,sT B,bO_ true,i6 i,i6 is,i6 M,sT T],.agg #[i6 2,i6 F,i6 0,bO_ false,i6 0,i6 0,i6 0,sT ⟨#[]⟩,bO_ false,i6 0,i6 0,i6 0,sT ⟨#[]⟩]]) w):=by
 refine cH (S:=z8) (n:=235) func40 (ab.none w _) ?_;refine z6 13 (dz 5 42950197248) [2,3,4,5,10] [] [(w.z,0,10)] [.ops [1,0] [1,2],.code [1,1]] (Kd S e M F a b i is B T w) [] (w.z+4) ?_;refine DV (bO_ true) _ _ (some 11) [] tI rfl (λc d=>yf F a b i is M B T j o p g s t k m c) λq v=>?_;refine z6 8 (dz 2 9437568) [2,3,4,5,6,12] [] [(w.z+1,0,9)] [.ops (Ac 14) [1,2],y6 15] (Kd S e M F a b i is B T w) [] q ?_;refine DV (bO_ true) _ _ (some 13) [] tI rfl (λc d=>nW S e l h c) λf x=>?_;refine z6 58 (dz 36 0xa0008100101080010218010010018002004800010318001021800400100180040010018004000000) [2,3,4,5,8,45] (rE 12 fF++[tT,dT ((e:Int)<F)]) [(w.z+1,0,1),(w.z+1,0,1),(w.z+1,2,1),(w.z+1,3,1),(f,0,2),(w.z+1,0,1),(w.z+1,2,1),(w.z,1,1),(w.z,0,10)] [.ops (Ac 8100) [1,2,3,4,5],y6 8101,y6 1013,y6 127] [⟨w.z,61,true,nY M F a b i is B T⟩,⟨w.z+1,59,true,Ce S e⟩,⟨w.z+2,61,true,Kb⟩,⟨w.z+3,63,true,Kc⟩,⟨f,57,true,[i6 e,i6 0]⟩] [] (f+1) ?_;refine DV (.tuple #[aE (nY M F a b i is B T),aE (Cf F)]) _ _ (some 46) [] tI rfl (λc d=>JR F a b i is M 2 B T c) λr y=>?_;refine z6 8 (dz 4 0xd00380a002800) [2,3,4,5,8] [] [(w.z+2,0,10),(w.z+3,0,13)] [y6 8101,y6 1013,y6 127] [⟨w.z,61,true,nY M F a b i is B T⟩,⟨w.z+1,59,true,Ce S e⟩,⟨w.z+2,61,true,nY M F a b i is B T⟩,⟨w.z+3,63,true,Cf F⟩,⟨f,57,true,[i6 e,i6 0]⟩] [] r ?_;refine B1 [[⟨false,2,0,10⟩],[⟨false,3,0,13⟩]] [aE (nY M F a b i is B T),aE (Cf F)] [(w.z+2,0,10),(w.z+3,0,13)] ?_;intro c d;exact⟨rfl,d.x2⟩
end Go.Proofs.YtcmpkkapkdlfhaaGreat
