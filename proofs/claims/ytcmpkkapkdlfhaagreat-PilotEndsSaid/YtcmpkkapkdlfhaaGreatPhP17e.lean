import Derived.Test.YtcmpkkapkdlfhaaGreatPil7e
namespace Go.Proofs.YtcmpkkapkdlfhaaGreat
open Go.RowKit Tryz
set_option maxHeartbeats 4000000
set_option maxRecDepth 100000
def jV(N sn o:Int):Int:=if o=-1 then -1 else(o+N-sn%N)%N
variable {N o:Int}(x:am)(c:CM)(L:List ar)(pb v8:Nat)(ya:Int)
theorem io(k:Int)(c:3<=x.N∧x.N<=6∧1<=x.S∧x.S<=8)(hs:0<=x.sn∧x.sn<x.S)(d:-1<=k∧k<x.N)(w:World)(b:A2 w pb 98 (am.cells x)):aC 46 #[pt pb 0,i6 k] w (bf (i6 (jV x.N x.sn k)) w):=by
 unfold jV;by_cases a:k=-1
 ·subst a;exact mV x pb c hs w b
 ·rw[ay a];exact lM x pb k c hs yq w b
theorem pZ{sn:Int}(d:3<=N):-1<=jV N sn o∧jV N sn o<=N-1:=by
 unfold jV;split
 ·omega
 ·have a:=eY (o+N-sn%N) (b:=N) yq;have c:=gy (o+N-sn%N) (b:=N) yq;omega
theorem L5{c:Int}(d:3<=N)(e:0<=c∧c<N-1):∀b∈bF N c o,0<=b∧b<N:=λb a=>by
 unfold bF at a
 split at a
 ·have:=gp a;omega
 ·obtain rfl:=aG.1 a;omega
theorem L6{c:Int}(d:3<=N):∀b∈cT N c o,0<=b∧b<N:=λb a=>by
 unfold cT at a
 split at a
 ·obtain rfl:=aG.1 a;exact⟨eY _ yq,gy _ yq⟩
 ·cases a
theorem L7{S c oc:Int}(e:3<=N∧N<=6∧1<=S∧S<=8)(d:0<=c∧c<N-1):(bF N c oc).length+(cT N c oc).length<=6:=by
 unfold bF cT;by_cases a:oc=c
 ·have b:=tx N.toNat c;rw[aA a,ay yq];simp only[List.length_nil];omega
 ·rw[ay a];split<;>simp
theorem SC{S c:Int}(i:3<=N∧N<=6∧1<=S∧S<=8)(h:0<=c∧c<N-1)(e:o≠N-1):(∀a∈cN N c o,0<=a∧a<N)∧0<(cN N c o).length∧(cN N c o).length<=6:=by
 unfold cN;rw[ay e];by_cases d:o=c
 ·rw[aA d];have g:=tx (N-1).toNat c;refine⟨λa b=>by have:=gp b;omega,?_,yq⟩;obtain⟨a,b⟩:∃a,a∈eu (N-1).toNat c:=by
   by_cases f:c=0
   ·exact⟨1,dR.2 ⟨aT.2 ⟨1,bn.2 yq,rfl⟩,by simp;omega⟩⟩
   ·exact⟨0,dR.2 ⟨aT.2 ⟨0,bn.2 yq,rfl⟩,by simp;omega⟩⟩
  exact List.length_pos_of_mem b
 ·rw[ay d];refine⟨λa b=>?_,z1,z1⟩;simp only[bj,cv,or_false]at b;rcases b with rfl|rfl<;>omega
@[simp] def Pn(x:am)(pb:Nat)(v1:Value):ax:=[⟨pb,98,true,am.cells {x with busy:=false,kd:=0,at_:=0,da:=⟨#[]⟩,sn:=0,cn:=0,nx:=.nilFunc,lg:=false,en:=0,ep:=0,ou:=0,db:=false,te:=0,ts:=0,kn:=z7,rc:=z7,Wh:=false,rd:=z7,wr:=z7,bl:=WC,ud:=.pointer none,ak:=v1,er:=0,dt:=⟨#[]⟩,ed:=(x.ed+1)}⟩]
theorem zI(s:3<=x.N∧x.N<=6∧1<=x.S∧x.S<=8)(hs:0<=x.sn∧x.sn<x.S)(J:0<=x.ed∧x.ed<1099511627776)(w:World)(r:aP w v8 pb ({x with kd:=3,ou:=(-1)}) c L)(H:v8<=w.z):aC 32 #[pt pb 0,i6 ya] w (λl f=>l=Jx∧aP f v8 pb (x.ended 0 ⟨#[]⟩) {c with zL:=[]} L∧(∀e,bO 124 141 f e x.cb {c with zL:=[]})∧au (be [141] v8 x.lb pb x.cb w) w f):=by
 obtain⟨v,k,q⟩:=r;have C:=aw k;refine cH (S:=(λi=>i=pb)) (n:=105) func32 (ab.D1 k) ?_;refine z6 17 (dz 9 0x1350800000000) [0,1,4,12,16] [] [(pb,53,1)] [.ops [1,0] [5,6],.code [1,1]] [bh pb {x with kd:=3,ou:=-1,ak:=v}] [] w.z ?_;refine DV (i6 (-1)) _ _ (some 17) [] tI rfl (λd a=>mV ({x with kd:=3,ou:=-1,ak:=v}) pb s hs d (a.at_ 0 rfl)) λy P=>?_;refine z6 26 (dz 17 0x103101350911100012c0800000) [64] (rE 7 tT) [(pb,44,1),(pb,53,1)] [.ops (Ac 58) [1],.zq 0] [bh pb {x with kd:=3,ou:=-1,ak:=v}] [] y ?_;refine Ip (w:=w) (S':=bL [141] v8 x pb w) (Y:=Value) (λb=>.tuple #[]) (λb=>Pn x pb b) (λb j=>bq j v8 x.lb x.cb ({c with zL:=[]}) L b∧(∀e,bO 124 141 j e x.cb {c with zL:=[]})) (v7:_=some (47,[pt pb 0,i6 0,sT ⟨#[]⟩],some 65,[])) tI (λd a=>?_) (λb p G g=>?_)
 ·have h:=(a.wide (S':=bL [141] v8 x pb w) (λ_ o=>.inl o));have O:v8<=d.z:=az H h.x2.size;have E:=(q.y4 (es:=[98]) a.x2 (λi t=>by subst t;exact⟨98,z1,C⟩) rfl rfl rfl);have m:aP d v8 pb ({x with kd:=3,ou:=-1,ak:=v}) c L:=⟨_,a.at_ 0 rfl,E⟩;refine(qd ({x with kd:=3,ou:=-1,ak:=v}) c L pb v8 0 (⟨#[]⟩) J d m).mono λl f K=>?_;obtain⟨I,⟨u,A,M⟩,N,z⟩:=K;have F:=m.T' (es:=[]);exact⟨u,I,⟨M,N⟩,h.HS z (bv h.x2 rfl) A (bQ a F rfl)⟩
 obtain⟨D,B⟩:=G;refine Aq 5 [] [] [] [] [] ⟨[],Pn x pb b,[],p.z⟩ ?_;refine bN [] (v7:_=some ([],aX [])) ?_;intro d a;exact⟨rfl,⟨_,a.at_ 0 rfl,D.kT a g⟩,λe=>(B e).y4 a.x2 (ag g) rfl rfl,(ab.A0 g a).x2⟩
theorem xo(E:aI)(q:∀w b,E w->au z8 w b->E b)(ya:Int)(k:3<=x.N∧x.N<=6∧1<=x.S∧x.S<=8)(hs:0<=x.sn∧x.sn<x.S)(t:-1<=x.ou∧x.ou<x.N)(oc:Int)(l:jV x.N x.sn x.ou=oc)(O:x.ou≠-1)(J:∀a,aP a v8 pb ({x with kd:=3}) c L->v8<=a.z->aC 48 #[pt pb 0,i6 ya] a (λf b=>f=Jx∧E b∧au (be [141,178] v8 x.lb pb x.cb a) a b))(w:World)(s:aP w v8 pb ({x with kd:=3}) c L)(H:v8<=w.z):aC 32 #[pt pb 0,i6 ya] w (λf b=>f=Jx∧E b∧au (be [141,178] v8 x.lb pb x.cb w) w b):=by
 obtain⟨v,j,r⟩:=s;have D:=aw j;refine cH (S:=(λi=>i=pb)) (n:=105) func32 (ab.D1 j) ?_;have N:=pZ (sn:=x.sn) (o:=x.ou) k.1;rw[l]at N;refine z6 17 (dz 9 0x1350800000000) [0,1,4,12,16] [] [(pb,53,1)] [.ops [1,0] [5,6],.code [1,1]] [bh pb {x with kd:=3,ak:=v}] [] w.z ?_;refine DV (i6 oc) 46 [pt pb 0,i6 x.ou] (some 17) [] tI rfl (λa d=>by rw[<-l];exact io ({x with kd:=3,ak:=v}) pb x.ou k hs t a (d.at_ 0 rfl)) λy T=>?_;refine z6 38 (dz 26 0x100012c080000003101350911100012c0800000) [73,74] [tT,tT,tT,tT,tT,tT,oE ((x.ou==(-1))=false) (cw.2 O),tT] [(pb,44,1),(pb,53,1),(pb,44,1)] [.ops (Ac 238) [2],.zq 0] [bh pb {x with kd:=3,ak:=v}] [] y ?_;refine Ip (w:=w) (S':=be [141,178] v8 x.lb pb x.cb w) (Y:=Unit) (λ_=>.tuple #[]) (λ_=>[]) (λ_ p=>E p) (v7:_=some (48,[pt pb 0,i6 ya],some 75,[])) tI (λa d=>?_) (λR m B M=>?_)
 ·have h:=(d.wide (S':=bL [141,178] v8 x pb w) (λ_ e=>.inl e));have I:v8<=a.z:=az H h.x2.size;have F:=(r.y4 (es:=[98]) d.x2 (λi u=>by subst u;exact⟨98,z1,D⟩) rfl rfl rfl);have G:aP a v8 pb ({x with kd:=3,ak:=v}) c L:=⟨_,d.at_ 0 rfl,F⟩;refine(J a G I).mono λf b P=>?_;obtain⟨K,C,A⟩:=P;exact⟨(),K,C,h.none_.A3 (λ_ e=>e) A (bv h.x2 rfl) (λz g=>by cases g)⟩
 refine Aq 5 [] [] [] [] [] ⟨[],[],[],m.z⟩ ?_;refine bN [] (v7:_=some ([],aX [])) ?_;intro a d;exact⟨rfl,q _ _ B (d.x2.mono (λQ _ e=>by obtain⟨z,g,_⟩:=e;cases g)),(ab.A0 M d).x2⟩
def Gx:aH:=[1,1,0,1,1,1,1,1,0,0]
def Pp:cj:=(bA 17 1023)
section
variable (x:am)(pb:Nat)(ya:Int)(v:Value)(oc:Int)(a:aY)(b:Nat)
@[simp] def o4:ax:=[bh pb {x with kd:=1,ak:=v}]
@[simp] def Pq(v2:Value)(oc:Int)(a:aY)(b:Nat):ax:=[bh pb {x with kd:=1,nx:=.func (.func 84) #[pt pb 0] #[],lg:=false,rd:=yt a ((bF x.N x.cn oc).length) b,ak:=v2}]
theorem Uv(w:World)(v:Value)(oc:Int)(z2:Nat):Out.prune [0,1,4,87,91,92] (fp prog 105 w (λa=>a=pb) ((aj (aa (al f32) Gx)).toList.take 9) ⟨[(0,pt pb 0),(1,i6 ya),(4,pt pb 44),(5,i6 oc)],o4 x pb v,[],z2⟩ [.op y2,.op y2,.op y2,.op (oA 0 0 2),.op y2,.op y2,.op y2,.op (oA 0 48 1),.op y2])=some ⟨[],aX [(pb,0,2),(pb,48,1)],⟨[(0,pt pb 0),(1,i6 ya),(4,pt pb 44),(87,.agg #[i6 x.N,i6 x.S]),(91,i6 x.cn),(92,i6 oc)],o4 x pb v,[],z2⟩⟩:=v7
theorem Uw(c:World)(v:Value)(oc:Int)(a:aY)(b:Nat)(e:aY)(BL:Nat):iC [0,1,4,6,7] (fY prog 105 (aj (aa (al f32) Gx)) 7 Pp ⟨[(93,.tuple #[yt a ((bF x.N x.cn oc).length) b,yt e ((cT x.N x.cn oc).length) BL,i6 0]),(0,pt pb 0),(1,i6 ya),(4,pt pb 44),(87,.agg #[i6 x.N,i6 x.S]),(91,i6 x.cn),(92,i6 oc)],o4 x pb v,[],c.z⟩ [(10,false,y2),(11,true,y2),(12,true,y2),(13,true,y2),(14,false,y2),(15,false,y2),(16,false,y2)])=some (⟨[],aX [],⟨[(0,pt pb 0),(1,i6 ya),(4,pt pb 44),(6,yt a ((bF x.N x.cn oc).length) b),(7,yt e ((cT x.N x.cn oc).length) BL)],o4 x pb v,[],c.z⟩⟩,0,bA 17 131071):=v7
end
theorem vF(q:3<=x.N∧x.N<=6∧1<=x.S∧x.S<=8)(hs:0<=x.sn∧x.sn<x.S)(C:0<=x.cn∧x.cn<x.N-1)(W:-1<=x.ou∧x.ou<x.N)(oc:Int)(P:jV x.N x.sn x.ou=oc)(a7:0<=ya∧ya<=1099511627776)(a1:0<=c.last∧c.last+6<1099511627776)(ak:L.length<=20)(w:World)(V:aP w v8 pb ({x with kd:=1}) c L)(O:v8<=w.z):aC 32 #[pt pb 0,i6 ya] w (λA r=>∃I M,A=Jx∧aP r v8 pb ({x with kd:=1,nx:=.func (.func 84) #[pt pb 0] #[],lg:=false,rd:=yt I (bF x.N x.cn oc).length M}) (HX c ya ((aQ 2 x.N x.sn x.ep (bF x.N x.cn oc))++(aQ 3 x.N x.sn x.ep (cT x.N x.cn oc)))) (L++bc ya c.last ((aQ 2 x.N x.sn x.ep (bF x.N x.cn oc))++(aQ 3 x.N x.sn x.ep (cT x.N x.cn oc))))∧ah r v8 3 1 I (bF x.N x.cn oc).length M (ai bo (bF x.N x.cn oc))∧au (be [141] v8 x.lb pb x.cb w) w r):=by
 obtain⟨v,K,U⟩:=V;have an:=aw K;refine cH (S:=(λH=>H=pb)) (n:=105) func32 (ab.D1 K) ?_;have a2:=pZ (sn:=x.sn) (o:=x.ou) q.1;rw[P]at a2;refine z6 17 (dz 9 0x1350800000000) [0,1,4,12,16] [] [(pb,53,1)] [.ops [1,0] [5,6],.code [1,1]] (o4 x pb v) [] w.z ?_;refine DV (i6 oc) 46 [pt pb 0,i6 x.ou] (some 17) [] tI rfl (λh d=>by rw[<-P];exact io ({x with kd:=1,ak:=v}) pb x.ou q hs W h (d.at_ 0 rfl)) λz bk=>?_;refine Aq 47 (dz 32 0x100012c080000000012c0800000040000000012c0800000) [0,1,4,5] (rE 8 fF++[tT]) [(pb,44,1),(pb,44,1),(pb,44,1)] [.code Gx,y6 1917,.zq 0] ⟨[(0,pt pb 0),(1,i6 ya),(4,pt pb 44),(5,i6 oc)],o4 x pb v,[],z⟩ ?_;refine eT (f:=8) (ls:=bA 17 511) 9 _ _ v7 v7 v7 v7 (Uv x pb ya w v oc z) trivial λac Q=>?_;replace Q:z<=ac:=Q;refine em (i:=9) (ls':=Pp) (w:=w) (S':=be [141] v8 x.lb pb x.cb w) (Y:=Option Addr×Nat×aO) (λg=>.tuple #[yt g.1 ((bF x.N x.cn oc).length) g.2.1,yt g.2.2.1 ((cT x.N x.cn oc).length) g.2.2.2,i6 0]) (λg=>o4 x pb v) (λg k=>bq k v8 x.lb x.cb c L v∧ah k v8 3 1 g.1 ((bF x.N x.cn oc).length) g.2.1 (ai bo (bF x.N x.cn oc))∧ah k v8 3 1 g.2.2.1 ((cT x.N x.cn oc).length) g.2.2.2 (ai bo (cT x.N x.cn oc))) (λg=>[(93,.tuple #[yt g.1 ((bF x.N x.cn oc).length) g.2.1,yt g.2.2.1 ((cT x.N x.cn oc).length) g.2.2.2,i6 0]),(0,pt pb 0),(1,i6 ya),(4,pt pb 44),(87,.agg #[i6 x.N,i6 x.S]),(91,i6 x.cn),(92,i6 oc)]) v7 v7 (v7:_=some (49,[.agg #[i6 x.N,i6 x.S],i6 x.cn,i6 oc],some 93,[])) tI (λ_=>rfl) (λh d=>?_) (λg J aV y=>?_)
 ·have m:=(d.wide (S':=bL [141] v8 x pb w) (λ_ j=>.inl j));have u:v8<=h.z:=az O m.x2.size;have t:=(U.y4 (es:=[98]) d.x2 (λH X=>by subst X;exact⟨98,z1,an⟩) rfl rfl rfl);refine(m9 x.N x.S x.cn oc q C yq h).mono λA r F=>?_;obtain⟨a,b,e,BL,D,G,bg,s⟩:=F;exact⟨(a,b,e,BL),D,⟨(t.y4 (es:=[]) s (λ_ j=>j.elim) rfl rfl rfl),G.below u,bg.below u⟩,m.A3 (λ_ j=>j) s (λ_ j=>j.elim) (λ_ _ j=>j)⟩
 obtain⟨a,b,e,BL⟩:=g;obtain⟨aq,a9,a8⟩:=aV;refine dI cW _ _ (Uw x pb ya J v oc a b e BL) trivial ?_;refine cd v7 ?_;refine z6 15 (dz 8 5302124544) [101,102,103] [] [(pb,60,1)] [.ops (Ac 3835) [3],.zq 0] [bh pb {x with kd:=1,rd:=yt a ((bF x.N x.cn oc).length) b,ak:=v}] [] J.z ?_;refine Ip (w:=w) (S':=bL [141] v8 x pb w) (Y:=Value) (λl=>.tuple #[]) (λl=>Pq x pb l oc a b) (λl k=>bq k v8 x.lb x.cb (HX c ya ((aQ 2 x.N x.sn x.ep (bF x.N x.cn oc))++(aQ 3 x.N x.sn x.ep (cT x.N x.cn oc)))) (L++bc ya c.last ((aQ 2 x.N x.sn x.ep (bF x.N x.cn oc))++(aQ 3 x.N x.sn x.ep (cT x.N x.cn oc)))) l∧ah k v8 3 1 a ((bF x.N x.cn oc).length) b (ai bo (bF x.N x.cn oc))∧ah k v8 3 1 e ((cT x.N x.cn oc).length) BL (ai bo (cT x.N x.cn oc))) (v7:_=some (50,[pt pb 0,i6 ya,yt e ((cT x.N x.cn oc).length) BL],some 104,[])) tI (λh d=>?_) (λl T a0 E=>?_)
 ·have m:=(ab.A0 y d);have u:v8<=h.z:=az O m.x2.size;have t:=(aq.kT d y);have bd:=(a9.kT d y);have R:=(a8.kT d y);have B:aP h v8 pb ({x with kd:=1,rd:=yt a ((bF x.N x.cn oc).length) b,ak:=v}) c L:=⟨_,d.at_ 0 rfl,t⟩;have a3:∀p∈bF x.N x.cn oc,0<=p∧p<x.N:=L5 yq C;have a4:∀p∈cT x.N x.cn oc,0<=p∧p<x.N:=L6 yq;have a5:=L7 (oc:=oc) q C;refine(m8 ({x with kd:=1,rd:=yt a ((bF x.N x.cn oc).length) b,ak:=v}) c L pb v8 (bF x.N x.cn oc) (cT x.N x.cn oc) a e b BL ya q hs a3 a4 a5 a7 a1 ak h B bd R u).mono λA r F=>?_;obtain⟨D,⟨Z,ad,a6⟩,G,s⟩:=F;have N:=B.T' (es:=[141]);exact⟨Z,D,⟨a6,G,R.y4 s N rfl⟩,m.HS s (bv m.x2 rfl) ad (bQ d N rfl)⟩
 obtain⟨aR,bb,bl⟩:=a0;refine Aq 5 [] [] [] [] [] ⟨[],Pq x pb l oc a b,[],T.z⟩ ?_;refine bN [] (v7:_=some ([],aX [])) ?_;intro h d;exact⟨a,b,rfl,⟨_,d.at_ 0 rfl,aR.kT d E⟩,bb.kT d E,(ab.A0 E d).x2⟩
section
variable (x:am)(c:CM)(pb v8:Nat)(ya:Int)(w:World)(v:Value)(L:List ar)(oc:Int)(a:aY)(b:Nat)(e:aY)(BL:Nat)
def Gy(d:(aO)×(aO)):av:=[yt d.1.1 ((cN x.N x.cn oc).length) d.1.2,yt d.2.1 ((dq x.N x.cn oc).length) d.2.2,i6 0]
def Gz:aH:=[1,1,0,1,1,1,1,1,1,1]
@[simp] def AW:ax:=[bh pb {x with kd:=2,ak:=v}]
@[simp] def Pr(d:(aO)×(aO)):ax:=[bh pb {x with kd:=2,rd:=yt d.1.1 ((cN x.N x.cn oc).length) d.1.2,wr:=yt d.2.1 ((dq x.N x.cn oc).length) d.2.2,ak:=v}]
@[simp] def AX:ax:=[bh pb {x with kd:=2,rd:=yt a ((cN x.N x.cn oc).length) b,wr:=yt e ((dq x.N x.cn oc).length) BL,ak:=v}]
@[simp] def Ps(v2:Value)(oc:Int)(a:aY)(b:Nat)(e:aY)(BL:Nat):ax:=[bh pb {x with kd:=2,nx:=.func (.func 84) #[pt pb 0] #[],lg:=false,rd:=yt a ((cN x.N x.cn oc).length) b,wr:=yt e ((dq x.N x.cn oc).length) BL,ak:=v2}]
def Vz:Exit->Act->aI:=bodyPost prog f32 (λg a=>∃b e d f,g=Jx∧aP a v8 pb ({x with kd:=2,nx:=.func (.func 84) #[pt pb 0] #[],lg:=false,rd:=yt b (cN x.N x.cn oc).length e,wr:=yt d (dq x.N x.cn oc).length f}) (HX c ya ((aQ 2 x.N x.sn x.ep (cN x.N x.cn oc))++(aQ 3 x.N x.sn x.ep []))) (L++bc ya c.last ((aQ 2 x.N x.sn x.ep (cN x.N x.cn oc))++(aQ 3 x.N x.sn x.ep [])))∧ah a v8 3 1 b (cN x.N x.cn oc).length e (ai bo (cN x.N x.cn oc))∧ah a v8 3 1 d (dq x.N x.cn oc).length f (ai bo (dq x.N x.cn oc))∧au (be [141] v8 x.lb pb x.cb w) w a)
def SD:bu:=[(0,pt pb 0),(1,i6 ya),(4,pt pb 44),(5,i6 oc)]
def Jz(d:(aO)×(aO)):List (Option Value):=[some (pt pb 44),some (pt pb 44),some (pt pb 0),some (pt pb 0),some (pt pb 0),some (.agg #[i6 x.N,i6 x.S]),some (pt pb 44),some (pt pb 44),some (pt pb 48),some (i6 x.cn),some (i6 oc),some (.tuple (List.toArray (Gy x oc d))),some (.tuple (List.toArray (Gy x oc d))),some (yt d.1.1 ((cN x.N x.cn oc).length) d.1.2),some (yt d.2.1 ((dq x.N x.cn oc).length) d.2.2),some (i6 0),some (pt pb 44),some (pt pb 60),some (.tuple #[]),some (pt pb 44),some (pt pb 61),some (.tuple #[])]
def JA(_:(aO)×(aO))(k:Nat):Bool:=(fL 22 [])[k]?.getD true
def AY(d:(aO)×(aO)):List (ax):=[AW x pb v,AW x pb v,[bh pb {x with kd:=2,rd:=yt d.1.1 ((cN x.N x.cn oc).length) d.1.2,ak:=v}],Pr x pb v oc d]
abbrev AZ(x:am)(c:CM)(v8:Nat)(v:Value)(L:List ar)(oc:Int)(b:Nat)(d:(aO)×(aO))(a:World):Prop:=match b with|0=>bq a v8 x.lb x.cb c L v|1=>bq a v8 x.lb x.cb c L v∧ah a v8 3 1 d.1.1 ((cN x.N x.cn oc).length) d.1.2 (ai bo (cN x.N x.cn oc))∧ah a v8 3 1 d.2.1 ((dq x.N x.cn oc).length) d.2.2 (ai bo (dq x.N x.cn oc))|2=>bq a v8 x.lb x.cb c L v∧ah a v8 3 1 d.1.1 ((cN x.N x.cn oc).length) d.1.2 (ai bo (cN x.N x.cn oc))∧ah a v8 3 1 d.2.1 ((dq x.N x.cn oc).length) d.2.2 (ai bo (dq x.N x.cn oc))|3=>bq a v8 x.lb x.cb c L v∧ah a v8 3 1 d.1.1 ((cN x.N x.cn oc).length) d.1.2 (ai bo (cN x.N x.cn oc))∧ah a v8 3 1 d.2.1 ((dq x.N x.cn oc).length) d.2.2 (ai bo (dq x.N x.cn oc))|_=>True
def qn(z2:Nat)(a:Nat):Prop:=cY prog f32 [1,1,0,1,1,1,1,1,1,0] 105 [] (Vz x c pb v8 ya w L oc) [.code Gz,.zq 0] (SD pb ya oc) (V7 22 [11,18,21]) 3 (Jz x pb oc) JA w (be [141] v8 x.lb pb x.cb w) (AY x pb v oc) z2 (AZ x c v8 v L oc) a
end
theorem sG(D:3<=x.N∧x.N<=6∧1<=x.S∧x.S<=8)(hs:0<=x.sn∧x.sn<x.S)(a1:0<=x.cn∧x.cn<x.N-1)(bd:-1<=x.ou∧x.ou<x.N)(oc:Int)(a2:jV x.N x.sn x.ou=oc)(b5:oc≠x.N-1)(b8:0<=ya∧ya<=1099511627776)(b3:0<=c.last∧c.last+6<1099511627776)(bl:L.length<=20)(w:World)(bb:aP w v8 pb ({x with kd:=2}) c L)(a0:v8<=w.z):aC 32 #[pt pb 0,i6 ya] w (λK p=>∃Z aq ac aR,K=Jx∧aP p v8 pb ({x with kd:=2,nx:=.func (.func 84) #[pt pb 0] #[],lg:=false,rd:=yt Z (cN x.N x.cn oc).length aq,wr:=yt ac (dq x.N x.cn oc).length aR}) (HX c ya ((aQ 2 x.N x.sn x.ep (cN x.N x.cn oc))++(aQ 3 x.N x.sn x.ep []))) (L++bc ya c.last ((aQ 2 x.N x.sn x.ep (cN x.N x.cn oc))++(aQ 3 x.N x.sn x.ep [])))∧ah p v8 3 1 Z (cN x.N x.cn oc).length aq (ai bo (cN x.N x.cn oc))∧ah p v8 3 1 ac (dq x.N x.cn oc).length aR (ai bo (dq x.N x.cn oc))∧au (be [141] v8 x.lb pb x.cb w) w p):=by
 obtain⟨v,ak,a9⟩:=bb;have bs:=aw ak;refine cH (S:=(λu=>u=pb)) (n:=105) func32 (ab.D1 ak) ?_;have b4:=pZ (sn:=x.sn) (o:=x.ou) D.1;rw[a2]at b4;refine z6 17 (dz 9 0x1350800000000) [0,1,4,12,16] [] [(pb,53,1)] [.ops [1,0] [5,6],.code [1,1]] (AW x pb v) [] w.z ?_;refine DV (i6 oc) 46 [pt pb 0,i6 x.ou] (some 17) [] tI rfl (λj d=>by rw[<-a2];exact io ({x with kd:=2,ak:=v}) pb x.ou D hs bd j (d.at_ 0 rfl)) λA cC=>?_;refine Aq 47 (dz 32 0x12c080000000012c0800000040000000012c0800000) [0,1,4,5] (rE 9 fF) [(pb,44,1),(pb,44,1),(pb,44,1)] [y6 1918,.code Gz,.zq 0] ⟨[(0,pt pb 0),(1,i6 ya),(4,pt pb 44),(5,i6 oc)],AW x pb v,[],A⟩ ?_;have co:eh w (be [141] v8 x.lb pb x.cb w) (AY x pb v oc) (AZ x c v8 v L oc):=by
  intro ad g j p H i d h m
  match ad,i,h with
  |0,i,h=>
   obtain rfl:=ap i;exact(h.kU m d)
  |1,i,h=>
   obtain rfl:=ap i;exact⟨h.1.kU m d,h.2.1.kU m d,h.2.2.kU m d⟩
  |2,i,h=>
   obtain rfl:=ap i;exact⟨h.1.kU m d,h.2.1.kU m d,h.2.2.kU m d⟩
  |3,i,h=>
   obtain rfl:=ap i;exact⟨h.1.kU m d,h.2.1.kU m d,h.2.2.kU m d⟩
  |ad+4,i,h=>exact trivial
 have cp:qn x c pb v8 ya w v L oc A 11:=WO (s:=0) (f:=51) (args:=λg=>[.agg #[i6 x.N,i6 x.S],i6 x.cn,i6 oc]) (ob:=λg=>[]) (λ(g:(aO)×(aO))(I:(aO)×(aO))=>I) (λg=>.tuple (List.toArray (Gy x oc g))) (λg=>trivial) (λg j H i d h a3=>by
  obtain rfl:=ap i;have E:v8<=j.z:=az a0 d.x2.size;refine(iz x.N x.S x.cn oc D a1 yq j).mono λK p R=>?_;obtain⟨a5,a6,a7,a8,Q,X,cl,B⟩:=R;exact⟨((a5,a6),(a7,a8)),Q,rfl,⟨(h.y4 (es:=[]) B (λ_ q=>q.elim) rfl rfl rfl),X.below E,cl.below E⟩,d.A3 (λ_ q=>q) B (λ_ q=>q.elim) (λ_ _ q=>q),B.size⟩)
 have cq:qn x c pb v8 ya w v L oc A 18:=V8 (s:=1) (x:=λg=>Instr.storeAt 25 (pt pb 60) (yt g.1.1 ((cN x.N x.cn oc).length) g.1.2)) (λ(g:(aO)×(aO))(_:Unit)=>g) (λg j H i d h a3=>by
  obtain rfl:=ap i;obtain⟨p,J,M,r,T⟩:=cG (P:=prog) (t:=25) (v:=yt g.1.1 ((cN x.N x.cn oc).length) g.1.2) v7 (d.at_ 0 rfl) rfl (by show 60+1<=73;omega) (aU rfl) rfl;exact⟨(),p,J,rfl,⟨(h.1.y4 (es:=[98]) r (λu k=>by subst k;exact⟨98,z1,aw (d.at_ 0 rfl)⟩) rfl rfl rfl),(h.2.1.y4 (es:=[98]) r (λu k=>by subst k;exact⟨98,z1,aw (d.at_ 0 rfl)⟩) rfl),(h.2.2.y4 (es:=[98]) r (λu k=>by subst k;exact⟨98,z1,aw (d.at_ 0 rfl)⟩) rfl)⟩,(d.PA 0 rfl rfl r M).2,bC T.symm⟩)
 have cr:qn x c pb v8 ya w v L oc A 21:=V8 (s:=2) (x:=λg=>Instr.storeAt 25 (pt pb 61) (yt g.2.1 ((dq x.N x.cn oc).length) g.2.2)) (λ(g:(aO)×(aO))(_:Unit)=>g) (λg j H i d h a3=>by
  obtain rfl:=ap i;obtain⟨p,J,M,r,T⟩:=cG (P:=prog) (t:=25) (v:=yt g.2.1 ((dq x.N x.cn oc).length) g.2.2) v7 (d.at_ 0 rfl) rfl (by show 61+1<=73;omega) (aU rfl) rfl;exact⟨(),p,J,rfl,⟨(h.1.y4 (es:=[98]) r (λu k=>by subst k;exact⟨98,z1,aw (d.at_ 0 rfl)⟩) rfl rfl rfl),(h.2.1.y4 (es:=[98]) r (λu k=>by subst k;exact⟨98,z1,aw (d.at_ 0 rfl)⟩) rfl),(h.2.2.y4 (es:=[98]) r (λu k=>by subst k;exact⟨98,z1,aw (d.at_ 0 rfl)⟩) rfl)⟩,(d.PA 0 rfl rfl r M).2,bC T.symm⟩)
 have cn:∀I∈(f5 3 [0,1,2,3,4,6,7,8,10,12,13,14,15,16,17,19,20]++[rY 5 3 0 0 2 pb,rY 9 3 0 48 1 pb]:List (fG ((aO)×(aO)))),qn x c pb v8 ya w v L oc A I.i:=bp _ co (λg=>v7) v7 (λg cA=>v7);have cm:∀an,an<22->qn x c pb v8 ya w v L oc A an:=f6 (l:=[11,18,21]) v7 cn ⟨cp,cq,cr,trivial⟩;refine bD (Δ:=(aO)×(aO)) (bL [141] v8 x pb w) (Jz x pb oc) JA (AY x pb v oc) (AZ x c v8 v L oc) [0,1,4] (λg=>[(0,pt pb 0),(1,i6 ya),(4,pt pb 44)]) (λg=>Pr x pb v oc g) ((none,0),(none,0)) (λ_ q=>.inl q) v7 v7 v7 (λj d=>(a9.y4 (es:=[98]) d.x2.drew (λu k=>by subst k;exact⟨98,z1,bs⟩) rfl rfl rfl)) v7 cm (λg=>v7) (λg=>v7) (λg y cK b1 cL C=>?_);obtain⟨⟨a,b⟩,e,BL⟩:=g;obtain⟨N,V,W⟩:=b1;replace N:bq y v8 x.lb x.cb c L v:=N;replace V:ah y v8 3 1 a ((cN x.N x.cn oc).length) b (ai bo (cN x.N x.cn oc)):=V;replace W:ah y v8 3 1 e ((dq x.N x.cn oc).length) BL (ai bo (dq x.N x.cn oc)):=W;replace C:ab w (bL [141] v8 x pb w) (AX x pb v oc a b e BL) [] y.z y:=C;change aF _ _ _ _ y (ao (AX x pb v oc a b e BL)) _ [.code Gz,.zq 0] ⟨[(0,pt pb 0),(1,i6 ya),(4,pt pb 44)],AX x pb v oc a b e BL,[],y.z⟩;obtain⟨b6,cB⟩:=SC D a1 b5;refine z6 18 (dz 9 331382784) [47,48] [oE (((((cN x.N x.cn oc).length:Nat):Int)==0)=false) (cw.2 yq)] [(pb,60,1)] [.ops (Ac 3839) [2],.zq 0] (AX x pb v oc a b e BL) [] y.z ?_;refine Ip (w:=w) (S':=bL [141] v8 x pb w) (Y:=Value) (λz=>.tuple #[]) (λz=>Ps x pb z oc a b e BL) (λz G=>bq G v8 x.lb x.cb (HX c ya ((aQ 2 x.N x.sn x.ep (cN x.N x.cn oc))++(aQ 3 x.N x.sn x.ep []))) (L++bc ya c.last ((aQ 2 x.N x.sn x.ep (cN x.N x.cn oc))++(aQ 3 x.N x.sn x.ep []))) z∧ah G v8 3 1 a ((cN x.N x.cn oc).length) b (ai bo (cN x.N x.cn oc))∧ah G v8 3 1 e ((dq x.N x.cn oc).length) BL (ai bo (dq x.N x.cn oc))) (v7:_=some (50,[pt pb 0,i6 ya,z7],some 49,[])) tI (λj d=>?_) (λz a4 b2 F=>?_)
 ·have U:=(ab.A0 C d);have E:v8<=j.z:=az a0 U.x2.size;have b0:=(N.kT d C);have cb:=(V.kT d C);have cf:=(W.kT d C);have O:aP j v8 pb ({x with kd:=2,rd:=yt a ((cN x.N x.cn oc).length) b,wr:=yt e ((dq x.N x.cn oc).length) BL,ak:=v}) c L:=⟨_,d.at_ 0 rfl,b0⟩;refine(m8 ({x with kd:=2,rd:=yt a ((cN x.N x.cn oc).length) b,wr:=yt e ((dq x.N x.cn oc).length) BL,ak:=v}) c L pb v8 (cN x.N x.cn oc) [] a none b 0 ya D hs b6 (λcs m=>by cases m) (by simp only[List.length_nil];omega) b8 b3 bl j O cb (ah.nil _ _ _ _) E).mono λK p R=>?_;obtain⟨Q,⟨bg,bk,b7⟩,X,B⟩:=R;have aV:=O.T' (es:=[141]);exact⟨bg,Q,⟨b7,X,cf.y4 B aV rfl⟩,U.HS B (bv U.x2 rfl) bk (bQ d aV rfl)⟩
 obtain⟨bt,b9,ca⟩:=b2;refine Aq 5 [] [] [] [] [] ⟨[],Ps x pb z oc a b e BL,[],a4.z⟩ ?_;refine bN [] (v7:_=some ([],aX [])) ?_;intro j d;exact⟨a,b,e,BL,rfl,⟨_,d.at_ 0 rfl,bt.kT d F⟩,b9.kT d F,ca.kT d F,(ab.A0 F d).x2⟩
section
variable (x:am)(pb:Nat)(ya:Int)(v:Value)(oc:Int)
def GA(d:(aO)×(aO)):av:=[yt d.1.1 ((cN x.N x.cn oc).length) d.1.2,yt d.2.1 ((dq x.N x.cn oc).length) d.2.2,i6 0]
def GB:aH:=[1,1,0,1,1,1,1,1,1,1]
@[simp] def A5:ax:=[bh pb {x with kd:=2,ak:=v}]
@[simp] def Pt(d:(aO)×(aO)):ax:=[bh pb {x with kd:=2,rd:=yt d.1.1 ((cN x.N x.cn oc).length) d.1.2,wr:=yt d.2.1 ((dq x.N x.cn oc).length) d.2.2,ak:=v}]
@[simp] def A6(a:aY)(b:Nat)(e:aY)(BL:Nat):ax:=[bh pb {x with kd:=2,rd:=yt a ((cN x.N x.cn oc).length) b,wr:=yt e ((dq x.N x.cn oc).length) BL,ak:=v}]
def SE:bu:=[(0,pt pb 0),(1,i6 ya),(4,pt pb 44),(5,i6 oc)]
def JB(d:(aO)×(aO)):List (Option Value):=[some (pt pb 44),some (pt pb 44),some (pt pb 0),some (pt pb 0),some (pt pb 0),some (.agg #[i6 x.N,i6 x.S]),some (pt pb 44),some (pt pb 44),some (pt pb 48),some (i6 x.cn),some (i6 oc),some (.tuple (List.toArray (GA x oc d))),some (.tuple (List.toArray (GA x oc d))),some (yt d.1.1 ((cN x.N x.cn oc).length) d.1.2),some (yt d.2.1 ((dq x.N x.cn oc).length) d.2.2),some (i6 0),some (pt pb 44),some (pt pb 60),some (.tuple #[]),some (pt pb 44),some (pt pb 61),some (.tuple #[])]
def JC(_:(aO)×(aO))(k:Nat):Bool:=(fL 22 [])[k]?.getD true
def A7(d:(aO)×(aO)):List (ax):=[A5 x pb v,A5 x pb v,[bh pb {x with kd:=2,rd:=yt d.1.1 ((cN x.N x.cn oc).length) d.1.2,ak:=v}],Pt x pb v oc d]
abbrev A8(x:am)(c:CM)(v8:Nat)(v:Value)(L:List ar)(oc:Int)(b:Nat)(d:(aO)×(aO))(a:World):Prop:=match b with|0=>bq a v8 x.lb x.cb c L v|1=>bq a v8 x.lb x.cb c L v∧ah a v8 3 1 d.1.1 ((cN x.N x.cn oc).length) d.1.2 (ai bo (cN x.N x.cn oc))∧ah a v8 3 1 d.2.1 ((dq x.N x.cn oc).length) d.2.2 (ai bo (dq x.N x.cn oc))|2=>bq a v8 x.lb x.cb c L v∧ah a v8 3 1 d.1.1 ((cN x.N x.cn oc).length) d.1.2 (ai bo (cN x.N x.cn oc))∧ah a v8 3 1 d.2.1 ((dq x.N x.cn oc).length) d.2.2 (ai bo (dq x.N x.cn oc))|3=>bq a v8 x.lb x.cb c L v∧ah a v8 3 1 d.1.1 ((cN x.N x.cn oc).length) d.1.2 (ai bo (cN x.N x.cn oc))∧ah a v8 3 1 d.2.1 ((dq x.N x.cn oc).length) d.2.2 (ai bo (dq x.N x.cn oc))|_=>True
def qo(c:CM)(pb:Nat)(v8:Nat)(ya:Int)(w:World)(v:Value)(L:List ar)(oc:Int)(E:aI)(z2:Nat)(b:Nat):Prop:=cY prog f32 [1,1,0,1,1,1,1,1,1,0] 105 [] (bodyPost prog f32 (λd a=>d=Jx∧E a∧au (be [141,178] v8 x.lb pb x.cb w) w a)) [.code GB,.zq 0] (SE pb ya oc) (V7 22 [11,18,21]) 3 (JB x pb oc) JC w (be [141,178] v8 x.lb pb x.cb w) (A7 x pb v oc) z2 (A8 x c v8 v L oc) b
end
theorem sH(E:aI)(a1:∀w k,E w->au z8 w k->E k)(ya:Int)(I:3<=x.N∧x.N<=6∧1<=x.S∧x.S<=8)(hs:0<=x.sn∧x.sn<x.S)(bd:0<=x.cn∧x.cn<x.N-1)(a4:-1<=x.ou∧x.ou<x.N)(oc:Int)(ac:jV x.N x.sn x.ou=oc)(bs:oc=x.N-1)(bg:∀a b e BL i,aP i v8 pb ({x with kd:=2,rd:=yt a (cN x.N x.cn oc).length b,wr:=yt e (dq x.N x.cn oc).length BL}) c L->ah i v8 3 1 a (cN x.N x.cn oc).length b (ai bo (cN x.N x.cn oc))->ah i v8 3 1 e (dq x.N x.cn oc).length BL (ai bo (dq x.N x.cn oc))->v8<=i.z->aC 52 #[pt pb 0,i6 ya] i (λB k=>B=Jx∧E k∧au (be [141,178] v8 x.lb pb x.cb i) i k))(w:World)(a3:aP w v8 pb ({x with kd:=2}) c L)(Z:v8<=w.z):aC 32 #[pt pb 0,i6 ya] w (λB k=>B=Jx∧E k∧au (be [141,178] v8 x.lb pb x.cb w) w k):=by
 obtain⟨v,V,a2⟩:=a3;have a8:=aw V;refine cH (S:=(λu=>u=pb)) (n:=105) func32 (ab.D1 V) ?_;have bl:=pZ (sn:=x.sn) (o:=x.ou) I.1;rw[ac]at bl;refine z6 17 (dz 9 0x1350800000000) [0,1,4,12,16] [] [(pb,53,1)] [.ops [1,0] [5,6],.code [1,1]] (A5 x pb v) [] w.z ?_;refine DV (i6 oc) 46 [pt pb 0,i6 x.ou] (some 17) [] tI rfl (λi d=>by rw[<-ac];exact io ({x with kd:=2,ak:=v}) pb x.ou I hs a4 i (d.at_ 0 rfl)) λz cl=>?_;refine Aq 47 (dz 32 0x12c080000000012c0800000040000000012c0800000) [0,1,4,5] (rE 9 fF) [(pb,44,1),(pb,44,1),(pb,44,1)] [y6 1918,.code GB,.zq 0] ⟨[(0,pt pb 0),(1,i6 ya),(4,pt pb 44),(5,i6 oc)],A5 x pb v,[],z⟩ ?_;have b5:eh w (be [141,178] v8 x.lb pb x.cb w) (A7 x pb v oc) (A8 x c v8 v L oc):=by
  intro U g i k F j d h q
  match U,j,h with
  |0,j,h=>
   obtain rfl:=ap j;exact(h.kU q d)
  |1,j,h=>
   obtain rfl:=ap j;exact⟨h.1.kU q d,h.2.1.kU q d,h.2.2.kU q d⟩
  |2,j,h=>
   obtain rfl:=ap j;exact⟨h.1.kU q d,h.2.1.kU q d,h.2.2.kU q d⟩
  |3,j,h=>
   obtain rfl:=ap j;exact⟨h.1.kU q d,h.2.1.kU q d,h.2.2.kU q d⟩
  |U+4,j,h=>exact trivial
 have b6:qo x c pb v8 ya w v L oc E z 11:=WO (s:=0) (f:=51) (args:=λg=>[.agg #[i6 x.N,i6 x.S],i6 x.cn,i6 oc]) (ob:=λg=>[]) (λ(g:(aO)×(aO))(G:(aO)×(aO))=>G) (λg=>.tuple (List.toArray (GA x oc g))) (λg=>trivial) (λg i F j d h ad=>by
  obtain rfl:=ap j;have D:v8<=i.z:=az Z d.x2.size;refine(iz x.N x.S x.cn oc I bd yq i).mono λB k N=>?_;obtain⟨aq,aR,aV,a0,M,b1,b2,C⟩:=N;exact⟨((aq,aR),(aV,a0)),M,rfl,⟨(h.y4 (es:=[]) C (λ_ m=>m.elim) rfl rfl rfl),b1.below D,b2.below D⟩,d.A3 (λ_ m=>m) C (λ_ m=>m.elim) (λ_ _ m=>m),C.size⟩)
 have b7:qo x c pb v8 ya w v L oc E z 18:=V8 (s:=1) (x:=λg=>Instr.storeAt 25 (pt pb 60) (yt g.1.1 ((cN x.N x.cn oc).length) g.1.2)) (λ(g:(aO)×(aO))(_:Unit)=>g) (λg i F j d h ad=>by
  obtain rfl:=ap j;obtain⟨k,H,J,r,O⟩:=cG (P:=prog) (t:=25) (v:=yt g.1.1 ((cN x.N x.cn oc).length) g.1.2) v7 (d.at_ 0 rfl) rfl (by show 60+1<=73;omega) (aU rfl) rfl;exact⟨(),k,H,rfl,⟨(h.1.y4 (es:=[98]) r (λu p=>by subst p;exact⟨98,z1,aw (d.at_ 0 rfl)⟩) rfl rfl rfl),(h.2.1.y4 (es:=[98]) r (λu p=>by subst p;exact⟨98,z1,aw (d.at_ 0 rfl)⟩) rfl),(h.2.2.y4 (es:=[98]) r (λu p=>by subst p;exact⟨98,z1,aw (d.at_ 0 rfl)⟩) rfl)⟩,(d.PA 0 rfl rfl r J).2,bC O.symm⟩)
 have b8:qo x c pb v8 ya w v L oc E z 21:=V8 (s:=2) (x:=λg=>Instr.storeAt 25 (pt pb 61) (yt g.2.1 ((dq x.N x.cn oc).length) g.2.2)) (λ(g:(aO)×(aO))(_:Unit)=>g) (λg i F j d h ad=>by
  obtain rfl:=ap j;obtain⟨k,H,J,r,O⟩:=cG (P:=prog) (t:=25) (v:=yt g.2.1 ((dq x.N x.cn oc).length) g.2.2) v7 (d.at_ 0 rfl) rfl (by show 61+1<=73;omega) (aU rfl) rfl;exact⟨(),k,H,rfl,⟨(h.1.y4 (es:=[98]) r (λu p=>by subst p;exact⟨98,z1,aw (d.at_ 0 rfl)⟩) rfl rfl rfl),(h.2.1.y4 (es:=[98]) r (λu p=>by subst p;exact⟨98,z1,aw (d.at_ 0 rfl)⟩) rfl),(h.2.2.y4 (es:=[98]) r (λu p=>by subst p;exact⟨98,z1,aw (d.at_ 0 rfl)⟩) rfl)⟩,(d.PA 0 rfl rfl r J).2,bC O.symm⟩)
 have b4:∀G∈(f5 3 [0,1,2,3,4,6,7,8,10,12,13,14,15,16,17,19,20]++[rY 5 3 0 0 2 pb,rY 9 3 0 48 1 pb]:List (fG ((aO)×(aO)))),qo x c pb v8 ya w v L oc E z G.i:=bp _ b5 (λg=>v7) v7 (λg ca=>v7);have b3:∀W,W<22->qo x c pb v8 ya w v L oc E z W:=f6 (l:=[11,18,21]) v7 b4 ⟨b6,b7,b8,trivial⟩;refine bD (Δ:=(aO)×(aO)) (be [141,178] v8 x.lb pb x.cb w) (JB x pb oc) JC (A7 x pb v oc) (A8 x c v8 v L oc) [0,1,4] (λg=>[(0,pt pb 0),(1,i6 ya),(4,pt pb 44)]) (λg=>Pt x pb v oc g) ((none,0),(none,0)) (λ_ m=>.inl m) v7 v7 v7 (λi d=>(a2.y4 (es:=[98]) d.x2.drew (λu p=>by subst p;exact⟨98,z1,a8⟩) rfl rfl rfl)) v7 b3 (λg=>v7) (λg=>v7) (λg y cm bb cn A=>?_);obtain⟨⟨a,b⟩,e,BL⟩:=g;obtain⟨K,R,T⟩:=bb;replace K:bq y v8 x.lb x.cb c L v:=K;replace R:ah y v8 3 1 a ((cN x.N x.cn oc).length) b (ai bo (cN x.N x.cn oc)):=R;replace T:ah y v8 3 1 e ((dq x.N x.cn oc).length) BL (ai bo (dq x.N x.cn oc)):=T;replace A:ab w (be [141,178] v8 x.lb pb x.cb w) (A6 x pb v oc a b e BL) [] y.z y:=A;change aF _ _ _ _ y (ao (A6 x pb v oc a b e BL)) _ [.code GB,.zq 0] ⟨[(0,pt pb 0),(1,i6 ya),(4,pt pb 44)],A6 x pb v oc a b e BL,[],y.z⟩;have cf:(cN x.N x.cn oc).length=0:=by unfold cN;rw[aA bs];rfl
 refine z6 18 (dz 9 0x100013c08000) [0,1,44,45] [oE (((((cN x.N x.cn oc).length:Nat):Int)==0)=true) (dC.2 yq)] [(pb,60,1)] [.ops (Ac 30708) [2],y6 30709,y6 3839,.zq 0] (A6 x pb v oc a b e BL) [] y.z ?_;refine Ip (w:=w) (S':=bL [141,178] v8 x pb w) (Y:=Unit) (λ_=>.tuple #[]) (λ_=>[]) (λ_ an=>E an) (v7:_=some (52,[pt pb 0,i6 ya],some 46,[])) tI (λi d=>?_) (λcb ak a6 bk=>?_)
 ·have Q:=(ab.A0 A d);have D:v8<=i.z:=az Z Q.x2.size;have a9:=(K.kT d A);have bt:=(R.kT d A);have b0:=(T.kT d A);have X:aP i v8 pb ({x with kd:=2,rd:=yt a ((cN x.N x.cn oc).length) b,wr:=yt e ((dq x.N x.cn oc).length) BL,ak:=v}) c L:=⟨_,d.at_ 0 rfl,a9⟩;refine(bg a b e BL i X bt b0 D).mono λB k N=>?_;obtain⟨M,a7,C⟩:=N;exact⟨(),M,a7,Q.none_.A3 (λ_ m=>m) C (bv Q.x2 rfl) (λa5 j=>by cases j)⟩
 refine z6 4 [] [0,1] [] [] [y6 30709,y6 3839,.zq 0] [] [] ak.z ?_;refine B1 [] [] [] ?_;intro i d;exact⟨rfl,a1 _ _ a6 (d.x2.mono (λb9 _ m=>by obtain⟨a5,j,_⟩:=m;cases j)),(ab.A0 bk d).x2⟩
variable {k:Be}{g:S2}{N:HB->Prop}
def Be.zq(k:Be)(m:Int):ByteArray:=(k.R0 m.toNat).block
def Be.nd(k:Be)(c:Int):Int:=(c+(k.sn:Int))%(k.n:Int)
theorem gq(a:cZ k)(c:Int):0<=k.nd c∧k.nd c<(k.n:Int):=⟨eY _ (by have:=a.hn;omega),gy _ (by have:=a.hn;omega)⟩
theorem vx{n s c:Int}(a:0<=c∧c<n):((c+s)%n+n-s%n)%n=c:=by
 rw[show(c+s)%n+n-s%n=((c+s)%n-s%n)+n by omega,Int.add_emod_right,<-Int.sub_emod,show c+s-s=c by omega];exact Int.emod_eq_of_lt a.1 a.2
theorem lL(_:cZ k){a b:Int}(c:0<=a∧a<(k.n:Int))(d:0<=b∧b<(k.n:Int))(h:k.nd a=k.nd b):a=b:=by
 rw[<-vx (s:=(k.sn:Int)) c,<-vx (s:=(k.sn:Int)) d];unfold Be.nd at h;rw[h]
theorem nP(_:cZ k){o:Int}(a:0<=o∧o<(k.n:Int)):k.nd (jV (k.n:Int) (k.sn:Int) o)=o:=by
 unfold jV Be.nd;rw[ay yq];rw[show o+(k.n:Int)-(k.sn:Int)%(k.n:Int)=(o-(k.sn:Int)%(k.n:Int))+(k.n:Int)by omega,Int.add_emod_right,Int.emod_add_emod];rw[show o-(k.sn:Int)%(k.n:Int)+(k.sn:Int)=o+((k.sn:Int)-(k.sn:Int)%(k.n:Int))by omega];have b:=Int.mul_ediv_add_emod (k.sn:Int) (k.n:Int);rw[show(k.sn:Int)-(k.sn:Int)%(k.n:Int)=(k.n:Int)*((k.sn:Int)/(k.n:Int))by omega,Int.add_mul_emod_self_left];exact Int.emod_eq_of_lt a.1 a.2
structure Wk(k:Be)(e o:Int):Prop where
 he:k.E1<=e∧e<=1000001
 ho:-1<=o∧o<(k.n:Int)
 hb:∀b,Xm k b->b=o
 hs:k.Qn=true->k.E1<e
theorem Wk.live{e o:Int}(hw:Wk k e o){m:Nat}(b:(m:Int)≠o):(m:Int)≠k.zl∧(m:Int)≠k.z:=⟨λa=>b (hw.hb _ ⟨.inr a,by omega⟩),λa=>b (hw.hb _ ⟨.inl a,by omega⟩)⟩
theorem Rb.re{e o:Int}(hw:Wk k e o){m:Nat}(a:(m:Int)≠o){r:aZ}(h:Rb k e o m r):r=k.fr e m:=by
 rcases h with⟨b,_⟩|⟨_,c⟩
 ·exact absurd (b.resolve_left a) (hw.live a).2
 ·exact c
theorem Yl(a:cZ k):(0:Int)<=(k.sn:Int)∧(k.sn:Int)<=7:=by
 have:=a.Wi;have:=a.hS;omega
theorem x3(d:cZ k){m:Nat}(hm:m<k.n)(n:(m:Int)≠k.zl){e:Int}(he:1<=e∧e<=16777215){o:ar}(l:o.q=dV 2 (k.sn:Int) e):n7 o (k.fr e m) (k.fr e m) ⟨1,e,0,k.fr e m⟩:=by
 obtain⟨q,b,c,a,g,r,h,i,j⟩:=d.live m hm n;have f:k.fr e m=⟨true,e,b,c,a,false,0,0,0,⟨#[]⟩⟩:=by unfold Be.fr;rw[g]
 intro p;rw[l,f];exact FW e b c k.sn e a yq h i j (Yl d) he rfl p
theorem FX(d:cZ k){m:Nat}(hm:m<k.n)(n:(m:Int)≠k.zl){e:Int}(he:1<=e∧e<=16777215){o:ar}(l:o.q=dV 3 (k.sn:Int) e):n7 o (k.fr e m) (k.fr e m) ⟨1,e,0,fI⟩:=by
 obtain⟨q,b,c,a,g,r,h,i,j⟩:=d.live m hm n;have f:k.fr e m=⟨true,e,b,c,a,false,0,0,0,⟨#[]⟩⟩:=by unfold Be.fr;rw[g]
 intro p;rw[l,f];exact DG e b c k.sn e a yq h i j (Yl d) he rfl p
theorem DH(g:cZ k){t e:Int}{b:ar}{sy:dw}{x:am}(p:Xl k x)
  (h:(∃a:Int,(0<=a∧a<(k.n:Int))∧b.to=k.nd a∧b.q=dV 2 (k.sn:Int) e∧b.to≠k.zl∧sy=⟨1,e,0,k.fr e b.to.toNat⟩)∨(b.q.kind≠2∧∃m,sy=⟨1,e,0,m⟩)) :
  ∃n:Nat->ByteArray,(∀(d:Nat)(a:CM)(f:World),aP f k.B0 k.pb {x with lb:=d} a []->aC 105 #[pt k.pb 0,i6 t,i6 b.to,.agg b.q.cells.toArray,.agg sy.cells.toArray] f (λE B=>E=.returned (bO_ ((a.zL.length:Int)==0))∧aP B k.B0 k.pb {x with lb:=d,bl:=n} a []∧au (be [] k.B0 d k.pb x.cb f) f B)) ∧
   (∀a:Int,0<=a∧a<(k.n:Int)->k.nd a≠b.to->n a.toNat=x.bl a.toNat)∧(b.q.kind=2->∀a:Int,0<=a∧a<(k.n:Int)->k.nd a=b.to->n a.toNat=k.zq b.to):=by
 have P:=g.hn;have O:=g.hS;have Q:=g.Wi;rcases h with⟨a,j,l,G,N,rfl⟩|⟨j,m,rfl⟩
 ·have z:=gq g a;rw[<-l]at z;obtain⟨I,s,u,i,v,J,K,L,M⟩:=g.live b.to.toNat yq yq;have F:k.fr e b.to.toNat=⟨true,e,s,u,i,false,0,0,0,⟨#[]⟩⟩:=by unfold Be.fr;rw[v]
  refine⟨Ym x.bl a.toNat i,λd c f q=>?_,λc w o=>?_,λ_ c w o=>?_⟩
  ·have r:({x with lb:=d}:am).N=(k.n:Int):=p.N;have C:({x with lb:=d}:am).S=(k.S:Int):=p.S;have D:({x with lb:=d}:am).sn=(k.sn:Int):=p.sn;have A:=xi {x with lb:=d} c [] k.pb k.B0 a.toNat t b.to e 0 b.q ⟨true,e,s,u,i,false,0,0,0,⟨#[]⟩⟩ (by rw[r,C];omega) (by rw[D,C];omega) yq (by rw[r];exact z) (by rw[r,D,l];unfold Be.nd;rw[vx j];omega) f q;rw[F];have H:b.q.kind=2:=by rw[G];rfl
   rw[<-H]at A;exact A
  ·show(if c.toNat=a.toNat then i else x.bl c.toNat)=_
   rw[ay λy=>o (by rw[l,show c=a by omega])]
  ·have y:c=a:=lL g w j (o.trans l);show(if c.toNat=a.toNat then i else x.bl c.toNat)=_;rw[y,aA rfl];unfold Be.zq;rw[v]
 ·exact⟨x.bl,λd c f q=>vy {x with lb:=d} c [] k.pb k.B0 t b.to e 0 b.q m j f q,λ_ _ _=>rfl,λh=>absurd h j⟩
variable {k:Be}{g:S2}{N:HB->Prop}
def n9(k:Be)(Rd:bB)(x:am)(zL:List ar)(W:World):Prop:=(∃b c,x.rd=yt b Rd.length c∧ah W k.B0 3 1 b Rd.length c (ai bo Rd))∧∀a∈Rd,fe zL (k.nd a)=false->x.bl a.toNat=k.zq (k.nd a)
def FY(k:Be)(e o sq:Int)(x:am):Prop:=∃a,x.lv k.sn=⟨true,e,o,sq,a⟩∧0<=a∧a<=1000000
theorem vz{e:bB}{x:am}{g:Nat->ByteArray}{b:ar}{d R:List ar}{W:World}(h:n9 k e x (d++b::R) W)(l:∀a∈e,0<=a∧a<(k.n:Int))(m:∀a:Int,0<=a∧a<(k.n:Int)->k.nd a≠b.to->g a.toNat=x.bl a.toNat)(n:b.q.kind=2->∀a:Int,0<=a∧a<(k.n:Int)->k.nd a=b.to->g a.toNat=k.zq b.to)(o:∀a∈e,k.nd a=b.to->b.q.kind=2) :
  ∀a∈e,fe (d++R) (k.nd a)=false->g a.toNat=k.zq (k.nd a):=λa f q=>by
 by_cases c:k.nd a=b.to
 ·rw[n (o a f c) a (l a f) c,c]
 ·rw[m a (l a f) c]
  refine h.2 a f ?_
  have p:¬dM (d++b::R) (k.nd a):=λi=>by
   have j:=go.2 (i.rest c)
   rw[q]at j
   cases j
  cases i:fe (d++b::R) (k.nd a)with
  |false=>rfl
  |true=>exact absurd (go.1 i) p
theorem n9.Bw{b:bB}{x:am}{zL:List ar}:n3 k.B0 (n9 k b x zL):=λ_ _ _ ⟨⟨a,c,d,e⟩,f⟩ g h=>⟨⟨a,c,d,im e g h rfl⟩,f⟩
theorem oR{d a:ar}(h:a.to=d.to)(m:Int):fe [a] m=fe [d] m:=by simp[fe,h]
theorem RZ{a b:Int}{R B:bB}{e:Int}:(aQ a (k.n:Int) (k.sn:Int) e R++aQ b (k.n:Int) (k.sn:Int) e B).map (·.1)=(R++B).map k.nd:=by
 simp only[aQ,List.map_append,List.map_map];rfl
theorem kS(f:cZ k){L:bB}(b:∀a∈L,0<=a∧a<(k.n:Int))(h:L.Nodup):(L.map k.nd).Nodup:=by
 refine List.pairwise_map.2 (h.imp_of_mem λd e g c=>g (lL f (b _ d) (b _ e) c))
def sF(k:Be)(t ta zv e o sq:Int)(c f:bB)(g:am->aI):HB:=⟨t,ta,zv,e,o,84,aQ 2 (k.n:Int) (k.sn:Int) e c++aQ 3 (k.n:Int) (k.sn:Int) e f,false,λa h b=>FY k e o sq a∧n9 k c a h b∧g a b,Rb k e o,Rb k e o,Lp k e o,Lp k e o,λd=>if d.q.kind=2 then⟨1,e,0,k.fr e d.to.toNat⟩else⟨1,e,0,fI⟩⟩
theorem nQ{t ta zv e o sq:Int}{i g:bB}{j:am->aI}{c:ar}(h:c∈(sF k t ta zv e o sq i g j).A1):(∃a∈i,c.to=k.nd a∧c.q=dV 2 (k.sn:Int) e)∨(∃a∈g,c.to=k.nd a∧c.q=dV 3 (k.sn:Int) e):=by
 have l:=(HB.mem h).2.2.2.2;rcases dG.1 l with d|d
 ·obtain⟨a,f,b⟩:=aT.1 d;exact .inl ⟨a,f,(congrArg Prod.fst b).symm,(congrArg Prod.snd b).symm⟩
 ·obtain⟨a,f,b⟩:=aT.1 d;exact .inr ⟨a,f,(congrArg Prod.fst b).symm,(congrArg Prod.snd b).symm⟩
theorem DI(p:cZ k){t ta zv e o sq:Int}{d j:bB}{q:am->aI}(hw:Wk k e o)(J1:(0<=ta∧ta<=t∧t<=ta+1∧t<=1000000)∧0<=zv∧zv<=1000000000)(G:∀a∈d++j,(0<=a∧a<(k.n:Int))∧k.nd a≠o)(Z:(d++j).Nodup)(hlen:0<(d++j).length∧(d++j).length<=6)(a6:∀f,n3 k.B0 (q f))
  (bk:∀(f:am)(u:Nat)(b:ar)(sy:dw)(y:List ar)(r:World)(B:Nat->ByteArray),Xl k f->f.ep=e->f.ou=o->f.nx=.func (.func 84) #[pt k.pb 0] #[]->FY k e o sq f->(∃K Q,f.rd=yt K d.length Q∧ah r k.B0 3 1 K d.length Q (ai bo d))->q f r ->
   (∀(u:Nat)(a:CM)(D:World),aP D k.B0 k.pb {f with lb:=u} a []->aC 105 #[pt k.pb 0,i6 t,i6 b.to,.agg b.q.cells.toArray,.agg sy.cells.toArray] D (λF w=>F=.returned (bO_ ((a.zL.length:Int)==0))∧aP w k.B0 k.pb {f with lb:=u,bl:=B} a []∧au (be [] k.B0 u k.pb f.cb D) D w)) ->
   (∀a∈d,fe y (k.nd a)=false->B a.toNat=k.zq (k.nd a))->aP r k.B0 k.pb {f with lb:=u} ⟨k.Ar,(sF k t ta zv e o sq d j q).last,y⟩ []->k.B0<=r.z->k.B0<=u ->
   aC 84 #[pt k.pb 0,i6 t,i6 b.to,.agg b.q.cells.toArray,.agg sy.cells.toArray] r (λF w=>F=Jx∧(∃H O M,H.cb=k.cb∧aP w k.B0 k.pb {H with lb:=u} O M∧Nx k g N (sF k t ta zv e o sq d j q) y H O M w)∧au (be FO k.B0 u k.pb k.cb r) r w)) :
  Stp k g N (sF k t ta zv e o sq d j q):=by
 have b2:=p.hn;have b3:=p.WH;have E:∀a∈d,(0<=a∧a<(k.n:Int))∧k.nd a≠o:=λa n=>G a (cE _ n);have X:∀a∈j,(0<=a∧a<(k.n:Int))∧k.nd a≠o:=λa n=>G a (d5 _ n);have S:1<=e∧e<=16777215:=by have:=hw.he;omega
 have x:∀b∈(sF k t ta zv e o sq d j q).A1,(0<=b.to∧b.to<(k.n:Int))∧b.to≠o∧b.q.Al=(k.sn:Int):=λb i=>by
  rcases nQ i with⟨a,l,c,h⟩|⟨a,l,c,h⟩
  ·exact⟨by rw[c];exact gq p a,by rw[c];exact(E a l).2,by rw[h];rfl⟩
  ·exact⟨by rw[c];exact gq p a,by rw[c];exact(X a l).2,by rw[h];rfl⟩
 have a7:(sF k t ta zv e o sq d j q).P.length=(d++j).length:=by
  show(aQ 2 (k.n:Int) (k.sn:Int) e d++aQ 3 (k.n:Int) (k.sn:Int) e j).length=_
  rw[bM,eJ,eJ,bM]
 have J:∀b:ar,∀m:Nat,b.to=(m:Int)->b∈(sF k t ta zv e o sq d j q).A1->(b.q=dV 2 (k.sn:Int) e∧(sF k t ta zv e o sq d j q).sy b=⟨1,e,0,k.fr e m⟩)∨(b.q=dV 3 (k.sn:Int) e∧(sF k t ta zv e o sq d j q).sy b=⟨1,e,0,fI⟩):=λb m C i=>by
  have ad:b.to.toNat=m:=by omega
  rcases nQ i with⟨a,l,c,h⟩|⟨a,l,c,h⟩
  ·refine .inl ⟨h,?_⟩;show(if b.q.kind=2 then(⟨1,e,0,k.fr e b.to.toNat⟩:dw)else⟨1,e,0,fI⟩)=_;rw[h,ad];rfl
  ·refine .inr ⟨h,?_⟩;show(if b.q.kind=2 then(⟨1,e,0,k.fr e b.to.toNat⟩:dw)else⟨1,e,0,fI⟩)=_;rw[h];rfl
 refine⟨by rw[a7];exact hlen,nO ?_,λb i=>.inl (x b i).1,J1,.inr (.inr (.inl rfl)),λf b5 b0 w bs s T V=>⟨s.1,n9.Bw _ _ _ s.2.1 T V,a6 f _ _ _ s.2.2 T V⟩,λf bt b1 r a0 s=>⟨s.1,⟨s.2.1.1,λa n aR=>s.2.1.2 a n (by rw[<-oR a0];exact aR)⟩,s.2.2⟩,λb i=>?_,λb i m C Y=>?_,λb i b6=>?_,⟨mL p ⟨hw.he.1,yq⟩,mL p ⟨hw.he.1,yq⟩⟩,λm L C s=>s,λaV=>Bool.noConfusion aV,λb i b4 f u ac y r b7 bb aq a8 bd=>?_,λ⟨b,l,c⟩=>?_⟩
 ·show((aQ 2 (k.n:Int) (k.sn:Int) e d++aQ 3 (k.n:Int) (k.sn:Int) e j).map (·.1)).Nodup
  rw[RZ];exact kS p (λa n=>(G a n).1) Z
 ·have l:=(x b i).1;rcases J b b.to.toNat yq i with⟨_,c⟩|⟨_,c⟩
  ·rw[c];exact FT p yq yq
  ·rw[c];exact j4 yq yq rfl
 ·have l:=x b i;have I:(m:Int)≠o:=by rw[<-C];exact l.2.1
  refine⟨l.2.2,λL W=>⟨L,W,?_⟩⟩;have c:=W.re hw I;subst c;rcases J b m C i with⟨c,h⟩|⟨c,h⟩
  ·rw[h];exact x3 p Y (hw.live I).1 S c
  ·rw[h];exact FX p Y (hw.live I).1 S c
 ·have:=(x b i).1;omega
 ·obtain⟨R,bg,a9,bl,an,U,a1⟩:=bb;have l:=x b i;have a2:b.to≠k.zl:=by
   have:=(hw.live (m:=b.to.toNat) yq).1;omega
  obtain⟨B,a3,a4,a5⟩:=DH p (t:=t) (sy:=(sF k t ta zv e o sq d j q).sy b) R (by
   rcases J b b.to.toNat yq i with⟨c,h⟩|⟨c,h⟩
   ·rcases nQ i with⟨a,v,z,A⟩|⟨a,v,z,A⟩
    ·exact .inl ⟨a,(E a v).1,z,c,a2,h⟩
    ·rw[A]at c;exact absurd (congrArg ck.kind c) (show(3:Int)≠2 by decide)
   ·exact .inr ⟨by rw[c];show(3:Int)≠2;decide,_,h⟩)
  refine bk f u b _ (ac++y) r B R a9 bl bg an U.1 a1 a3 (vz U (λa n=>(E a n).1) a4 a5 λa n c=>?_) aq a8 bd;rcases nQ i with⟨P,v,z,A⟩|⟨P,v,z,A⟩
  ·rw[A];rfl
  ·have ak:=lL p (E a n).1 (X P v).1 (c.trans z);subst ak;exact absurd rfl ((List.nodup_append.1 Z).2.2 a n a v)
 ·have h:=x b l;have v:=(hw.live (m:=b.to.toNat) yq).2;omega
section
variable (x:am)(pb cp:Nat)(a:aY)(R:bB)
@[simp] def zT:ax:=[⟨pb,98,false,am.cells {x with rd:=(yt a R.length cp)}⟩]
@[simp] def zU(a:Nat)(cp:Nat)(R:bB):ax:=[⟨pb,98,false,am.cells {x with rd:=(yt (ae a) R.length cp)}⟩]
def Vs(w:World)(cp:Nat)(a:aY)(R:bB)(m:Nat)(st:St)(d:World):Prop:=
 ∃(i:Nat)(b:aY)(c:Nat)(z:Nat),m+i=R.length∧i<=R.length∧ah d w.z 9 1 b i c (ba ((R.take i).map (λe:Int=>x.bl (Int.toNat e))))∧st=⟨[(0,pt pb 0),(2,z7),(3,yt b i c),(10,yt a R.length cp),(11,i6 ((R.length:Nat):Int)),(12,i6 (i:Int))],zT x pb cp a R,[],z⟩
end
theorem rl(x:am)(b:Nat)(R:bB)(m:aY)(cp:Nat)(a9:R.length<=6)(aV:∀a∈R,0<=a∧a<6)(w:World)(I:A2 w b 98 (am.cells {x with rd:=yt m R.length cp}))(a0:∀(i:Nat)(a:Int),R[i]?=some a->∃t,m=some ⟨t,0,none⟩∧t<w.z∧w.cell? ⟨t,0+i*1+0,none⟩=some (i6 a)):aC 87 #[pt b 0] w (λX s=>∃A C,X=.returned (yt A R.length C)∧ah s w.z 9 1 A R.length C (ba (R.map (λg:Int=>x.bl (Int.toNat g))))∧au z8 w s):=by
 refine cH (S:=z8) (n:=28) Tryz.func87 (ab.start (bk:=zT x b cp m R) (wn:=[]) (λN u=>by obtain rfl:=aG.1 u;exact I) (λN u q=>by obtain rfl:=aG.1 u;cases q) z1 z1) ?_;refine Aq 23 (dz 9 0x13c08000000) [0,2,3,10,11,12] [] [(b,60,1)] [y6 58,.zq 0,y6 15] ⟨[(0,pt b 0),(2,z7),(3,z7),(10,.slice m R.length cp),(11,i6 ((R.length:Nat):Int)),(12,i6 0)],zT x b cp m R,[],w.z⟩ ?_;refine bm (w:=w) (S':=λ_=>False) (Vs x b w cp m R) R.length v7 (λa7 e=>⟨⟨0,none,0,_,yq,yq,ah.nil _ _ _ _,rfl⟩,e⟩) ?_;rintro O _ o ⟨i,h,j,a6,bg,bb,M,rfl⟩ k B ak;by_cases a3:i<R.length
 rotate_left
 ·skip;refine z6 15 (dz 4 0) [2] [dF (((i:Int):Int)<((R.length:Nat):Int))] [] [y6 31] (zT x b cp m R) [] o.z ?_;refine B1 [] [yt h i j] [] ?_;intro J e;have a4:i=R.length:=by omega
  have H:=(M.kT e k);rw[eX yq]at H;subst a4;exact⟨h,j,rfl,H,(ab.A0 k e).x2⟩
 obtain⟨a,v⟩:∃a,R[i]?=some a:=⟨_,cx a3⟩;have bd:=aV a (aS v);obtain⟨c,rfl,K,a1⟩:=a0 i a v;refine aD [⟨c,0+i*1,[i6 a]⟩,⟨b,62+(Int.toNat a)*1,[sT (x.bl (Int.toNat a))]⟩] (λ_ D r=>?_) ?_
 ·simp only[bj,cv,or_false]at r;rcases r with rfl|rfl
  ·exact⟨(λ⟨_,l,q,_⟩=>by obtain rfl:=aG.1 l;cases q),cD K k.x2.size,λp Q d=>(by match p,d with
   |0,d=>cases d;exact dl k.x2 K a1)⟩
  ·refine⟨(λ⟨_,l,q,_⟩=>by obtain rfl:=aG.1 l;cases q),cD I.lt k.x2.size,λp Q d=>?_⟩
   match p,d with
   |0,d=>
    obtain rfl:=ap d;have ad:=(k.at_ 0 rfl).at_ (LU {x with rd:=yt (ae c) R.length cp} (i:=Int.toNat a) yq);simpa using ad
   |p+1,d=>simp at d
 refine Aq 28 [y2,FN,HA,⟨false,0,[⟨true,0,0,1⟩]⟩,y2,y2,y2,y2,y2,y2,y2,HA,⟨false,0,[⟨true,1,0,1⟩]⟩,y2] [0,2,3,10,11,12,16,24] [dT (((i:Int):Int)<((R.length:Nat):Int)),oE ((0:Int)<=(i:Int)∧(i:Int)<((R.length:Nat):Int)),oE ((0:Int)<=a∧a<((6:Nat):Int))] [(c,0+i*1,1),(b,62+(Int.toNat a)*1,1)] [.ops (Ac 3737) [9,10],.zq 1,y6 935,.inv B,.zq 0,y6 15] ⟨[(0,pt b 0),(2,z7),(3,yt h i j),(10,yt (ae c) R.length cp),(11,i6 ((R.length:Nat):Int)),(12,i6 (i:Int)),(16,yt h i j),(24,yt (ae o.z) 1 1)],[⟨b,98,false,am.cells {x with rd:=(yt (ae c) R.length cp)}⟩,⟨o.z,9,true,[sT (x.bl (Int.toNat a))]⟩],[⟨c,0+i*1,[i6 a]⟩,⟨b,62+(Int.toNat a)*1,[sT (x.bl (Int.toNat a))]⟩],o.z+1⟩ ?_;refine aD [] (λ_ _ l=>by cases l) ?_;refine dE (w:=w) (S':=z8) (Y:=aO) (dst:=some 25) (x:=Builtin.append_ #[32,32] 32 #[yt h i j,yt (ae o.z) 1 1]) (λf=>yt f.1 (i+1) f.2) (zU x b c cp R) (λf V=>ah V w.z 9 1 f.1 (i+1) f.2 (ba ((R.take (i+1)).map (λg:Int=>x.bl (Int.toNat g))))) (λf=>[(25,yt f.1 (i+1) f.2),(0,pt b 0),(2,z7),(3,yt h i j),(10,yt (ae c) R.length cp),(11,i6 ((R.length:Nat):Int)),(12,i6 (i:Int)),(16,yt h i j),(24,yt (ae o.z) 1 1)]) v7 v7 (λ_=>rfl) (λJ e=>?_) (λf U a2 L=>?_)
 ·have y:=(M.kT e k);have z:=(ab.A0 k e);obtain⟨T,aR,s,Z,G,ac,a8⟩:=ce (P:=Tryz.prog) J w.z 32 32 9 (sT ⟨#[]⟩) 1 16 h i j (ba ((R.take i).map (λg:Int=>x.bl (Int.toNat g)))) ⟨o.z,0,none⟩ 1 1 [sT (x.bl (Int.toNat a))] v7 v7 v7 (by decide) y rfl (λp x d=>by rw[bY,bG];exact(e.at_ 1 rfl).at_ d) (aU v7) yq (by decide) z.x2.size;rw[show ba ((R.take i).map (λg:Int=>x.bl (Int.toNat g)))++([sT (x.bl (Int.toNat a))]:av)=ba ((R.take (i+1)).map (λg:Int=>x.bl (Int.toNat g)))by rw[List.take_add_one,v];simp[ba]]at G;exact⟨(T,aR),s,Z,G,(z.sub (Ex:=zU x b c cp R) z1).A3 (λ_ l=>l) ac (λD r=>.inr (y.own D r).1) (bI (z.sub (Ex:=zU x b c cp R) z1) (bW y) rfl)⟩
 obtain⟨E,F⟩:=f;have a5:=a2;refine Aq 10 (dz 3 32) [0,2,3,10,11,12] [JL ((i:Int)+1)] [] [.inv B,.zq 0,y6 15] ⟨[(0,pt b 0),(2,z7),(3,yt E (i+1) F),(10,yt (ae c) R.length cp),(11,i6 ((R.length:Nat):Int)),(12,i6 ((i:Int)+1))],zU x b c cp R,[],U.z⟩ ?_;rw[<-aW i];intro W aq an e;exact ak (O-1) _ W aq yq ⟨i+1,E,F,_,yq,yq,a5.kT e L,rfl⟩ an (ab.A0 L e)
section
variable (x:am)(pb:Nat)(w:World)(e:Value)(b:aY)(f:Nat)(a:bB)(oc:Int)(m:ByteArray)(l i j:Int)(q:ck)(r:aZ)(h:Nat->ByteArray)(_:aO)
def rm:av:=(q.cells)
def rn:av:=([i6 l,i6 i,i6 j]++r.cells)
@[simp] def ic:ax:=[bh pb {x with bl:=h,kd:=1,rd:=yt b a.length f,ak:=e},⟨w.z,59,true,rm q⟩,⟨w.z+1,63,true,rn l i j r⟩]
def Sk:bu:=[(0,pt pb 0),(10,pt pb 44)]
def I4(d:aO):List (Option Value):=[some (pt pb 0),some (pt pb 0),some (pt pb 0),some (.agg #[i6 x.N,i6 x.S]),some (pt pb 44),some (pt pb 44),some (pt pb 48),some (i6 x.cn),some (pt pb 0),some (pt pb 44),some (pt pb 44),some (pt pb 53),some (i6 x.ou),some (i6 oc),some (pt pb 0),some (yt d.1 a.length d.2),some (.tuple #[sT m,i6 0]),some (.tuple #[sT m,i6 0]),some (sT m),some (i6 0),some (sT m),some (i6 0)]
def I5(_:aO)(k:Nat):Bool:=(fL 22 [])[k]?.getD true
def zV(_:aO):List (ax):=[ic x pb w e b f a l i j q r h,ic x pb w e b f a l i j q r h,ic x pb w e b f a l i j q r h]
abbrev zW(x:am)(c:CM)(v8:Nat)(e:Value)(L:List ar)(b:aY)(f:Nat)(a:bB)(h:Nat->ByteArray)(j:Nat)(d:aO)(g:World):Prop:=match j with|0=>bq g v8 x.lb x.cb c L e∧ah g v8 3 1 b a.length f (ai bo a)|1=>bq g v8 x.lb x.cb c L e∧ah g v8 3 1 b a.length f (ai bo a)∧ah g v8 9 1 d.1 a.length d.2 (ba (a.map λi:Int=>h (Int.toNat i)))|2=>bq g v8 x.lb x.cb c L e∧ah g v8 3 1 b a.length f (ai bo a)∧ah g v8 9 1 d.1 a.length d.2 (ba (a.map λi:Int=>h (Int.toNat i)))|_=>True
def qc(c:CM)(pb:Nat)(v8:Nat)(w:World)(d:World)(e:Value)(L:List ar)(E:aI)(b:aY)(f:Nat)(a:bB)(oc:Int)(m:ByteArray)(l:Int)(i:Int)(j:Int)(q:ck)(r:aZ)(h:Nat->ByteArray)(n:Nat):Prop:=cY prog f84 [1,1,1,1,0] 55 [] (bodyPost prog f84 (λo k=>o=Jx∧E k∧au (be [141] v8 x.lb pb x.cb w) w k)) [y6 63] (Sk pb) (V7 22 [15,16]) 2 (I4 x pb a oc m) I5 d (λg=>(ao (ic x pb w e b f a l i j q r h)) g∨(be [141] v8 x.lb pb x.cb d) g) (zV x pb w e b f a l i j q r h) d.z (zW x c v8 e L b f a h) n
end
theorem zC(x:am)(c:CM)(L:List ar)(a:Nat)(v8:Nat)(E:aI)(b3:∀w C,E w->au z8 w C->E C)(m:Nat->ByteArray)(Rd:bB)(d:aY)(e:Nat)(ya R v t u:Int)(q:ck)(r:aZ)(b7:3<=x.N∧x.N<=6∧1<=x.S∧x.S<=8)(hs:0<=x.sn∧x.sn<x.S)(oc:Int)(b8:-1<=x.ou∧x.ou<x.N)(cB:jV x.N x.sn x.ou=oc)(A:ByteArray)(cK:Rd.length<=6)(co:∀V∈Rd,0<=V∧V<6)(cP:c.zL.length=0->∀g a3 a4 bt,ah g bt 9 1 a3 Rd.length a4 (ba (Rd.map λak:Int=>m (Int.toNat ak)))->aC 107 #[.agg #[i6 x.N,i6 x.S],i6 x.cn,i6 oc,yt a3 Rd.length a4] g (bf (.tuple #[sT A,i6 0]) g))(cs:0<=x.ed∧x.ed<1099511627776)(cC:∀g,aP g v8 a ({x with kd:=1,rd:=(yt d Rd.length e)}) c L->aC 105 #[pt a 0,i6 ya,i6 R,.agg #[i6 q.kind,i6 q.Al,i6 q.BV,i6 q.seq,i6 q.mask,i6 q.node,i6 q.oe,i6 q.os,sT q.block],.agg #[i6 v,i6 t,i6 u,bO_ r.used,i6 r.Bf,i6 r.de,i6 r.ds,sT r.block,bO_ r.op,i6 r.ie,i6 r.is,i6 r.mask,sT r.A9]] g (λK C=>K=.returned (bO_ ((c.zL.length:Int)==0))∧aP C v8 a ({x with bl:=m,kd:=1,rd:=(yt d Rd.length e)}) c L∧au (be [] v8 x.lb a x.cb g) g C))(c1:c.zL.length≠0->∀g,aP g v8 a ({x with bl:=m,kd:=1,rd:=(yt d Rd.length e)}) c L->ah g v8 3 1 d Rd.length e (ai bo Rd)->E g)(c0:c.zL.length=0->∀g,aP g v8 a (({x with bl:=m,kd:=1,rd:=(yt d Rd.length e)}).ended 0 A) {c with zL:=[]} L->(∀cR,bO 124 141 g cR x.cb {c with zL:=[]})->E g)(w:World)(b5:aP w v8 a ({x with kd:=1,rd:=(yt d Rd.length e)}) c L)(cO:ah w v8 3 1 d Rd.length e (ai bo Rd))(aR:v8<=w.z):aC 84 #[pt a 0,i6 ya,i6 R,.agg #[i6 q.kind,i6 q.Al,i6 q.BV,i6 q.seq,i6 q.mask,i6 q.node,i6 q.oe,i6 q.os,sT q.block],.agg #[i6 v,i6 t,i6 u,bO_ r.used,i6 r.Bf,i6 r.de,i6 r.ds,sT r.block,bO_ r.op,i6 r.ie,i6 r.is,i6 r.mask,sT r.A9]] w (λK C=>K=Jx∧E C∧au (be [141] v8 x.lb a x.cb w) w C):=by
 obtain⟨W,a5,b4⟩:=b5;have a7:=aw a5;refine cH (S:=(λD=>D=a)) (n:=55) func84 (ab.D1 a5) ?_;refine Aq 16 (dz 7 0xd002809001800000) [0,1,13,14,15,16,17] [] [(w.z,0,9),(w.z+1,0,13)] [.ops (Ac 12) [5,6],y6 13,.code [1,1]] ⟨[(0,pt a 0),(1,i6 ya),(13,pt a 0),(14,i6 ya),(15,i6 R),(16,aE (rm q)),(17,aE (rn v t u r))],[bh a {x with kd:=1,rd:=yt d Rd.length e,ak:=W},⟨w.z,59,true,rm q⟩,⟨w.z+1,63,true,rn v t u r⟩],[],w.z+2⟩ ?_;refine fh (w:=w) (S':=bL [141] v8 x a w) (Y:=Value) (λo=>bO_ ((c.zL.length:Int)==0)) (λo=>ic x a w o d e Rd v t u q r m) (λo X=>bq X v8 x.lb x.cb c L o∧ah X v8 3 1 d Rd.length e (ai bo Rd)) (λo=>[(18,bO_ ((c.zL.length:Int)==0)),(0,pt a 0),(1,i6 ya),(13,pt a 0),(14,i6 ya),(15,i6 R),(16,aE (rm q)),(17,aE (rn v t u r))]) (v7:_=some (105,[pt a 0,i6 ya,i6 R,aE (rm q),aE (rn v t u r)],some 18,[])) tI (λ_=>rfl) (λg b=>?_) (λo F cp H=>?_)
 ·have Q:=(b.wide (S':=bL [141] v8 x a w) (λ_ k=>.inl k));have aq:=(b4.y4 (es:=[98]) b.x2 (λD T=>by subst T;exact⟨98,z1,a7⟩) rfl rfl rfl);have U:=(cO.y4 (es:=[98]) b.x2 (λD T=>by subst T;exact⟨98,z1,a7⟩) rfl);have P:aP g v8 a ({x with kd:=1,rd:=yt d Rd.length e,ak:=W}) c L:=⟨_,b.at_ 0 rfl,aq⟩;have a9:=P.T' (es:=[]);refine(cC g P).mono λK C N=>?_;obtain⟨M,⟨ca,cl,cL⟩,z⟩:=N;exact⟨ca,M,⟨cL,U.y4 z a9 rfl⟩,Q.HS z (bv Q.x2 rfl) cl (bQ b a9 rfl)⟩
 obtain⟨a8,bb⟩:=cp;by_cases a0:c.zL.length=0
 rotate_left
 ·skip;refine z6 6 [y2,FN] [0,1] [oE ((!((c.zL.length:Int)==0))=true) (by rw[show((c.zL.length:Int)==0)=false from by rw[cw];omega];rfl)] [] [y6 26,.code [1,1]] (ic x a w o d e Rd v t u q r m) [] F.z ?_;refine B1 [] [] [] ?_;intro g b;exact⟨rfl,c1 a0 _ ⟨_,b.at_ 0 rfl,a8.kT b H⟩ (bb.kT b H),(ab.A0 H b).x2⟩
 refine Aq 27 (dz 13 0x12c080000000000) [0,10] [oE ((!((c.zL.length:Int)==0))=false) (by rw[show((c.zL.length:Int)==0)=true from by rw[dC];omega];rfl),fF] [(a,44,1)] [y6 62,y6 63] ⟨[(0,pt a 0),(10,pt a 44)],ic x a w o d e Rd v t u q r m,[],F.z⟩ ?_;have bg:eh F (λD=>(ao (ic x a w o d e Rd v t u q r m)) D∨(be [141] v8 x.lb a x.cb F) D) (zV x a w o d e Rd v t u q r m) (zW x c v8 o L d e Rd m):=by
  intro O h g C Z y b p G
  match O,y,p with
  |0,y,p=>
   obtain rfl:=ap y;exact⟨p.1.kU G b,p.2.kU G b⟩
  |1,y,p=>
   obtain rfl:=ap y;exact⟨p.1.kU G b,p.2.1.kU G b,p.2.2.kU G b⟩
  |2,y,p=>
   obtain rfl:=ap y;exact⟨p.1.kU G b,p.2.1.kU G b,p.2.2.kU G b⟩
  |O+3,y,p=>exact trivial
 have c5:qc x c a v8 w F o L E d e Rd oc A v t u q r m 13:=eO (B:=0) (f:=46) (args:=λh=>[pt a 0,i6 x.ou]) (ob:=λh=>[]) (λh=>i6 oc) v7 (.inr ⟨15,by kernel_rfl,aS (i:=1) v7⟩) (λh=>v7) (λh=>v7) (λh=>v7) (λh=>trivial) (λO h g Z c9 y b p=>by
   obtain rfl:O=0:=by omega
   obtain rfl:(ic x a w o d e Rd v t u q r m)=Z:=ap y;rw[<-cB];exact io ({x with bl:=m,kd:=1,rd:=yt d Rd.length e,ak:=o}) a x.ou b7 hs b8 g (b.at_ 0 rfl)) bg
 have c6:qc x c a v8 w F o L E d e Rd oc A v t u q r m 15:=WO (s:=0) (f:=87) (args:=λh=>[pt a 0]) (ob:=λh=>[]) (λ(h:aO)(ad:aO)=>ad) (λh=>yt h.1 Rd.length h.2) (λh=>trivial) (λh g Z y b p cU=>by
  obtain rfl:=ap y;have aV:v8<=g.z:=az (az aR H.x2.size) b.x2.size;have U:=p.2;refine(rl ({x with bl:=m,kd:=1,rd:=yt d Rd.length e,ak:=o}) a Rd d e cK co g (b.at_ 0 rfl) (λi V G=>by obtain⟨bk,b0,_,b1,b2⟩:=U.cell (j:=i*1+0) (ff (f:=bo) (λ_=>rfl) G (by decide));exact⟨bk,b0,b1,by rw[bG];exact b2⟩)).mono λK C N=>?_;obtain⟨bl,O,M,c2,z⟩:=N;exact⟨(bl,O),M,rfl,⟨(p.1.y4 (es:=[]) z (λ_ k=>k.elim) rfl rfl rfl),(p.2.x2 z (λ_ _ k=>k)),c2.below aV⟩,b.A3 (λ_ k=>k) z (λ_ k=>k.elim) (λ_ _ k=>k),z.size⟩)
 have c7:qc x c a v8 w F o L E d e Rd oc A v t u q r m 16:=WO (s:=1) (f:=107) (args:=λh=>[.agg #[i6 x.N,i6 x.S],i6 x.cn,i6 oc,yt h.1 Rd.length h.2]) (ob:=λh=>[]) (λ(h:aO)(_:Unit)=>h) (λh=>.tuple #[sT A,i6 0]) (λh=>trivial) (λh g Z y b p cU=>by
  obtain rfl:=ap y;have bd:=p.2.2;refine(cP a0 g _ _ _ bd).mono λK C N=>?_;obtain⟨M,z⟩:=N;exact⟨(),M,rfl,⟨(p.1.y4 (es:=[]) z (λ_ k=>k.elim) rfl rfl rfl),(p.2.1.x2 z (λ_ _ k=>k)),(p.2.2.x2 z (λ_ _ k=>k))⟩,b.A3 (λ_ k=>k) z (λ_ k=>k.elim) (λ_ _ k=>k),z.size⟩)
 have c4:∀ad∈(f5 2 [0,1,2,4,5,6,8,9,10,11,14,17,18,19,20,21]++[rY 3 2 0 0 2 a,rY 7 2 0 48 1 a,rY 12 2 0 53 1 a]:List (fG (aO))),qc x c a v8 w F o L E d e Rd oc A v t u q r m ad.i:=bp _ bg (λh=>v7) v7 (λh da=>v7);have c3:∀a6,a6<22->qc x c a v8 w F o L E d e Rd oc A v t u q r m a6:=f6 (l:=[13,15,16]) v7 c4 ⟨c5,c6,c7,trivial⟩;refine bD (Δ:=aO) (λD=>(ao (ic x a w o d e Rd v t u q r m)) D∨(bL [141] v8 x a F) D) (I4 x a Rd oc A) I5 (zV x a w o d e Rd v t u q r m) (zW x c v8 o L d e Rd m) [0,11] (λh=>[(0,pt a 0),(11,sT A)]) (λh=>ic x a w o d e Rd v t u q r m) (none,0) (λ_ k=>.inl k) v7 v7 v7 (λg b=>⟨a8.y4 b.x2.drew (ag H) rfl rfl rfl,bb.y4 b.x2.drew (ag H) rfl⟩) v7 c3 (λh=>v7) (λh=>v7) (λh I dd cq de J=>?_);replace J:=H.Wb J (λD T=>T.elim (λ⟨ac,y,b9,b6⟩=>b6▸H.own ac y b9) (λk=>bv H.x2 rfl D k));obtain⟨cb,cf⟩:=h;obtain⟨an,a1,a2⟩:=cq;replace an:bq I v8 x.lb x.cb c L o:=an;replace a1:ah I v8 3 1 d Rd.length e (ai bo Rd):=a1;replace a2:ah I v8 9 1 cb Rd.length cf (ba (Rd.map λak:Int=>m (Int.toNat ak))):=a2;replace J:ab w (bL [141] v8 x a w) (ic x a w o d e Rd v t u q r m) [] I.z I:=J;change aF _ _ _ _ I (ao (ic x a w o d e Rd v t u q r m)) _ [y6 63] ⟨[(0,pt a 0),(11,sT A)],ic x a w o d e Rd v t u q r m,[],I.z⟩;refine z6 6 (dz 2 0) [52,53] [] [] [.ops (Ac 63) [2]] (ic x a w o d e Rd v t u q r m) [] I.z ?_;refine Ip (w:=w) (S':=bL [141] v8 x a w) (Y:=Unit) (λ_=>.tuple #[]) (λ_=>[]) (λ_ X=>E X) (v7:_=some (47,[pt a 0,i6 0,sT A],some 54,[])) tI (λg b=>?_) (λdb bs cn cA=>?_)
 ·have Q:=(ab.A0 J b);have aq:=(an.kT b J);have P:aP g v8 a ({x with bl:=m,kd:=1,rd:=yt d Rd.length e,ak:=W}) c L:=⟨_,b.at_ 0 rfl,aq⟩;refine(qd ({x with bl:=m,kd:=1,rd:=yt d Rd.length e,ak:=W}) c L a v8 0 A cs g P).mono λK C N=>?_;obtain⟨M,cr,cm,z⟩:=N;exact⟨(),M,c0 a0 _ cr cm,Q.none_.A3 (λ_ k=>k) z (bv Q.x2 rfl) (λac y=>by cases y)⟩
 refine Aq 4 [] [] [] [] [] ⟨[],[],[],bs.z⟩ ?_;refine bN [] (v7:_=some ([],aX [])) ?_;intro g b;exact⟨rfl,b3 _ _ cn (b.x2.mono (λV _ k=>by obtain⟨ac,y,_⟩:=k;cases y)),(ab.A0 cA b).x2⟩
def vM(q:ck):av:=(rm q)
def vN(c:Int)(a:Int)(b:Int)(r:aZ):av:=(rn c a b r)
@[simp] def Gh(x:am)(d:Nat)(w:World)(v1:Value)(e:Int)(b:Int)(c:Int)(q:ck)(r:aZ)(a:Nat->ByteArray):ax:=[bh d {x with bl:=a,kd:=2,ak:=v1},⟨w.z,59,true,vM q⟩,⟨w.z+1,63,true,vN e b c r⟩]
theorem zH(x:am)(c:CM)(L:List ar)(a:Nat)(v8:Nat)(E:aI)(X:∀w e,E w->au z8 w e->E e)(l:Nat->ByteArray)(Rd:bB)(y:aY)(B:Nat)(z:bB)(gW A BL:Nat)(ya s h f g:Int)(q:ck)(r:aZ)(a2:∀b,aP b v8 a ({x with kd:=2}) c L->aC 105 #[pt a 0,i6 ya,i6 s,.agg #[i6 q.kind,i6 q.Al,i6 q.BV,i6 q.seq,i6 q.mask,i6 q.node,i6 q.oe,i6 q.os,sT q.block],.agg #[i6 h,i6 f,i6 g,bO_ r.used,i6 r.Bf,i6 r.de,i6 r.ds,sT r.block,bO_ r.op,i6 r.ie,i6 r.is,i6 r.mask,sT r.A9]] b (λk e=>k=.returned (bO_ ((c.zL.length:Int)==0))∧aP e v8 a ({x with bl:=l,kd:=2}) c L∧au (be [] v8 x.lb a x.cb b) b e))(a7:c.zL.length≠0->∀b,aP b v8 a ({x with bl:=l,kd:=2}) c L->ah b v8 3 1 y Rd.length B (ai bo Rd)->ah b v8 3 1 (ae gW) A BL (ai bo z)->E b)(a6:c.zL.length=0->∀b,aP b v8 a ({x with bl:=l,kd:=2}) c L->ah b v8 3 1 y Rd.length B (ai bo Rd)->ah b v8 3 1 (ae gW) A BL (ai bo z)->v8<=b.z->aC 52 #[pt a 0,i6 ya] b (λk e=>k=Jx∧E e∧au (be [141,178] v8 x.lb a x.cb b) b e))(w:World)(ac:aP w v8 a ({x with kd:=2}) c L)(a4:ah w v8 3 1 y Rd.length B (ai bo Rd))(a5:ah w v8 3 1 (ae gW) A BL (ai bo z))(aV:v8<=w.z):aC 84 #[pt a 0,i6 ya,i6 s,.agg #[i6 q.kind,i6 q.Al,i6 q.BV,i6 q.seq,i6 q.mask,i6 q.node,i6 q.oe,i6 q.os,sT q.block],.agg #[i6 h,i6 f,i6 g,bO_ r.used,i6 r.Bf,i6 r.de,i6 r.ds,sT r.block,bO_ r.op,i6 r.ie,i6 r.is,i6 r.mask,sT r.A9]] w (λk e=>k=Jx∧E e∧au (be [141,178] v8 x.lb a x.cb w) w e):=by
 obtain⟨D,P,Z⟩:=ac;have G:=aw P;refine cH (S:=(λv=>v=a)) (n:=55) func84 (ab.D1 P) ?_;refine Aq 16 (dz 7 0xd002809001800000) [0,1,13,14,15,16,17] [] [(w.z,0,9),(w.z+1,0,13)] [.ops (Ac 12) [5,6],y6 13,.code [1,1]] ⟨[(0,pt a 0),(1,i6 ya),(13,pt a 0),(14,i6 ya),(15,i6 s),(16,aE (vM q)),(17,aE (vN h f g r))],[bh a {x with kd:=2,ak:=D},⟨w.z,59,true,vM q⟩,⟨w.z+1,63,true,vN h f g r⟩],[],w.z+2⟩ ?_;refine fh (w:=w) (S':=bL [141,178] v8 x a w) (Y:=Value) (λi=>bO_ ((c.zL.length:Int)==0)) (λi=>Gh x a w i h f g q r l) (λi p=>bq p v8 x.lb x.cb c L i∧ah p v8 3 1 y Rd.length B (ai bo Rd)∧ah p v8 3 1 (ae gW) A BL (ai bo z)) (λi=>[(18,bO_ ((c.zL.length:Int)==0)),(0,pt a 0),(1,i6 ya),(13,pt a 0),(14,i6 ya),(15,i6 s),(16,aE (vM q)),(17,aE (vN h f g r))]) (v7:_=some (105,[pt a 0,i6 ya,i6 s,aE (vM q),aE (vN h f g r)],some 18,[])) tI (λ_=>rfl) (λb d=>?_) (λi O aR j=>?_)
 ·have m:=(d.wide (S':=bL [141,178] v8 x a w) (λ_ o=>.inl o));have H:=(Z.y4 (es:=[98]) d.x2 (λv t=>by subst t;exact⟨98,z1,G⟩) rfl rfl rfl);have M:=(a4.y4 (es:=[98]) d.x2 (λv t=>by subst t;exact⟨98,z1,G⟩) rfl);have N:=(a5.y4 (es:=[98]) d.x2 (λv t=>by subst t;exact⟨98,z1,G⟩) rfl);have C:aP b v8 a ({x with kd:=2,ak:=D}) c L:=⟨_,d.at_ 0 rfl,H⟩;have I:=C.T' (es:=[]);refine(a2 b C).mono λk e K=>?_;obtain⟨J,⟨ad,ak,a3⟩,u⟩:=K;exact⟨ad,J,⟨a3,M.y4 u I rfl,N.y4 u I rfl⟩,m.HS u (bv m.x2 rfl) ak (bQ d I rfl)⟩
 obtain⟨Q,T,U⟩:=aR;by_cases R:c.zL.length=0
 rotate_left
 ·skip;refine z6 6 [y2,FN] [0,1] [oE ((!((c.zL.length:Int)==0))=true) (by rw[show((c.zL.length:Int)==0)=false from by rw[cw];omega];rfl)] [] [y6 26,.code [1,1]] (Gh x a w i h f g q r l) [] O.z ?_;refine B1 [] [] [] ?_;intro b d;exact⟨rfl,a7 R _ ⟨_,d.at_ 0 rfl,Q.kT d j⟩ (T.kT d j) (U.kT d j),(ab.A0 j d).x2⟩
 refine z6 29 (dz 15 0x10012c080000000000) [0,10,29,30] [oE ((!((c.zL.length:Int)==0))=false) (by rw[show((c.zL.length:Int)==0)=true from by rw[dC];omega];rfl),tT] [(a,44,1)] [.ops (Ac 244) [2],y6 245,y6 31] (Gh x a w i h f g q r l) [] O.z ?_;refine Ip (w:=w) (S':=be [141,178] v8 x.lb a x.cb w) (Y:=Unit) (λ_=>.tuple #[]) (λ_=>[]) (λ_ p=>E p) (v7:_=some (52,[pt a 0,i6 ya],some 31,[])) tI (λb d=>?_) (λa9 W an a1=>?_)
 ·have m:=(ab.A0 j d);have a0:v8<=b.z:=az aV m.x2.size;have H:=(Q.kT d j);have M:=(T.kT d j);have N:=(U.kT d j);have C:aP b v8 a ({x with bl:=l,kd:=2,ak:=D}) c L:=⟨_,d.at_ 0 rfl,H⟩;refine(a6 R b C M N a0).mono λk e K=>?_;obtain⟨J,aq,u⟩:=K;exact⟨(),J,aq,m.none_.A3 (λ_ o=>o) u (bv m.x2 rfl) (λV F=>by cases F)⟩
 refine z6 4 [] [0,10] [] [] [y6 245,y6 31] [] [] W.z ?_;refine B1 [] [] [] ?_;intro b d;exact⟨rfl,X _ _ an (d.x2.mono (λa8 _ o=>by obtain⟨V,F,_⟩:=o;cases F)),(ab.A0 a1 d).x2⟩
variable {k:Be}{g:S2}{N:HB->Prop}
def FZ(oc c:Int):ct->ByteArray
 |[]=>⟨#[]⟩
 |a::b=>if oc=c then bX (eF (aK a) b)else a
theorem DJ(n:Nat){b:Int}(h:0<=b∧b<(n:Int)):(eu n b).length+1=n:=by
 have g:∀a:Nat,(eu a b).length+(if b<(a:Int)then 1 else 0)=a:=λa=>by
  induction a with
  |zero=>rw[ay yq];rfl
  |succ a c=>
   by_cases d:(a:Int)=b
   ·rw[zA d];rw[ay yq]at c;rw[aA yq];omega
   ·rw[zB d,bM,List.length_singleton];by_cases e:b<(a:Int)
    ·rw[aA e]at c;rw[aA yq];omega
    ·rw[ay e]at c;rw[ay yq];omega
 have f:=g n;rw[aA h.2]at f;exact f
theorem vA{N c o:Int}(a:3<=N)(d:0<=c∧c<N-1):(bF N c o).length=if o=c then Int.toNat N-1 else 1:=by
 unfold bF;split
 ·have:=DJ N.toNat (b:=c) yq;omega
 ·rfl
theorem R1{N S c o:Int}(p:3<=N∧N<=6∧1<=S∧S<=8)(n:0<=c∧c<N-1)(t:-1<=o∧o<=N-1){T:ct}(i:∀f∈T,f.size=16)(s:T.length=(bF N c o).length){d:World}{A:aY}{cp b:Nat}(h:ah d b 9 1 A T.length cp (ba T)):aC 107 #[.agg #[i6 N,i6 S],i6 c,i6 o,yt A T.length cp] d (bf (.tuple #[sT (FZ o c T),i6 0]) d):=by
 have m:=vA (o:=o) p.1 n
 cases T with
 |nil=>
  simp only[List.length_nil]at s;split at m<;>omega
 |cons a e=>
  obtain⟨l,rfl,_,u,_⟩:=h.cell (j:=0) rfl;have r:∀(j:Nat)(k:Value),(ba (a::e))[j]?=some k->d.cell? ⟨l,0+j,none⟩=some k:=λj k w=>by rw[bG];exact it h w
  have x:=h.le;simp only[List.length_cons]at s x;have v:FZ o c (a::e)=if o=c then bX (eF (aK a) e)else a:=rfl;rw[v];by_cases g:o=c
  ·rw[aA g]at m ⊢;exact LD N S c o p n t a e (i a A4) (λf q=>i f (cz _ q)) g ⟨yq,yq⟩ yq l cp d yq u r
  ·rw[ay g]at m ⊢;exact LE N S c o p n t a e (i a A4) (λf q=>i f (cz _ q)) g yq yq l cp d u r
theorem mR(a:cZ k){c:Int}(n:k.nd c≠k.zl):(k.zq (k.nd c)).size=16:=by
 have m:=gq a c;obtain⟨f,g,h,e,b,i,j,l,d⟩:=a.live (k.nd c).toNat yq yq;unfold Be.zq;rw[b];exact d
structure Fin(k:Be)(dt:ByteArray)(l:jI)(t:Int)(x:am)(c:CM):Prop where
 N:x.N=(k.n:Int)
 S:x.S=(k.S:Int)
 cb:x.cb=k.cb
 busy:x.busy=false
 er:x.er=0
 Y2:x.dt=dt
 ed:x.ed=k.ed+1
 lv:∀i,i≠k.sn->x.lv i=k.Wf i
 Yt:∃sc,x.lv k.sn={l with sc:=sc}∧0<=sc∧sc<=t
 Ar:c.Ar=k.Ar
 zL:c.zL=[]
theorem Xl.fin{x:am}(h:Xl k x){e:Nat->ByteArray}{lv:Nat->jI}{j n m:Value}{i lb:_}{c:ByteArray}{l:jI}{t zv:Int}(g:∀a,a≠k.sn->lv a=x.lv a)(f:∃b,lv k.sn={l with sc:=b}∧0<=b∧b<=t):Fin k c l t (({x with lb:=lb,lv:=lv,bl:=e,kd:=i,rd:=j,wr:=n,ud:=m}:am).ended 0 c) ⟨k.Ar,zv,[]⟩:=
 ⟨h.N,h.S,h.cb,rfl,rfl,rfl,congrArg (·+1) h.ed,λa d=>(g a d).trans (h.lv a d),f,rfl,rfl⟩
def Be.oc(k:Be)(o:Int):Int:=jV (k.n:Int) (k.sn:Int) o
theorem oa(a:cZ k)(o:Int):-1<=k.oc o∧k.oc o<=(k.n:Int)-1:=pZ (by have:=a.hn;omega)
theorem jg(a:cZ k){o c:Int}(m:-1<=o∧o<(k.n:Int))(h:c≠k.oc o)(g:0<=c∧c<(k.n:Int)):k.nd c≠o:=λe=>by
 have i:=gq a c
 have f:=nP a (o:=o) yq
 refine h (lL a g ?_ (e.trans f.symm))
 have j:=oa a o
 have l:k.oc o≠-1:=λd=>by
  unfold Be.oc jV at d
  rw[ay yq]at d
  have:=eY (o+(k.n:Int)-(k.sn:Int)%(k.n:Int)) (b:=(k.n:Int)) (by have:=a.hn;omega)
  omega
 exact⟨by show 0<=k.oc o;omega,by show k.oc o<_;omega⟩
theorem DK(d:cZ k){o:Int}(g:-1<=o∧o<(k.n:Int)):∀e∈bF (k.n:Int) (k.cn:Int) (k.oc o)++cT (k.n:Int) (k.cn:Int) (k.oc o),(0<=e∧e<(k.n:Int))∧k.nd e≠o:=λe j=>by
 have m:=d.Wl
 have l:=d.hn
 rcases dG.1 j with a|a
 ·unfold bF at a
  split at a
  ·rename_i f
   have c:=gp a
   rw[cJ]at c
   exact⟨c.1,jg d g (by rw[f];exact c.2) c.1⟩
  ·rename_i f
   obtain rfl:=aG.1 a
   exact⟨yq,jg d g (λi=>f i.symm) yq⟩
 ·unfold cT at a
  split at a
  ·rename_i f
   obtain rfl:=aG.1 a
   have c:=eY ((k.cn:Int)+1) (b:=(k.n:Int)) yq
   have h:=gy ((k.cn:Int)+1) (b:=(k.n:Int)) yq
   exact⟨⟨c,h⟩,jg d g yq ⟨c,h⟩⟩
  ·cases a
theorem DL(c:cZ k){o:Int}:(bF (k.n:Int) (k.cn:Int) o++cT (k.n:Int) (k.cn:Int) o).Nodup:=by
 have d:=c.Wl;unfold bF cT;by_cases a:o=(k.cn:Int)
 ·rw[aA a,ay yq,dD];exact jL _ _
 ·rw[ay a];split
  ·have b:((k.cn:Int)+1)%(k.n:Int)=(k.cn:Int)+1:=Int.emod_eq_of_lt yq yq;rw[b];simp;omega
  ·simp
theorem oS(b:cZ k){o:Int}:0<(bF (k.n:Int) (k.cn:Int) o++cT (k.n:Int) (k.cn:Int) o).length∧(bF (k.n:Int) (k.cn:Int) o++cT (k.n:Int) (k.cn:Int) o).length<=6:=by
 have f:=b.Wl;have e:=b.hn;have d:=vA (N:=(k.n:Int)) (c:=(k.cn:Int)) (o:=o) yq yq;rw[bM,d];unfold cT;by_cases a:o=(k.cn:Int)
 ·rw[aA a,ay yq];simp only[List.length_nil];omega
 ·rw[ay a];split<;>simp
def Be.Yd(k:Be)(o:Int):ByteArray:=FZ (k.oc o) (k.cn:Int) ((bF (k.n:Int) (k.cn:Int) (k.oc o)).map λa=>k.zq (k.nd a))
def XN(k:Be)(t ta zv e o sq:Int):HB:=sF k t ta zv e o sq (bF (k.n:Int) (k.cn:Int) (k.oc o)) (cT (k.n:Int) (k.cn:Int) (k.oc o)) (λ_ _=>True)
theorem R2(f:cZ k)(W:k.kd=1){n:Nat}(bk:∀I,N I->∃G,G+1=n∧ci k g G I){t ta zv e o sq:Int}(hw:Wk k e o)(J1:(0<=ta∧ta<=t∧t<=ta+1∧t<=1000000)∧0<=zv∧zv<=1000000000)(a8:∀b c,Fin k (k.Yd o) ⟨true,e,o,sq,0⟩ 1000000 b c->c.last=(XN k t ta zv e o sq).last->g.X b c)(a6:∀m J,m<k.n->Rb k e o m J->g.R m J)(a4:∀H,Lp k e o H->g.L H):Stp k g N (XN k t ta zv e o sq):=by
 have cq:=f.hn;have cp:=f.hS;have cK:=f.Wi;have cA:=f.Wl;have V:=DK f hw.ho;refine DI f hw J1 V (DL f) (oS f) (λ_ _ _ _ h _ _=>h) λb d Q y j an l a b2 X b5 a2 ⟨r,x,E,a5⟩ _ b7 T i b0 cC=>?_;have P:({b with lb:=d,kd:=1,rd:=yt r (bF (k.n:Int) (k.cn:Int) (k.oc o)).length x}:am)={b with lb:=d}:=by rw[<-W,<-a.kd,<-E]
 have Z:({b with lb:=d,bl:=l,kd:=1,rd:=yt r (bF (k.n:Int) (k.cn:Int) (k.oc o)).length x}:am)={b with lb:=d,bl:=l}:=by rw[<-W,<-a.kd,<-E]
 have A:({b with lb:=d}:am).N=(k.n:Int):=a.N;have F:({b with lb:=d}:am).S=(k.S:Int):=a.S;have ad:({b with lb:=d}:am).sn=(k.sn:Int):=a.sn;have b8:({b with lb:=d}:am).cn=(k.cn:Int):=a.cn;have ac:({b with lb:=d}:am).ou=o:=X;have b9:({b with lb:=d}:am).ed=k.ed:=a.ed;have b1:({b with lb:=d}:am).cb=k.cb:=a.cb;have b3:=oS f (o:=k.oc o);rw[bM]at b3;have cB:=f.Yk;obtain⟨R,Y,ak⟩:=a2;have U:∀c∈bF (k.n:Int) (k.cn:Int) (k.oc o),(0<=c∧c<(k.n:Int))∧k.nd c≠o:=λc s=>V c (cE _ s);have b6:∀K∈(bF (k.n:Int) (k.cn:Int) (k.oc o)).map (λc=>k.zq (k.nd c)),ByteArray.size K=16:=λK bb=>by
  obtain⟨c,a0,rfl⟩:=aT.1 bb;have cm:=U c a0;have cn:=gq f c;have co:=(hw.live (m:=(k.nd c).toNat) yq).1;exact mR f yq
 have bg:∀(j:List ar),j=[]->(∀c∈bF (k.n:Int) (k.cn:Int) (k.oc o),fe j (k.nd c)=false->l c.toNat=k.zq (k.nd c))->(bF (k.n:Int) (k.cn:Int) (k.oc o)).map (λbd:Int=>l (Int.toNat bd))=(bF (k.n:Int) (k.cn:Int) (k.oc o)).map λc=>k.zq (k.nd c):=λj bt h=>ft λc s=>h c s (by subst bt;rfl);have a9:=zC {b with lb:=d} ⟨k.Ar,(XN k t ta zv e o sq).last,j⟩ [] k.pb k.B0 (λu=>∃D M L,D.cb=k.cb∧aP u k.B0 k.pb {D with lb:=d} M L∧Nx k g N (XN k t ta zv e o sq) j D M L u) (λcr cs q a1=>Nx.J7 (p:=XN k t ta zv e o sq) bk (λb cL cb u ca h a3 a7=>⟨h.1,n9.Bw _ _ _ h.2.1 a3 a7,trivial⟩) q a1)
  l (bF (k.n:Int) (k.cn:Int) (k.oc o)) r x t Q.to y.st y.ep y.ou Q.q y.rc (by rw[A,F];omega) (by rw[ad,F];omega) (k.oc o) (by rw[ac,A];exact hw.ho) (by rw[A,ad,ac];rfl) (k.Yd o) yq (λc s=>by have:=(U c s).1;omega)
  (λC z r cl cf O=>by
   rw[A,F,b8];rw[bg j (List.eq_nil_of_length_eq_zero C) T]at O;have q:=R1 (N:=(k.n:Int)) (S:=(k.S:Int)) (c:=(k.cn:Int)) (o:=k.oc o) yq yq (oa f o) b6 z1 (by rw[ey];exact O);rw[ey]at q;exact q)
  (by rw[b9];omega) (λz i=>by rw[P]at i;have q:=b7 d _ z i;exact q.mono λaV u ⟨B,v,w⟩=>⟨B,by rw[<-Z]at v;exact v,w⟩)
  (λb4 z i bl=>⟨{b with bl:=l},_,_,a.cb,?_,.inl ⟨rfl,λh=>b4 (by rw[h];rfl),rfl,⟨a.1,a.2,a.3,a.4,a.5,a.6,a.7,a.8,a.9,a.10⟩,b5,b2,X,⟨R,Y,ak⟩,⟨⟨r,x,E,bl⟩,T⟩,trivial⟩⟩)
  (λC z i bs=>⟨_,_,_,a.cb,i,.inr (.inr ⟨List.eq_nil_of_length_eq_zero C,rfl,rfl,rfl,λaq=>?_,a8 _ _ (a.fin (λ_ _=>rfl) ⟨R,Y,ak⟩) rfl,a6,a4⟩)⟩)
  an (by rw[P];exact i) a5 b0
 ·refine a9.mono λaV u ⟨B,v,w⟩=>⟨B,v,?_⟩;rw[b1]at w;exact w.mono λaR _ h=>eI rfl aR h
 ·rw[Z]at i;exact i
 ·rw[<-a.cb];exact bs aq
def O0(x:am):Int:=(x.lv (Int.toNat x.sn)).sq+1
def Wa(x:am):Nat->jI:=Wo x.lv (Int.toNat x.sn) { x.lv (Int.toNat x.sn)with sq:=O0 x}
theorem x7:∀a:bB,ai bo a=a.map (Value.int .i64)
 |[]=>rfl
 |b::a=>by rw[List.map_cons,<-x7 a];rfl
theorem vO:∀(d:bB)(c:ct),∀b∈dn d c,b.zL=false
 |[],_,b,a=>by simp[dn]at a
 |_::_,[],b,a=>by simp[dn]at a
 |_::d,_::c,b,a=>by
  rcases bj.1 a with rfl|a
  ·rfl
  ·exact vO d c b a
section
variable (x:am)(c:CM)(pb v8:Nat)(ya:Int)(w:World)(v:Value)(L:List ar)(b:aY)(e BL nd k:Nat)(oc:Int)(a f:bB)(h:ct)(gW i:Nat)
@[simp] def oW:ax:=[bh pb {x with rd:=yt b a.length e,wr:=yt (ae gW) nd BL,ak:=v}]
@[simp] def Af:ax:=[bh pb {x with lv:=Wa x,rd:=yt b a.length e,wr:=yt (ae gW) nd BL,ak:=v}]
@[simp] def mW:ax:=[bh pb {x with lv:=Wa x,te:=x.ep,ts:=O0 x,rd:=yt b a.length e,wr:=yt (ae gW) nd BL,ak:=v}]
@[simp] def fS:ax:=[bh pb {x with lv:=Wa x,db:=true,te:=x.ep,ts:=O0 x,rd:=yt b a.length e,wr:=yt (ae gW) nd BL,ak:=v}]
@[simp] def OP(v4:Value)(b:aY)(e:Nat)(BL:Nat)(nd:Nat)(a:bB)(gW:Nat)(c:Nat):ax:=[bh pb {x with lv:=Wa x,nx:=.func (.func 112) #[pt pb 0] #[],lg:=false,db:=true,te:=x.ep,ts:=O0 x,rd:=yt b a.length e,wr:=yt (ae gW) nd BL,ud:=pt c 0,ak:=v4}]
def I6:Exit->Act->aI:=bodyPost prog f52 (λk d=>∃j g i,k=Jx∧aP d v8 pb ({x with lv:=Wa x,nx:=.func (.func 112) #[pt pb 0] #[],lg:=false,db:=true,te:=x.ep,ts:=O0 x,rd:=yt b a.length e,wr:=yt (ae gW) nd BL,ud:=(pt j 0)}) (HX c ya (ef (jN x.sn x.ep (O0 x) (fJ f)) x.N x.sn (dn f h))) (L++bc ya c.last (ef (jN x.sn x.ep (O0 x) (fJ f)) x.N x.sn (dn f h)))∧ah d v8 178 7 (ae j) 1 1 (jr x.sn (fJ f) x.ep (O0 x) (yt (ae g) nd i) true)∧ah d v8 180 4 (ae g) nd i (ai aL.cells (dn f h))∧au (be [141,178] v8 x.lb pb x.cb w) w d)
def Sn:bu:=[(0,pt pb 0),(1,i6 ya),(4,pt pb 44)]
def I7:List (Option Value):=[some (pt pb 0),some (pt pb 44),some (pt pb 44),some (pt pb 47),some (i6 x.sn),some (pt pb 0),some (pt pb 3),some (pt pb (3+(Int.toNat x.sn)*5)),some (pt pb (3+(Int.toNat x.sn)*5))]
def I8:List (ax):=[oW x pb v b e BL nd a gW]
def I9:List (bi):=[none,none,none,none,none,none,none,none,none]
def So(d:Nat):Prop:=eQ (wpOp prog (aj (aa (al f52) [1,0])) (sem prog (al f52) (I6 x c pb v8 ya w L b e BL nd a f h gW) [.code [1,1]])) [] 104 (aj (aa (al f52) [1,0])) (J3 (aj (aa (al f52) [1,0])) (Sn pb ya) d) (I9) 0 (MG w (λg=>g=pb) (I8 x pb v b e BL nd a gW) [] w.z) (ao (oW x pb v b e BL nd a gW)) (PvG (I7 x pb) (λ_ _ _=>False)) d
def OQ:bu:=[(0,pt pb 0),(1,i6 ya),(4,pt pb 44),(5,pt pb (3+(Int.toNat x.sn)*5))]
def DS(_:Unit):List (Option Value):=[some (pt pb 44),some (pt pb 44),some (pt pb 44),some (pt pb 52),some (i6 x.ep),some (pt pb (3+(Int.toNat x.sn)*5)),some (pt pb (3+(Int.toNat x.sn)*5)),some (pt pb (3+(Int.toNat x.sn)*5+3)),some (i6 (O0 x)),some (.agg #[i6 x.ep,i6 (O0 x)]),some (pt pb 44),some (pt pb 55),some (.tuple #[])]
def DT(_:Unit)(k:Nat):Bool:=(fL 13 [])[k]?.getD true
def vP(_:Unit):List (ax):=[Af x pb v b e BL nd a gW,Af x pb v b e BL nd a gW,mW x pb v b e BL nd a gW]
abbrev vQ(x:am)(c:CM)(v8:Nat)(v:Value)(L:List ar)(b:aY)(e:Nat)(BL:Nat)(nd:Nat)(a:bB)(f:bB)(gW:Nat)(g:Nat)(_:Unit)(d:World):Prop:=match g with|0=>bq d v8 x.lb x.cb c L v∧ah d v8 3 1 b a.length e (ai bo a)∧ah d v8 3 1 (ae gW) nd BL (ai bo f)|1=>bq d v8 x.lb x.cb c L v∧ah d v8 3 1 b a.length e (ai bo a)∧ah d v8 3 1 (ae gW) nd BL (ai bo f)|2=>bq d v8 x.lb x.cb c L v∧ah d v8 3 1 b a.length e (ai bo a)∧ah d v8 3 1 (ae gW) nd BL (ai bo f)|_=>True
def qe(g:Nat)(d:Nat):Prop:=cY prog f52 [1,1,1,1,0] 104 [] (I6 x c pb v8 ya w L b e BL nd a f h gW) [y6 63] (OQ x pb ya) (V7 13 [8,12]) 2 (DS x pb) DT w (be [141,178] v8 x.lb pb x.cb w) (vP x pb v b e BL nd a gW) g (vQ x c v8 v L b e BL nd a f gW) d
def OR:bu:=[(0,pt pb 0),(1,i6 ya),(4,pt pb 44)]
def DU(d:Option Addr×Nat×Nat):List (Option Value):=[some (pt pb 0),some (pt pb 0),some (pt pb 0),some (.agg #[i6 x.N,i6 x.S]),some (pt pb 44),some (pt pb 44),some (pt pb 48),some (i6 x.cn),some (pt pb 0),some (pt pb 44),some (pt pb 44),some (pt pb 53),some (i6 x.ou),some (i6 oc),some (pt pb 0),some (yt d.1 a.length d.2.1),some (pt pb 44),some (pt pb 44),some (pt pb 44),some (pt pb 46),some (sT x.da),some (.tuple #[yt (ae d.2.2) nd nd,i6 0]),some (.tuple #[yt (ae d.2.2) nd nd,i6 0]),some (yt (ae d.2.2) nd nd),some (i6 0),some (yt (ae d.2.2) nd nd),some (i6 0)]
def DW(_:Option Addr×Nat×Nat)(k:Nat):Bool:=(fL 27 [])[k]?.getD true
def vR(_:Option Addr×Nat×Nat):List (ax):=[fS x pb v b e BL nd a gW,fS x pb v b e BL nd a gW,fS x pb v b e BL nd a gW]
abbrev vS(x:am)(c:CM)(v8:Nat)(v:Value)(L:List ar)(b:aY)(e:Nat)(BL:Nat)(nd:Nat)(a:bB)(f:bB)(h:ct)(gW:Nat)(j:Nat)(d:Option Addr×Nat×Nat)(g:World):Prop:=match j with|0=>bq g v8 x.lb x.cb c L v∧ah g v8 3 1 b a.length e (ai bo a)∧ah g v8 3 1 (ae gW) nd BL (ai bo f)|1=>bq g v8 x.lb x.cb c L v∧ah g v8 3 1 b a.length e (ai bo a)∧ah g v8 3 1 (ae gW) nd BL (ai bo f)∧ah g v8 9 1 d.1 a.length d.2.1 (ba (a.map λi:Int=>x.bl (Int.toNat i)))|2=>bq g v8 x.lb x.cb c L v∧ah g v8 3 1 b a.length e (ai bo a)∧ah g v8 3 1 (ae gW) nd BL (ai bo f)∧ah g v8 9 1 d.1 a.length d.2.1 (ba (a.map λi:Int=>x.bl (Int.toNat i)))∧ah g v8 9 1 (ae d.2.2) nd nd (ba h)|_=>True
def mX(d:World)(v:Value)(L:List ar)(b:aY)(e:Nat)(BL:Nat)(nd:Nat)(oc:Int)(a:bB)(f:bB)(h:ct)(gW:Nat)(i:Nat):Prop:=cY prog f52 [1,1,1,1,1,1,0] 104 [] (I6 x c pb v8 ya w L b e BL nd a f h gW) [y6 255] (OR pb ya) (V7 27 [15,21]) 2 (DU x pb nd oc a) DW d (λg=>(ao (mW x pb v b e BL nd a gW)) g∨(be [141,178] v8 x.lb pb x.cb d) g) (vR x pb v b e BL nd a gW) d.z (vS x c v8 v L b e BL nd a f h gW) i
def OS:bu:=[(0,pt pb 0),(1,i6 ya),(4,pt pb 44),(6,yt (ae i) nd nd)]
def DX(d:Nat×Nat×Nat):List (Option Value):=[some (pt pb 44),some (pt pb 44),some (pt pb 47),some (i6 x.sn),some (pt pb 44),some (pt pb 44),some (pt pb 55),some (.agg #[i6 x.ep,i6 (O0 x)]),some (pt pb 44),some (pt pb 44),some (pt pb 61),some (yt (ae gW) nd BL),some (yt (ae i) nd nd),some (.tuple #[pt d.1 0,i6 0]),some (.tuple #[pt d.1 0,i6 0]),some (pt d.1 0),some (i6 0),some (pt d.1 0),some (i6 0)]
def DY(_:Nat×Nat×Nat)(k:Nat):Bool:=(fL 19 [])[k]?.getD true
def vT(_:Nat×Nat×Nat):List (ax):=[fS x pb v b e BL nd a gW,fS x pb v b e BL nd a gW]
abbrev vU(x:am)(c:CM)(v8:Nat)(v:Value)(L:List ar)(b:aY)(e:Nat)(BL:Nat)(nd:Nat)(a:bB)(f:bB)(h:ct)(gW:Nat)(k:aY)(ctx:Nat)(i:Nat)(l:Nat)(d:Nat×Nat×Nat)(g:World):Prop:=match l with|0=>bq g v8 x.lb x.cb c L v∧ah g v8 3 1 b a.length e (ai bo a)∧ah g v8 3 1 (ae gW) nd BL (ai bo f)∧ah g v8 9 1 k a.length ctx (ba (a.map λj:Int=>x.bl (Int.toNat j)))∧ah g v8 9 1 (ae i) nd nd (ba h)|1=>bq g v8 x.lb x.cb c L v∧ah g v8 3 1 b a.length e (ai bo a)∧ah g v8 3 1 (ae gW) nd BL (ai bo f)∧ah g v8 9 1 k a.length ctx (ba (a.map λj:Int=>x.bl (Int.toNat j)))∧ah g v8 9 1 (ae i) nd nd (ba h)∧ah g v8 178 7 (ae d.1) 1 1 (jr x.sn (fJ f) x.ep (O0 x) (.slice (ae d.2.1) nd d.2.2) false)∧ah g v8 180 4 (ae d.2.1) nd d.2.2 (ai aL.cells (dn f h))|_=>True
def vW(d:World)(v:Value)(L:List ar)(b:aY)(e:Nat)(BL:Nat)(nd:Nat)(a:bB)(f:bB)(h:ct)(gW:Nat)(k:aY)(ctx:Nat)(i:Nat)(j:Nat):Prop:=cY prog f52 [1,1,1,1,1,1,1,0] 104 [] (I6 x c pb v8 ya w L b e BL nd a f h gW) [y6 511] (OS pb ya nd i) (V7 19 [13]) 1 (DX x pb BL nd gW i) DY d (λg=>(ao (fS x pb v b e BL nd a gW)) g∨(be [141,178] v8 x.lb pb x.cb d) g) (vT x pb v b e BL nd a gW) d.z (vU x c v8 v L b e BL nd a f h gW k ctx i) j
end
theorem rj(x:am)(c:CM)(L:List ar)(a:Nat)(v8:Nat)(e p:bB)(y:ct)(b:Nat)(h:aY)(gW k BL:Nat)(oc ya:Int)(d1:-1<=x.ou∧x.ou<x.N)(e3:jV x.N x.sn x.ou=oc)(cO:3<=x.N∧x.N<=6∧1<=x.S∧x.S<=8)(hs:0<=x.sn∧x.sn<x.S)(e6:e.length<=6)(er:∀bk∈e,0<=bk∧bk<6)(e2:0<b∧b<=6)(c2:p.length=b)(c0:y.length=b)(e5:∀a2∈y,a2.size=16)(ed:∀c∈p,0<=c∧c<6)(eg:∀(i:Nat)(c m:Int),p[i]?=some c->p[i+1]?=some m->c<m)(fa:∀cC∈dn p y,0<=cC.HZ∧cC.HZ<x.N)(fo:∀r cB cK df,ah r df 9 1 cB e.length cK (ba (e.map λak:Int=>x.bl (Int.toNat ak)))->aC 86 #[.agg #[i6 x.N,i6 x.S],i6 x.cn,i6 oc,yt cB e.length cK,sT x.da] r (λX C=>∃a7,X=.returned (.tuple #[yt (ae a7) b b,i6 0])∧ah C r.z 9 1 (ae a7) b b (ba y)∧au z8 r C))(gA:0<=(x.lv (Int.toNat x.sn)).sq∧(x.lv (Int.toNat x.sn)).sq<16777215)(e1:1<=x.ep∧x.ep<=16777215)(fb:0<=ya∧ya<=1099511627776)(e0:0<=c.last∧c.last+6<1099511627776)(en:L.length<=20)(w:World)(d0:aP w v8 a ({x with rd:=yt h e.length k,wr:=(yt (ae gW) b BL)}) c L)(e8:ah w v8 3 1 h e.length k (ai bo e))(e9:ah w v8 3 1 (ae gW) b BL (ai bo p))(a8:v8<=w.z):aC 52 #[pt a 0,i6 ya] w (λX C=>∃cU cP cR,X=Jx∧aP C v8 a ({x with lv:=Wa x,nx:=.func (.func 112) #[pt a 0] #[],lg:=false,db:=true,te:=x.ep,ts:=O0 x,rd:=yt h e.length k,wr:=yt (ae gW) b BL,ud:=pt cU 0}) (HX c ya (ef (jN x.sn x.ep (O0 x) (fJ p)) x.N x.sn (dn p y))) (L++bc ya c.last (ef (jN x.sn x.ep (O0 x) (fJ p)) x.N x.sn (dn p y)))∧ah C v8 178 7 (ae cU) 1 1 (jr x.sn (fJ p) x.ep (O0 x) (yt (ae cP) b cR) true)∧ah C v8 180 4 (ae cP) b cR (ai aL.cells (dn p y))∧au (be [141,178] v8 x.lb a x.cb w) w C):=by
 obtain⟨v,cL,dv⟩:=d0;have b3:=aw cL;refine cH (S:=(λA=>A=a)) (n:=104) func52 (ab.D1 cL) ?_;refine Aq 11 (dz 4 0) [0,1,4] [] [] [.code [1,0],.code [1,1]] ⟨[(0,pt a 0),(1,i6 ya),(4,pt a 44)],oW x a v h k BL b e gW,[],w.z⟩ ?_;have fv:∀G∈(WU [0,1,2,3,5,6,8]++[rG 4 0 47 1 a,⟨7,HA,[oE ((0:Int)<=x.sn∧x.sn<((8:Nat):Int))],[]⟩]:List jU),So x c a v8 ya w v L h k BL b e p y gW G.i:=dP v7 _ (λb1=>v7);refine dO (vs:=I7 x a) (ms:=I8 x a v h k BL b e gW) (Dt:=I9) (J:=0) (V9:=[(0,pt a 0),(1,i6 ya),(4,pt a 44),(5,pt a (3+(Int.toNat x.sn)*5))]) (Ex:=oW x a v h k BL b e gW) (λ_ _ _=>False) [0,1,4,5] v7 v7 v7 (λ_ _ _ _ o=>o.elim) (dW fv [] tI v7) v7 v7 v7 (λa3 c4=>?_);replace c4:w.z<=a3:=c4;refine Aq 9 (dz 3 0) [0,1,4,5,23] [] [] [.ops (Ac 28) [3,4],y6 29,y6 15] ⟨[(0,pt a 0),(1,i6 ya),(4,pt a 44),(5,pt a (3+(Int.toNat x.sn)*5)),(23,pt a (3+(Int.toNat x.sn)*5+3))],oW x a v h k BL b e gW,[],a3⟩ ?_;refine fy (dst:=some 24) (x:=Instr.loadAt 3 (pt a (3+(Int.toNat x.sn)*5+3))) (i6 ((x.lv (Int.toNat x.sn)).sq)) v7 v7 rfl (λr d=>?_) ?_
 ·exact ik r 3 .i64 a (3+(Int.toNat x.sn)*5+3) 98 _ _ v7 (d.at_ 0 rfl) (iP ({x with rd:=yt h e.length k,wr:=yt (ae gW) b BL,ak:=v}) (i:=Int.toNat x.sn) yq (j:=3) rfl)
 refine Aq 12 (dz 5 0) [0,1,4,5,29,31] [dF ((((x.lv (Int.toNat x.sn)).sq):Int)>=16777215)] [] [.ops (Ac 30) [3,4,5,6,7],y6 31] ⟨[(0,pt a 0),(1,i6 ya),(4,pt a 44),(5,pt a (3+(Int.toNat x.sn)*5)),(29,pt a (3+(Int.toNat x.sn)*5)),(31,pt a (3+(Int.toNat x.sn)*5+3))],oW x a v h k BL b e gW,[],a3⟩ ?_;refine fy (dst:=some 32) (x:=Instr.loadAt 3 (pt a (3+(Int.toNat x.sn)*5+3))) (i6 ((x.lv (Int.toNat x.sn)).sq)) v7 v7 rfl (λr d=>?_) ?_
 ·exact ik r 3 .i64 a (3+(Int.toNat x.sn)*5+3) 98 _ _ v7 (d.at_ 0 rfl) (iP ({x with rd:=yt h e.length k,wr:=yt (ae gW) b BL,ak:=v}) (i:=Int.toNat x.sn) yq (j:=3) rfl)
 refine Aq 6 (dz 3 2) [0,1,4,5,33,35] [JL (((x.lv (Int.toNat x.sn)).sq)+1)] [] [.ops (Ac 30) [7],y6 31] ⟨[(0,pt a 0),(1,i6 ya),(4,pt a 44),(5,pt a (3+(Int.toNat x.sn)*5)),(33,i6 (((x.lv (Int.toNat x.sn)).sq)+1)),(35,pt a (3+(Int.toNat x.sn)*5+3))],oW x a v h k BL b e gW,[],a3⟩ ?_;refine xR (x:=Instr.storeAt 3 (pt a (3+(Int.toNat x.sn)*5+3)) (i6 (((x.lv (Int.toNat x.sn)).sq)+1))) (Af x a v h k BL b e gW) v7 v7 rfl (λr d=>?_) (λaV c5=>?_)
 ·obtain⟨C,bl,b2,a0,c3⟩:=cG (P:=prog) (t:=3) (v:=i6 (((x.lv (Int.toNat x.sn)).sq)+1)) (cs':=am.cells {x with lv:=Wa x,rd:=yt h e.length k,wr:=yt (ae gW) b BL,ak:=v}) v7 (d.at_ 0 rfl) rfl (by show(3+(Int.toNat x.sn)*5+3)+1<=73;omega) (aU rfl) (x8 ({x with rd:=yt h e.length k,wr:=yt (ae gW) b BL,ak:=v}) (i:=Int.toNat x.sn) yq (O0 x));exact⟨C,bl,d.PA 0 rfl rfl a0 b2⟩
 replace c5:a3<=aV:=c5;refine Aq 5 [] [0,1,4,5] [] [] [y6 62,y6 63] ⟨[(0,pt a 0),(1,i6 ya),(4,pt a 44),(5,pt a (3+(Int.toNat x.sn)*5))],Af x a v h k BL b e gW,[],aV⟩ ?_;have f1:eh w (bL [141,178] v8 x a w) (vP x a v h k BL b e gW) (vQ x c v8 v L h k BL b e p gW):=by
  intro M m r C R q d g u
  match M,q,g with
  |0,q,g=>
   obtain rfl:=ap q;exact⟨g.1.kU u d,g.2.1.kU u d,g.2.2.kU u d⟩
  |1,q,g=>
   obtain rfl:=ap q;exact⟨g.1.kU u d,g.2.1.kU u d,g.2.2.kU u d⟩
  |2,q,g=>
   obtain rfl:=ap q;exact⟨g.1.kU u d,g.2.1.kU u d,g.2.2.kU u d⟩
  |M+3,q,g=>exact trivial
 have gb:qe x c a v8 ya w v L h k BL b e p y gW aV 8:=Xa (s:=0) (x:=λm=>Instr.loadAt 3 (pt a (3+(Int.toNat x.sn)*5+3))) (λ(m:Unit)(_:Unit)=>m) (λm=>i6 (O0 x)) (λm r R q d g bg=>by
  obtain rfl:=ap q;exact⟨(),r,ik r 3 .i64 a (3+(Int.toNat x.sn)*5+3) 98 _ _ v7 (d.at_ 0 rfl) (iP ({x with lv:=Wa x,rd:=yt h e.length k,wr:=yt (ae gW) b BL,ak:=v}) (i:=Int.toNat x.sn) yq (j:=3) (by show(Wa x (Int.toNat x.sn)).cells[3]?=_;rw[Wa,kR];rfl)),rfl,g,d,bT _⟩)
 have gc:qe x c a v8 ya w v L h k BL b e p y gW aV 12:=V8 (s:=1) (x:=λm=>Instr.storeAt 57 (pt a 55) (.agg #[i6 x.ep,i6 (O0 x)])) (λ(m:Unit)(_:Unit)=>m) (λm r R q d g bg=>by
  obtain rfl:=ap q;obtain⟨C,bl,b2,a0,c3⟩:=cG (P:=prog) (t:=57) (v:=.agg #[i6 x.ep,i6 (O0 x)]) v7 (d.at_ 0 rfl) rfl (by show 55+2<=73;omega) (aU rfl) rfl;exact⟨(),C,bl,rfl,⟨(g.1.y4 (es:=[98]) a0 (λA F=>by subst F;exact⟨98,z1,aw (d.at_ 0 rfl)⟩) rfl rfl rfl),(g.2.1.y4 (es:=[98]) a0 (λA F=>by subst F;exact⟨98,z1,aw (d.at_ 0 rfl)⟩) rfl),(g.2.2.y4 (es:=[98]) a0 (λA F=>by subst F;exact⟨98,z1,aw (d.at_ 0 rfl)⟩) rfl)⟩,(d.PA 0 rfl rfl a0 b2).2,bC c3.symm⟩)
 have f0:∀G∈(f5 2 [0,1,2,3,5,6,7,9,10,11]++[rY 4 2 0 52 1 a]:List (fG (Unit))),qe x c a v8 ya w v L h k BL b e p y gW aV G.i:=bp _ f1 (λm=>v7) v7 (λm b1=>v7);have fz:∀T,T<13->qe x c a v8 ya w v L h k BL b e p y gW aV T:=f6 (l:=[8,12]) v7 f0 ⟨gb,gc,trivial⟩;refine bD (Δ:=Unit) (bL [141,178] v8 x a w) (DS x a) DT (vP x a v h k BL b e gW) (vQ x c v8 v L h k BL b e p gW) [0,1,4] (λm=>[(0,pt a 0),(1,i6 ya),(4,pt a 44)]) (λm=>mW x a v h k BL b e gW) () (λ_ o=>.inl o) v7 v7 v7 (λr d=>⟨(dv.y4 (es:=[98]) d.x2.drew (λA F=>by subst F;exact⟨98,z1,b3⟩) rfl rfl rfl),(e8.y4 (es:=[98]) d.x2.drew (λA F=>by subst F;exact⟨98,z1,b3⟩) rfl),(e9.y4 (es:=[98]) d.x2.drew (λA F=>by subst F;exact⟨98,z1,b3⟩) rfl)⟩) v7 fz (λm=>v7) (λm=>v7) (λm D c7 eN gB Q=>?_);obtain⟨b4,b8,b9⟩:=eN;replace b4:bq D v8 x.lb x.cb c L v:=b4;replace b8:ah D v8 3 1 h e.length k (ai bo e):=b8;replace b9:ah D v8 3 1 (ae gW) b BL (ai bo p):=b9;replace Q:ab w (bL [141,178] v8 x a w) (mW x a v h k BL b e gW) [] D.z D:=Q;change aF _ _ _ _ D (ao (mW x a v h k BL b e gW)) _ [y6 63] ⟨[(0,pt a 0),(1,i6 ya),(4,pt a 44)],mW x a v h k BL b e gW,[],D.z⟩;refine Aq 11 (dz 4 325091328) [0,1,4] [] [(a,54,1)] [y6 254,y6 255] ⟨[(0,pt a 0),(1,i6 ya),(4,pt a 44)],fS x a v h k BL b e gW,[],D.z⟩ ?_;have db:eh D (λA=>(ao (mW x a v h k BL b e gW)) A∨(bL [141,178] v8 x a D) A) (vR x a v h k BL b e gW) (vS x c v8 v L h k BL b e p y gW):=by
  intro M m r C R q d g u
  match M,q,g with
  |0,q,g=>
   obtain rfl:=ap q;exact⟨g.1.kU u d,g.2.1.kU u d,g.2.2.kU u d⟩
  |1,q,g=>
   obtain rfl:=ap q;exact⟨g.1.kU u d,g.2.1.kU u d,g.2.2.1.kU u d,g.2.2.2.kU u d⟩
  |2,q,g=>
   obtain rfl:=ap q;exact⟨g.1.kU u d,g.2.1.kU u d,g.2.2.1.kU u d,g.2.2.2.1.kU u d,g.2.2.2.2.kU u d⟩
  |M+3,q,g=>exact trivial
 have gd:mX x c a v8 ya w D v L h k BL b oc e p y gW 13:=eO (B:=0) (f:=46) (args:=λm=>[pt a 0,i6 x.ou]) (ob:=λm=>[]) (λm=>i6 oc) v7 (.inr ⟨15,by kernel_rfl,aS (i:=1) v7⟩) (λm=>v7) (λm=>v7) (λm=>v7) (λm=>trivial) (λM m r R gr q d g=>by
   obtain rfl:M=0:=by omega
   obtain rfl:(fS x a v h k BL b e gW)=R:=ap q;rw[<-e3];exact io ({x with lv:=Wa x,db:=true,te:=x.ep,ts:=O0 x,rd:=yt h e.length k,wr:=yt (ae gW) b BL,ak:=v}) a x.ou cO hs d1 r (d.at_ 0 rfl)) db
 have gf:mX x c a v8 ya w D v L h k BL b oc e p y gW 15:=WO (s:=0) (f:=87) (args:=λm=>[pt a 0]) (ob:=λm=>[]) (λ(m:Option Addr×Nat×Nat)(G:aO)=>(G.1,G.2,m.2.2)) (λm=>yt m.1 e.length m.2.1) (λm=>trivial) (λm r R q d g bg=>by
  obtain rfl:=ap q;have W:v8<=r.z:=az (az a8 Q.x2.size) d.x2.size;have a6:=g.2.1;refine(rl ({x with lv:=Wa x,db:=true,te:=x.ep,ts:=O0 x,rd:=yt h e.length k,wr:=yt (ae gW) b BL,ak:=v}) a e h k e6 er r (d.at_ 0 rfl) (λi bk u=>by obtain⟨a7,ds,_,dt,du⟩:=a6.cell (j:=i*1+0) (ff (f:=bo) (λ_=>rfl) u (by decide));exact⟨a7,ds,dt,by rw[bG];exact du⟩)).mono λX C aq=>?_;obtain⟨dd,M,an,fs,z⟩:=aq;exact⟨(dd,M),an,rfl,⟨(g.1.y4 (es:=[]) z (λ_ o=>o.elim) rfl rfl rfl),(g.2.1.x2 z (λ_ _ o=>o)),(g.2.2.x2 z (λ_ _ o=>o)),fs.below W⟩,d.A3 (λ_ o=>o) z (λ_ o=>o.elim) (λ_ _ o=>o),z.size⟩)
 have gl:mX x c a v8 ya w D v L h k BL b oc e p y gW 21:=WO (s:=1) (f:=86) (args:=λm=>[.agg #[i6 x.N,i6 x.S],i6 x.cn,i6 oc,yt m.1 e.length m.2.1,sT x.da]) (ob:=λm=>[]) (λ(m:Option Addr×Nat×Nat)(G:Nat)=>(m.1,m.2.1,G)) (λm=>.tuple #[yt (ae m.2.2) b b,i6 0]) (λm=>trivial) (λm r R q d g bg=>by
  obtain rfl:=ap q;have W:v8<=r.z:=az (az a8 Q.x2.size) d.x2.size;have bd:=g.2.2.2;refine(fo r _ _ _ bd).mono λX C aq=>?_;obtain⟨eb,an,fr,z⟩:=aq;exact⟨eb,an,rfl,⟨(g.1.y4 (es:=[]) z (λ_ o=>o.elim) rfl rfl rfl),(g.2.1.x2 z (λ_ _ o=>o)),(g.2.2.1.x2 z (λ_ _ o=>o)),(g.2.2.2.x2 z (λ_ _ o=>o)),fr.below W⟩,d.A3 (λ_ o=>o) z (λ_ o=>o.elim) (λ_ _ o=>o),z.size⟩)
 have f3:∀G∈(f5 2 [0,1,2,4,5,6,8,9,10,11,14,16,17,18,19,22,23,24,25,26]++[rY 3 2 0 0 2 a,rY 7 2 0 48 1 a,rY 12 2 0 53 1 a,rY 20 2 0 46 1 a]:List (fG (Option Addr×Nat×Nat))),mX x c a v8 ya w D v L h k BL b oc e p y gW G.i:=bp _ db (λm=>v7) v7 (λm b1=>v7);have f2:∀T,T<27->mX x c a v8 ya w D v L h k BL b oc e p y gW T:=f6 (l:=[13,15,21]) v7 f3 ⟨gd,gf,gl,trivial⟩;refine bD (Δ:=Option Addr×Nat×Nat) (λA=>(ao (mW x a v h k BL b e gW)) A∨(bL [141,178] v8 x a D) A) (DU x a b oc e) DW (vR x a v h k BL b e gW) (vS x c v8 v L h k BL b e p y gW) [0,1,4,6] (λm=>[(0,pt a 0),(1,i6 ya),(4,pt a 44),(6,yt (ae m.2.2) b b)]) (λm=>fS x a v h k BL b e gW) (none,0,0) (λ_ o=>.inl o) v7 v7 v7 (λr d=>⟨b4.y4 d.x2.drew (ag Q) rfl rfl rfl,b8.y4 d.x2.drew (ag Q) rfl,b9.y4 d.x2.drew (ag Q) rfl⟩) v7 f2 (λm=>v7) (λm=>v7) (λm E c7 eP gC I=>?_);replace I:=Q.Wb I (λA F=>F.elim (λ⟨a2,q,b0,bs⟩=>bs▸Q.own a2 q b0) (λo=>bv Q.x2 rfl A o));obtain⟨U,V,H⟩:=m;obtain⟨b5,cb,cl,cf,ca⟩:=eP;replace b5:bq E v8 x.lb x.cb c L v:=b5;replace cb:ah E v8 3 1 h e.length k (ai bo e):=cb;replace cl:ah E v8 3 1 (ae gW) b BL (ai bo p):=cl;replace cf:ah E v8 9 1 U e.length V (ba (e.map λak:Int=>x.bl (Int.toNat ak))):=cf;replace ca:ah E v8 9 1 (ae H) b b (ba y):=ca;replace I:ab w (bL [141,178] v8 x a w) (fS x a v h k BL b e gW) [] E.z E:=I;change aF _ _ _ _ E (ao (fS x a v h k BL b e gW)) _ [y6 255] ⟨[(0,pt a 0),(1,i6 ya),(4,pt a 44),(6,yt (ae H) b b)],fS x a v h k BL b e gW,[],E.z⟩;refine Aq 4 [] [0,1,4,6] [] [] [y6 510,y6 511] ⟨[(0,pt a 0),(1,i6 ya),(4,pt a 44),(6,yt (ae H) b b)],fS x a v h k BL b e gW,[],E.z⟩ ?_;have gs:O0 x=(x.lv (Int.toNat x.sn)).sq+1:=rfl;have c1:=oV c2 c0;have ga:eh E (λA=>(ao (fS x a v h k BL b e gW)) A∨(bL [141,178] v8 x a E) A) (vT x a v h k BL b e gW) (vU x c v8 v L h k BL b e p y gW U V H):=by
  intro M m r C R q d g u
  match M,q,g with
  |0,q,g=>
   obtain rfl:=ap q;exact⟨g.1.kU u d,g.2.1.kU u d,g.2.2.1.kU u d,g.2.2.2.1.kU u d,g.2.2.2.2.kU u d⟩
  |1,q,g=>
   obtain rfl:=ap q;exact⟨g.1.kU u d,g.2.1.kU u d,g.2.2.1.kU u d,g.2.2.2.1.kU u d,g.2.2.2.2.1.kU u d,g.2.2.2.2.2.1.kU u d,g.2.2.2.2.2.2.kU u d⟩
  |M+2,q,g=>exact trivial
 have gn:vW x c a v8 ya w E v L h k BL b e p y gW U V H 13:=WO (s:=0) (f:=88) (args:=λm=>[i6 x.sn,.agg #[i6 x.ep,i6 (O0 x)],yt (ae gW) b BL,yt (ae H) b b]) (ob:=λm=>[]) (λ(m:Nat×Nat×Nat)(G:Nat×Nat×Nat)=>G) (λm=>.tuple #[pt m.1 0,i6 0]) (λm=>trivial) (λm r R q d g bg=>by
  obtain rfl:=ap q;have W:v8<=r.z:=az (az a8 I.x2.size) d.x2.size;have a1:=g.2.2.1;have bb:=g.2.2.2.2;refine(Sl x.sn x.ep (O0 x) b p y gW H BL b r.z e2 c2 c0 e5 ed eg yq e1 yq r (bT _) (a1.own gW ⟨_,rfl,rfl⟩).2 (λj v bt=>by rw[bG];exact it a1 (by rw[x7];exact bt)) (bb.own H ⟨_,rfl,rfl⟩).2 (λj v bt=>by rw[bG];exact it bb bt)).mono λX C aq=>?_;obtain⟨e4,ea,d4,an,cA,cs,z⟩:=aq;exact⟨(e4,ea,d4),an,rfl,⟨(g.1.y4 (es:=[]) z (λ_ o=>o.elim) rfl rfl rfl),(g.2.1.x2 z (λ_ _ o=>o)),(g.2.2.1.x2 z (λ_ _ o=>o)),(g.2.2.2.1.x2 z (λ_ _ o=>o)),(g.2.2.2.2.x2 z (λ_ _ o=>o)),cA.below W,cs.below W⟩,d.A3 (λ_ o=>o) z (λ_ o=>o.elim) (λ_ _ o=>o),z.size⟩)
 have f8:∀G∈(f5 1 [0,1,2,4,5,6,8,9,10,12,14,15,16,17,18]++[rY 3 1 0 47 1 a,rY 7 1 0 55 2 a,rY 11 1 0 61 1 a]:List (fG (Nat×Nat×Nat))),vW x c a v8 ya w E v L h k BL b e p y gW U V H G.i:=bp _ ga (λm=>v7) v7 (λm b1=>v7);have f7:∀T,T<19->vW x c a v8 ya w E v L h k BL b e p y gW U V H T:=f6 (l:=[13]) v7 f8 ⟨gn,trivial⟩;refine bD (Δ:=Nat×Nat×Nat) (λA=>(ao (fS x a v h k BL b e gW)) A∨(bL [141,178] v8 x a E) A) (DX x a BL b gW H) DY (vT x a v h k BL b e gW) (vU x c v8 v L h k BL b e p y gW U V H) [0,1,4,8,9] (λm=>[(0,pt a 0),(1,i6 ya),(4,pt a 44),(8,pt m.1 0),(9,i6 0)]) (λm=>fS x a v h k BL b e gW) (0,0,0) (λ_ o=>.inl o) v7 v7 v7 (λr d=>⟨b5.y4 d.x2.drew (ag I) rfl rfl rfl,cb.y4 d.x2.drew (ag I) rfl,cl.y4 d.x2.drew (ag I) rfl,cf.y4 d.x2.drew (ag I) rfl,ca.y4 d.x2.drew (ag I) rfl⟩) v7 f7 (λm=>v7) (λm=>v7) (λm K c7 eR gI N=>?_);replace N:=I.Wb N (λA F=>F.elim (λ⟨a2,q,b0,bs⟩=>bs▸I.own a2 q b0) (λo=>bv I.x2 rfl A o));obtain⟨O,ad,ac⟩:=m;obtain⟨b6,co,cr,cp,cm,cq,cn⟩:=eR;replace b6:bq K v8 x.lb x.cb c L v:=b6;replace co:ah K v8 3 1 h e.length k (ai bo e):=co;replace cr:ah K v8 3 1 (ae gW) b BL (ai bo p):=cr;replace cp:ah K v8 9 1 U e.length V (ba (e.map λak:Int=>x.bl (Int.toNat ak))):=cp;replace cm:ah K v8 9 1 (ae H) b b (ba y):=cm;replace cq:ah K v8 178 7 (ae O) 1 1 (jr x.sn (fJ p) x.ep (O0 x) (yt (ae ad) b ac) false):=cq;replace cn:ah K v8 180 4 (ae ad) b ac (ai aL.cells (dn p y)):=cn;replace N:ab w (bL [141,178] v8 x a w) (fS x a v h k BL b e gW) [] K.z K:=N;change aF _ _ _ _ K (ao (fS x a v h k BL b e gW)) _ [y6 511] ⟨[(0,pt a 0),(1,i6 ya),(4,pt a 44),(8,pt O 0),(9,i6 0)],fS x a v h k BL b e gW,[],K.z⟩;refine z6 22 (dz 10 0x144080000000) [101,102] [fF] [(a,68,1)] [.ops (Ac 2047) [2]] [bh a {x with lv:=Wa x,db:=true,te:=x.ep,ts:=O0 x,rd:=yt h e.length k,wr:=yt (ae gW) b BL,ud:=pt O 0,ak:=v}] [] K.z ?_;refine Ip (w:=w) (S':=bL [141,178] v8 x a w) (Y:=Value) (λaR=>.tuple #[]) (λaR=>OP x a aR h k BL b e gW O) (λaR Z=>bq Z v8 x.lb x.cb (HX c ya (ef (jN x.sn x.ep (O0 x) (fJ p)) x.N x.sn (dn p y))) (L++bc ya c.last (ef (jN x.sn x.ep (O0 x) (fJ p)) x.N x.sn (dn p y))) aR∧ah Z v8 3 1 h e.length k (ai bo e)∧ah Z v8 3 1 (ae gW) b BL (ai bo p)∧ah Z v8 9 1 U e.length V (ba (e.map λak:Int=>x.bl (Int.toNat ak)))∧ah Z v8 9 1 (ae H) b b (ba y)∧ah Z v8 178 7 (ae O) 1 1 (jr x.sn (fJ p) x.ep (O0 x) (yt (ae ad) b ac) true)∧ah Z v8 180 4 (ae ad) b ac (ai aL.cells (dn p y))) (v7:_=some (89,[pt a 0,i6 ya],some 103,[])) tI (λr d=>?_) (λaR de eS a9=>?_)
 ·have b7:=(ab.A0 N d);have W:v8<=r.z:=az a8 b7.x2.size;have eK:=(b6.kT d N);have a6:=(co.kT d N);have a1:=(cr.kT d N);have bd:=(cp.kT d N);have bb:=(cm.kT d N);have da:=(cq.kT d N);have c9:=(cn.kT d N);have a5:aP r v8 a ({x with lv:=Wa x,db:=true,te:=x.ep,ts:=O0 x,rd:=yt h e.length k,wr:=yt (ae gW) b BL,ud:=pt O 0,ak:=v}) c L:=⟨_,d.at_ 0 rfl,eK⟩;rw[<-c1]at da c9;have c6:=kW ({x with lv:=Wa x,db:=true,te:=x.ep,ts:=O0 x,rd:=yt h e.length k,wr:=yt (ae gW) b BL,ud:=pt O 0,ak:=v}) c L a v8 (dn p y) (jN x.sn x.ep (O0 x) (fJ p)) (λ_=>rfl) O ad ac (fJ p) x.ep (O0 x) false ya cO hs fa yq fb e0 en (λd3 eL ep eW=>OO x.sn (fJ p) x.ep (O0 x) (dn p y) ⟨yq,yq⟩ ad ac O v8 false (vO p y) d3 eL ep eW) r a5 da c9 W;rw[c1]at c6;refine(c6).mono λX C aq=>?_;obtain⟨an,⟨d2,ec,e7⟩,cA,cs,z⟩:=aq;have a4:=a5.T' (es:=[141,178]);exact⟨d2,an,⟨e7,a6.y4 z a4 rfl,a1.y4 z a4 rfl,bd.y4 z a4 rfl,bb.y4 z a4 rfl,cA,cs⟩,b7.HS z (bv b7.x2 rfl) ec (bQ d a4 rfl)⟩
 obtain⟨eq,gL,gN,gM,gK,fn,fl⟩:=eS;refine Aq 4 [] [] [] [] [] ⟨[],OP x a aR h k BL b e gW O,[],de.z⟩ ?_;refine bN [] (v7:_=some ([],aX [])) ?_;intro r d;exact⟨O,ad,ac,rfl,⟨_,d.at_ 0 rfl,eq.kT d a9⟩,fn.kT d a9,fl.kT d a9,(ab.A0 a9 d).x2⟩
variable {k:Be}{g:S2}{N:HB->Prop}
def Be.W(k:Be)(o:Int):bB:=dq (k.n:Int) (k.cn:Int) (k.oc o)
def Be.R(k:Be)(o:Int):bB:=cN (k.n:Int) (k.cn:Int) (k.oc o)
def Be.par(k:Be)(o:Int):ByteArray:=if k.oc o=(k.n:Int)-1 then k.da else if k.oc o=(k.cn:Int)then bX (eF (aK k.da) ((eu (k.n-1) (k.cn:Int)).map λa=>k.zq (k.nd a)))else bX (fQ (fQ (aK (k.zq (k.nd ((k.n:Int)-1)))) (aK (k.zq (k.nd (k.cn:Int))))) (aK k.da))
def Be.nw(k:Be)(o c:Int):ByteArray:=if c=(k.cn:Int)then k.da else k.par o
def Be.W7(k:Be)(o:Int):Int:=fJ (k.W o)
def Be.pt(k:Be)(o:Int):List aL:=dn (k.W o) ((k.W o).map (k.nw o))
def Be.HZ(k:Be)(m:Int):Int:=(m+(k.n:Int)-(k.sn:Int)%(k.n:Int))%(k.n:Int)
theorem On(_:cZ k){c:Int}(a:0<=c∧c<(k.n:Int)):k.HZ (k.nd c)=c:=vx a
def XO(k:Be)(o:Int)(m:Nat):Prop:=∃a∈k.W o,k.nd a=(m:Int)
def Be.opd(k:Be)(e o sq:Int)(m:Nat):aZ:={ k.fr e m with op:=true,ie:=e,is:=sq,mask:=k.W7 o,A9:=k.nw o (k.HZ (m:Int))}
def Be.X5(k:Be)(e o sq:Int)(m:Nat):aZ:=⟨true,e,e,sq,k.nw o (k.HZ (m:Int)),false,0,0,0,⟨#[]⟩⟩
def Po(k:Be)(e o:Int)(f:Nat->aZ)(m:Nat)(r:aZ):Prop:=(XO k o m∧r=f m)∨(¬XO k o m∧Rb k e o m r)
theorem x4{f:Int->ByteArray}:∀a:bB,dn a (a.map f)=a.map λb=>⟨b,f b,false,false⟩
 |[]=>rfl
 |_::a=>congrArg (_::·) (x4 a)
theorem jM(o:Int):k.pt o=(k.W o).map λa=>⟨a,k.nw o a,false,false⟩:=x4 _
theorem F0(c:cZ k){o:Int}(e:-1<=o∧o<(k.n:Int)):∀a∈k.W o,(0<=a∧a<(k.n:Int))∧k.nd a≠o:=λa b=>by
 have f:=c.hn
 have g:=c.Wl
 have h:=oa c o
 have d:(0<=a∧a<(k.n:Int))∧a≠k.oc o:=by
  unfold Be.W dq at b;split at b
  ·obtain rfl:=aG.1 b;omega
  ·split at b
   ·obtain rfl:=aG.1 b;omega
   ·simp at b;omega
 exact⟨d.1,jg c e d.2 d.1⟩
theorem lJ(a:cZ k)(o:Int):(k.W o).Pairwise (·<·)∧0<(k.W o).length∧(k.W o).length<=6:=by
 have b:=a.hn;have c:=a.Wl;unfold Be.W dq;split
 ·simp
 ·split
  ·simp
  ·simp;omega
theorem IT:∀a:Nat,a<6->1<=fJ [(a:Int)]∧fJ [(a:Int)]<=63:=by decide
theorem R3:∀a,a<7->3<=a->∀b:Nat,b<a-1->1<=fJ [(b:Int),((a-1:Nat):Int)]∧fJ [(b:Int),((a-1:Nat):Int)]<=63:=by decide
theorem F1(a:cZ k)(o:Int):1<=k.W7 o∧k.W7 o<=63:=by
 have c:=a.hn;have d:=a.Wl;have b:(k.n:Int)-1=((k.n-1:Nat):Int):=by omega
 unfold Be.W7 Be.W dq;rw[b];split
 ·exact IT k.cn yq
 ·split
  ·exact IT (k.n-1) yq
  ·exact R3 k.n yq c.1 k.cn d
def WT(k:Be)(c:Bool)(zL:List ar)(p:aL):aL:=if c=true then{ p with zL:=true,J8:=!fe zL (k.nd p.HZ)}else{ p with zL:=!fe zL (k.nd p.HZ)}
def Be.aq(k:Be)(c:Bool)(e o sq:Int)(p:aL):ck:=if c=true then so (k.sn:Int) e sq p else jN (k.sn:Int) e sq (k.W7 o) p
def R4(k:Be)(c:Bool)(e o sq:Int)(x:am)(zL:List ar)(W:World):Prop:=∃d b a,x.ud=pt d 0∧ah W k.B0 178 7 (ae d) 1 1 (jr (k.sn:Int) (k.W7 o) e sq (yt (ae b) (k.pt o).length a) true)∧ah W k.B0 180 4 (ae b) (k.pt o).length a (ai aL.cells ((k.pt o).map (WT k c zL)))
def J5(k:Be)(c:Bool)(t ta zv e o sq:Int):HB:=⟨t,ta,zv,e,o,112,ef (k.aq c e o sq) (k.n:Int) (k.sn:Int) (k.pt o),false,λa d b=>FY k e o sq a∧R4 k c e o sq a d b,if c=true then Po k e o (k.opd e o sq)else Rb k e o,if c=true then Po k e o (k.X5 e o sq)else Po k e o (k.opd e o sq),Lp k e o,Lp k e o,λ_=>⟨1,e,0,fI⟩⟩
theorem p5{c:Bool}{t ta zv e o sq:Int}{b:ar}(h:b∈(J5 k c t ta zv e o sq).A1):∃a∈k.W o,b.to=k.nd a∧b.q=k.aq c e o sq ⟨a,k.nw o a,false,false⟩:=by
 have g:=(HB.mem h).2.2.2.2;obtain⟨j,d,f⟩:=aT.1 g;rw[jM]at d;obtain⟨a,i,rfl⟩:=aT.1 d;exact⟨a,i,(congrArg Prod.fst f).symm,(congrArg Prod.snd f).symm⟩
theorem nR{c:Bool}{t ta zv e o sq:Int}{m:Nat}:dM (J5 k c t ta zv e o sq).A1 (m:Int)↔XO k o m:=by
 constructor
 ·rintro⟨i,d,f⟩;obtain⟨b,a,g,_⟩:=p5 d;exact⟨b,a,g.symm.trans f⟩
 ·rintro⟨b,d,f⟩;have a:((m:Int),k.aq c e o sq ⟨b,k.nw o b,false,false⟩)∈(J5 k c t ta zv e o sq).P:=by
   show _∈ef (k.aq c e o sq) (k.n:Int) (k.sn:Int) (k.pt o)
   rw[jM];refine aT.2 ⟨_,aT.2 ⟨b,d,rfl⟩,?_⟩;rw[<-f];rfl
  unfold HB.A1;generalize (J5 k c t ta zv e o sq).P=j at a;generalize (J5 k c t ta zv e o sq).zv=h
  induction j generalizing h with
  |nil=>cases a
  |cons l s p=>
   obtain⟨q,r⟩:=l;rw[bc];rcases bj.1 a with a|a
   ·exact⟨_,A4,(congrArg Prod.fst a).symm⟩
   ·obtain⟨i,g,n⟩:=p a (h+1);exact⟨i,cz _ g,n⟩
theorem Oo{c:Bool}{t ta zv e o sq:Int}{m:Nat}{r:aZ}(h:(J5 k c t ta zv e o sq).pre m r)(b:¬XO k o m->Rb k e o m r):(J5 k c t ta zv e o sq).F (J5 k c t ta zv e o sq).A1 m r:=by
 by_cases a:XO k o m
 ·exact .inl ⟨nR.2 a,h⟩
 ·refine .inr ⟨λd=>a (nR.1 d),?_⟩
  cases c with
  |true=>exact .inr ⟨a,b a⟩
  |false=>exact .inr ⟨a,b a⟩
theorem nS(b:k.da.size=16){o:Int}(a:(k.par o).size=16)(c:Int):(k.nw o c).size=16:=by
 unfold Be.nw;split
 ·exact b
 ·exact a
theorem R5{c:Bool}(h:cZ k){o:Int}(m:-1<=o∧o<(k.n:Int)){a:Int}(v:a∈k.W o){f:ar}(p:f.to=k.nd a){d R:List ar}(x:∀i∈d++R,i.to≠f.to):((k.pt o).map (WT k c (d++f::R))).map (if c=true then od a else og a)=(k.pt o).map (WT k c (d++R)):=by
 rw[List.map_map];refine ft λy n=>?_;rw[jM]at n;obtain⟨b,w,rfl⟩:=aT.1 n;have l:∀j:List ar,fe j (k.nd b)=j.any (λo=>o.to==k.nd b):=λ_=>rfl;have r:fe (d++f::R) (k.nd b)=(decide (b=a)||fe (d++R) (k.nd b)):=by
  have g:(f.to==k.nd b)=decide (b=a):=by
   rw[p];by_cases e:b=a
   ·subst e;simp
   ·have:¬k.nd a=k.nd b:=λq=>e (lL h (F0 h m b w).1 (F0 h m a v).1 q.symm);simp[e,this]
  rw[l,l,List.any_append,List.any_cons,List.any_append,g];cases decide (b=a)<;>cases d.any (λo=>o.to==k.nd b)<;>simp
 by_cases e:b=a
 ·subst e;have g:fe (d++R) (k.nd b)=false:=by
   cases s:fe (d++R) (k.nd b)with
   |false=>rfl
   |true=>
    obtain⟨i,t,u⟩:=go.1 s;exact absurd (u.trans p.symm) (x i t)
  cases c<;>simp[WT,og,od,g]
 ·cases c<;>simp[WT,og,od,e,r]
variable {k:Be}{g:S2}{N:HB->Prop}
theorem R4.Bw{c:Bool}{e o sq:Int}{x:am}{zL:List ar}:n3 k.B0 (R4 k c e o sq x zL):=λ_ _ _ ⟨j,f,d,g,h,i⟩ a b=>⟨j,f,d,g,im h a b rfl,im i a b rfl⟩
theorem zD{c:Bool}{t ta zv e o sq:Int}:∀b g,n3 k.B0 ((J5 k c t ta zv e o sq).T b g):=λ_ _ _ _ _ a d f=>⟨a.1,R4.Bw _ _ _ a.2 d f⟩
theorem mS(o:Int):(k.pt o).length=(k.W o).length:=by rw[jM,ey]
theorem FM(q:cZ k){e o:Int}(hw:Wk k e o){f:Nat->aZ}(p:k.Qn=true->∀a,a<k.n->(a:Int)≠k.zl->Ya k.E1 (f a)∧(f a).Bf=e):ra k (Po k e o f):=λg a m i j l=>by
 have r:=hw.hs g
 rcases l with⟨h,rfl⟩|⟨h,n⟩
 ·obtain⟨b,c⟩:=p g a i j
  exact⟨b,λd=>absurd (c▸d) yq⟩
 ·obtain⟨b,c⟩:=mL q ⟨hw.he.1,by have:=hw.he;omega⟩ g a m i j n
  exact⟨b,λd=>.inr ⟨h,c d⟩⟩
def DM(k:Be)(e o sq:Int):Prop:=∀a,a<k.n->(a:Int)≠o->Xi (k.R0 a).de (k.R0 a).ds e sq=true∧¬((k.R0 a).de=e∧(k.R0 a).ds=sq)
theorem LG(b:cZ k){e o sq:Int}(hw:Wk k e o)(x:k.da.size=16)(t:(k.par o).size=16)(z:1<=sq∧sq<=16777215)(v:DM k e o sq){m:Nat}(hm:m<k.n)(l:(m:Int)≠o){a:Int}(s:0<=a∧a<(k.n:Int))(y:k.nd a=(m:Int)){h:ar}(u:h.q=k.aq false e o sq ⟨a,k.nw o a,false,false⟩):n7 h (k.fr e m) (k.opd e o sq m) ⟨1,e,0,fI⟩:=by
 obtain⟨A,d,f,c,g,B,p,q,r⟩:=b.live m hm (hw.live l).1;obtain⟨i,j⟩:=v m hm l;rw[g]at i j;have D:=b.WH;have C:=hw.he;have n:k.fr e m=⟨true,e,d,f,c,false,0,0,0,⟨#[]⟩⟩:=by unfold Be.fr;rw[g]
 intro w;unfold Be.opd;rw[u,n,<-y,On b s];exact xj e d f k.sn e sq (k.W7 o) c (k.nw o a) yq p q r (Yl b) yq z (F1 b o) (nS x t a) rfl i j w
theorem LH(b:cZ k){e o sq:Int}(hw:Wk k e o)(s:k.da.size=16)(p:(k.par o).size=16)(u:1<=sq∧sq<=16777215){m:Nat}(hm:m<k.n)(t:(m:Int)≠o){a:Int}{g:ar}(q:g.q=k.aq true e o sq ⟨a,k.nw o a,false,false⟩):n7 g (k.opd e o sq m) (k.X5 e o sq m) ⟨1,e,0,fI⟩:=by
 obtain⟨v,d,f,c,i,w,j,l,n⟩:=b.live m hm (hw.live t).1;have y:=b.WH;have x:=hw.he;have h:k.opd e o sq m=⟨true,e,d,f,c,true,e,sq,k.W7 o,k.nw o (k.HZ (m:Int))⟩:=by unfold Be.opd Be.fr;rw[i]
 intro r;rw[q,h];exact zE e d f e sq (k.W7 o) k.sn e sq c (k.nw o (k.HZ (m:Int))) yq j l n yq yq (F1 b o) (nS s p _) (Yl b) yq u rfl rfl rfl r
theorem R6(a:cZ k){e o sq:Int}(hw:Wk k e o)(n:k.da.size=16)(j:(k.par o).size=16)(t:1<=sq∧sq<=16777215)(hs:k.Qn=true){m:Nat}(hm:m<k.n)(l:(m:Int)≠k.zl):Ya k.E1 (k.opd e o sq m):=by
 obtain⟨p,c,d,b,f,q,g,h,i⟩:=a.live m hm l;have s:=a.WH;have r:=hw.he;exact⟨e,c,d,b,yq,g,h,i,.inr ⟨e,sq,k.W7 o,_,yq,yq,F1 a o,nS n j _,hw.hs hs,by unfold Be.opd Be.fr;rw[f]⟩⟩
theorem IF(a:cZ k){e o sq:Int}(hw:Wk k e o)(c:k.da.size=16)(b:(k.par o).size=16)(g:1<=sq∧sq<=16777215){m:Nat}:Ya k.E1 (k.X5 e o sq m):=by
 have f:=a.WH;have d:=hw.he;exact⟨e,e,sq,_,yq,yq,yq,nS c b (k.HZ (m:Int)),.inl rfl⟩
theorem IU{o:Int}{p:aL}(a:p∈(k.pt o).map (WT k false [])):p.zL=true∧p.J8=false:=by
 rw[jM,List.map_map]at a;obtain⟨b,_,rfl⟩:=aT.1 a;exact⟨rfl,rfl⟩
theorem Oq{o:Int}{p:aL}(a:p∈(k.pt o).map (WT k true [])):p.zL=true∧p.J8=true:=by
 rw[jM,List.map_map]at a;obtain⟨b,_,rfl⟩:=aT.1 a;exact⟨rfl,rfl⟩
theorem Ot(f:cZ k){t zv e o sq:Int}:(k.pt o).map (WT k false [])=(k.pt o).map (WT k true (J5 k true t t zv e o sq).A1):=by
 rw[jM,List.map_map,List.map_map];refine ft λa d=>?_;have c:fe (J5 k true t t zv e o sq).A1 (k.nd a)=true:=by
  have g:=gq f a;have b:k.nd a=((k.nd a).toNat:Int):=by omega
  rw[go,b,nR];exact⟨a,d,b⟩
 show(⟨a,_,!fe [] (k.nd a),false⟩:aL)=⟨a,_,true,!fe _ (k.nd a)⟩
 rw[c];rfl
theorem DN:∀{b:List aL}{d:Int},(∀c∈b,c.zL=true)->d≠0->dA b d≠0
 |[],_,_,a=>a
 |e::b,d,a,h=>by
  have f:=a e A4
  unfold dA
  rw[f]
  refine DN (λc g=>a c (cz _ g)) ?_
  cases e.J8
  ·exact(by decide:(1:Int)≠0)
  ·exact h
theorem tn(j:cZ k){n:Nat}(cP:∀a7,N a7->∃a6,a6+1=n∧ci k g a6 a7){c:Bool}{t ta zv e o sq:Int}(hw:Wk k e o)(ac:k.da.size=16)(q:(k.par o).size=16)(ed:1<=sq∧sq<=1000)(cC:DM k e o sq)(J1:(0<=ta∧ta<=t∧t<=ta+1∧t<=1000000)∧0<=zv∧zv<=1000000000)
  (ds:c=false->N (J5 k true t t (J5 k c t ta zv e o sq).last e o sq))
  (de:c=true->(∀i I,Fin k ⟨#[]⟩ ⟨true,e,o,sq,0⟩ 1000000 i I->I.last=(J5 k c t ta zv e o sq).last->g.X i I)∧(∀m Q,m<k.n->Po k e o (k.X5 e o sq) m Q->g.R m Q)∧∀H,Lp k e o H->g.L H):Stp k g N (J5 k c t ta zv e o sq):=by
 have bl:=j.hn;have dt:=j.hS;have ec:=j.Wi;have d2:=j.WH;have cB:=hw.he;have d4:=j.Yk;have K:=F0 j hw.ho;have Z:=lJ j o;have b4:(J5 k c t ta zv e o sq).P.length=(k.W o).length:=by
  show(ef _ _ _ _).length=_
  rw[kV,mS]
 have ad:∀h∈(J5 k c t ta zv e o sq).A1,(0<=h.to∧h.to<(k.n:Int))∧h.to≠o:=λh v=>by
  obtain⟨l,d,f,_⟩:=p5 v;rw[f];exact⟨gq j l,(K l d).2⟩
 have Y:∀m:Nat,XO k o m->(m:Int)≠o:=λm ⟨l,d,f⟩=>by
  rw[<-f];exact(K l d).2
 have d3:(J5 k c t ta zv e o sq).last=zv+((k.W o).length:Int):=by
  unfold HB.last;rw[b4];rfl
 refine⟨by rw[b4];exact Z.2,nO ?_,λh v=>.inl (ad h v).1,J1,.inr (.inr (.inr (.inl rfl))),zD,λi b8 ca a5 cA a=>?_,λh v=>j4 yq yq rfl,λh v m B b2=>?_,λh v eg=>?_,?_,λm Q B a=>?_,λa0=>Bool.noConfusion a0,λh v eb i r R P a5 df c5 cs c2 ea=>?_,λ⟨h,d,f⟩=>?_⟩
 ·show((ef (k.aq c e o sq) (k.n:Int) (k.sn:Int) (k.pt o)).map (·.1)).Nodup
  unfold ef;rw[jM,List.map_map,List.map_map];exact kS j (λl V=>(K l V).1) (Z.1.imp λa e=>yq)
 ·obtain⟨d,s,z,y,f,J,U⟩:=a;refine⟨d,s,z,y,f,J,?_⟩;have cb:WT k c [ca]=WT k c [b8]:=funext λp=>by unfold WT;rw[oR cA]
  rw[cb];exact U
 ·obtain⟨l,d,f,J⟩:=p5 v;have A:XO k o m:=⟨l,d,f.symm.trans B⟩;refine⟨?_,λQ E=>?_⟩
  ·rw[J];cases c<;>rfl
  ·cases c with
   |false=>exact⟨_,.inl ⟨A,rfl⟩,(Rb.re hw (Y m A) E)▸LG j hw ac q yq cC b2 (Y m A) (K l d).1 (f.symm.trans B) J⟩
   |true=>
    rcases E with⟨_,rfl⟩|⟨U,_⟩
    ·exact⟨_,.inl ⟨A,rfl⟩,LH j hw ac q yq b2 (Y m A) J⟩
    ·exact absurd A U
 ·have:=(ad h v).1;omega
 ·have bt:ra k (Po k e o (k.opd e o sq)):=FM j hw λbs m B X=>⟨R6 j hw ac q yq bs B X,rfl⟩;have cL:ra k (Po k e o (k.X5 e o sq)):=FM j hw λbs m B X=>⟨IF j hw ac q yq,rfl⟩
  cases c with
  |false=>exact⟨mL j ⟨cB.1,yq⟩,bt⟩
  |true=>exact⟨bt,cL⟩
 ·have T:0<=k.z->¬XO k o m:=λaV A=>Y m A (B.trans (hw.hb k.z ⟨.inl rfl,aV⟩));have T:=T yq
  cases c with
  |false=>exact .inr ⟨T,a⟩
  |true=>
   rcases a with⟨d,_⟩|⟨_,f⟩
   ·exact absurd d T
   ·exact .inr ⟨T,f⟩
 ·obtain⟨l,V,b6,W⟩:=p5 v;obtain⟨b,db,b1,b3,⟨a1,a3,a4⟩,s,z,y,b7,cr,cR⟩:=c5;have S:({i with lb:=r,ud:=pt s 0}:am)={i with lb:=r}:=by rw[<-b7]
  have G:({i with lb:=r}:am).N=(k.n:Int):=b.N;have ak:({i with lb:=r}:am).S=(k.S:Int):=b.S;have w:({i with lb:=r}:am).sn=(k.sn:Int):=b.sn;have dd:({i with lb:=r}:am).ed=k.ed:=b.ed;have c4:({i with lb:=r}:am).cb=k.cb:=b.cb;have c1:=(K l V).1;have b5:=R5 (c:=c) j hw.ho V b6 (λcK a=>(df cK a).1);have u:∀H:List ar,((k.pt o).map (WT k c H)).length=(k.pt o).length:=λH=>ey ..;have c9:(k.pt o).length<=6:=by rw[mS];exact Z.2.2
  have b0:(l.toNat:Int)=l:=by omega
  have W:=xk {i with lb:=r} ⟨k.Ar,(J5 k c t ta zv e o sq).last,R++P⟩ [] k.pb k.B0 (λL=>∃a2 I a8,a2.cb=k.cb∧aP L k.B0 k.pb {a2 with lb:=r} I a8∧Nx k g N (J5 k c t ta zv e o sq) (R++P) a2 I a8 L) (λd0 d1 cp cq=>Nx.J7 (p:=J5 k c t ta zv e o sq) cP zD cp cq)
   ((k.pt o).map (WT k c (R++h::P))) ((k.pt o).map (WT k c (R++P))) (by rw[u,u]) (by rw[u];exact c9) s z y l.toNat (k.W7 o) e sq true t h.to e 0 h.q fI (by rw[G,ak];omega) (by rw[w,ak];omega) (by rw[G];exact(ad h v).1) (by rw[G,w,b6,b0];unfold Be.nd;exact vx c1)
   (λM d f=>?_) (λda M F d f=>⟨i,_,_,b.cb,by rw[S]at F;exact F,.inl ⟨rfl,λa=>da (by rw[a];rfl),rfl,b,db,b1,b3,⟨a1,a3,a4⟩,s,z,y,b7,?_,?_⟩⟩) (λaV=>?_) a5 (by rw[S];exact cs) (by rw[u,w];exact cr) (by rw[u];exact cR) c2
  ·refine W.mono λaR L ⟨C,D,x⟩=>⟨C,D,?_⟩;rw[c4]at x;exact x.mono λaq _ a=>eI rfl aq a
  ·have bd:=tq d;rw[b0]
   cases c with
   |false=>
    have c6:h.q.kind=4:=by rw[W];rfl
    rw[c6];refine(zF _ (k.W7 o) e sq _ (by rw[u];omega) z y s k.B0 true l M bd f).mono λaR L ⟨C,D,x⟩=>⟨C,?_,x.mono λaq _ a=>a▸⟨_,rfl,rfl⟩⟩;exact(b5▸D)
   |true=>
    have c7:h.q.kind=5:=by rw[W];rfl
    rw[c7];refine(zG _ (k.W7 o) e sq _ (by rw[u];omega) z y s k.B0 true l (DN (λp q=>?_) (by decide)) M bd f).mono λaR L ⟨C,D,x⟩=>⟨C,?_,x.mono λaq _ a=>a▸⟨_,rfl,rfl⟩⟩
    ·obtain⟨dv,_,rfl⟩:=aT.1 q;rfl
    ·exact(b5▸D)
  ·rw[u,w]at d;exact d
  ·rw[u]at f;exact f
  ·have c0:R++P=[]:=List.eq_nil_of_length_eq_zero aV;rw[c0]
   cases c with
   |false=>
    refine .inl ⟨vB ?_ λp q=>IU q,λM F d f c3=>?_⟩
    ·rw[u,mS];exact Z.2.1
    ·rw[S]at F;have O:=u [];have bg:ef (so (k.sn:Int) e sq) (k.n:Int) (k.sn:Int) ((k.pt o).map (WT k false []))=ef (k.aq true e o sq) (k.n:Int) (k.sn:Int) (k.pt o):=by
      unfold ef;rw[List.map_map];rfl
     have du:({i with lb:=r,ud:=pt s 0}:am)={i with lb:=r}:=S;have X:=kW {i with lb:=r} ⟨k.Ar,(J5 k false t ta zv e o sq).last,[]⟩ [] k.pb k.B0 ((k.pt o).map (WT k false [])) (so (k.sn:Int) e sq) (λ_=>w.symm) s z y (k.W7 o) e sq true t (by rw[G,ak];omega) (by rw[w,ak];omega) (λp q=>?_) (by rw[O];omega) yq (by show 0<=(J5 k false t ta zv e o sq).last∧(J5 k false t ta zv e o sq).last+6<_;omega) z1
      (λcO bb cn co=>by
       rw[w]at bb ⊢;exact Ou (k.sn:Int) (k.W7 o) e sq _ (by rw[O,mS];omega) z y s k.B0 true (λp q=>IU q) cO bb cn co) M (by rw[S];exact F) (by rw[O];rw[u]at d;exact d) (by rw[O];rw[u]at f;exact f) c3
     ·refine X.mono λaR L ⟨C,D,x,a9,b9⟩=>⟨C,⟨{i with nx:=.func (.func 112) #[pt k.pb 0] #[],lg:=false,ud:=pt s 0},_,_,b.cb,D,.inr (.inl ⟨J5 k true t t (J5 k false t ta zv e o sq).last e o sq,ds rfl,rfl,rfl,rfl,?_,?_,⟨⟨b.1,b.2,b.3,b.4,b.5,b.6,b.7,b.8,b.9,b.10⟩,rfl,b1,b3,⟨a1,a3,a4⟩,s,z,y,rfl,?_,?_⟩,.inl rfl,λm Q B E=>?_,λH bk=>DE bk bk⟩)⟩,b9⟩
      ·rw[G,w,bg];rfl
      ·rw[G,w,bg];rfl
      ·rw[w,O]at x;exact x
      ·rw[O]at a9;rw[<-Ot j];exact a9
      ·have E:=E.resolve_right λa=>Bool.noConfusion a.1;exact Oo E λbl=>E.elim (λa=>absurd a.1 bl) (λa=>a.2)
     ·rw[jM,List.map_map]at q;obtain⟨an,a0,rfl⟩:=aT.1 q;rw[G];exact(K an a0).1
   |true=>
    obtain⟨cf,cl,cm⟩:=de rfl;refine .inr ⟨F2 λp q=>Oq q,by rw[dd];omega,λM F cU=>⟨({i with lb:=r,ud:=pt s 0}:am).ended 0 ⟨#[]⟩,_,_,b.cb,F,.inr (.inr ⟨rfl,rfl,rfl,rfl,λan=>?_,cf _ _ (b.fin (λ_ _=>rfl) ⟨a1,a3,a4⟩) rfl,cl,cm⟩)⟩⟩;rw[<-b.cb];exact cU an
 ·have J:=ad h d;have U:=(hw.live (m:=h.to.toNat) yq).2;omega
variable {k:Be}{g:S2}{N:HB->Prop}
theorem T9(c:cZ k){o:Int}(e:-1<=o∧o<(k.n:Int)):∀a∈k.R o++[],(0<=a∧a<(k.n:Int))∧k.nd a≠o:=λa b=>by
 rw[dD]at b
 have f:=c.hn
 have g:=c.Wl
 have h:=oa c o
 have d:(0<=a∧a<(k.n:Int))∧a≠k.oc o:=by
  unfold Be.R cN at b;split at b
  ·cases b
  ·split at b
   ·have:=gp b;omega
   ·simp at b;omega
 exact⟨d.1,jg c e d.2 d.1⟩
theorem R7(a:cZ k)(o:Int):(k.R o++[]).Nodup:=by
 have b:=a.Wl;rw[dD];unfold Be.R cN;split
 ·exact .nil
 ·split
  ·exact jL _ _
  ·simp;omega
theorem vo(a:cZ k)(o:Int):(k.R o).length=if k.oc o=(k.n:Int)-1 then 0 else if k.oc o=(k.cn:Int)then k.n-2 else 2:=by
 have d:=a.Wl;unfold Be.R cN;split
 ·rfl
 ·split
  ·have c:=DJ ((k.n:Int)-1).toNat (b:=(k.cn:Int)) yq;omega
  ·rfl
theorem Tf(b:cZ k){e o:Int}(hw:Wk k e o):∀c∈(k.R o).map (λa=>k.zq (k.nd a)),ByteArray.size c=16:=λc f=>by
 obtain⟨a,d,rfl⟩:=aT.1 f
 have g:=T9 b hw.ho a (cE _ d)
 have h:=gq b a
 have i:=(hw.live (m:=(k.nd a).toNat) yq).1
 exact mR b yq
theorem Ov(i:cZ k){e o:Int}(hw:Wk k e o)(w:k.da.size=16){f:World}{A:aY}{cp b:Nat}(h:ah f b 9 1 A (k.R o).length cp (ba ((k.R o).map λd=>k.zq (k.nd d)))):aC 86 #[.agg #[i6 (k.n:Int),i6 (k.S:Int)],i6 (k.cn:Int),i6 (k.oc o),yt A (k.R o).length cp,sT k.da] f (λC B=>∃g,C=.returned (.tuple #[yt (ae g) (k.W o).length (k.W o).length,i6 0])∧ah B f.z 9 1 (ae g) (k.W o).length (k.W o).length (ba ((k.W o).map (k.nw o)))∧au z8 f B):=by
 have G:=i.hn;have F:=i.hS;have H:=i.Wl;have y:=oa i o;have z:=vo i o;have q:=Tf i hw;have s:3<=(k.n:Int)∧(k.n:Int)<=6∧1<=(k.S:Int)∧(k.S:Int)<=8:=by omega
 have u:0<=(k.cn:Int)∧(k.cn:Int)<(k.n:Int)-1:=by omega
 by_cases a:k.oc o=(k.n:Int)-1
 ·have m:k.R o=[]:=by unfold Be.R cN;rw[aA a]
  have n:k.W o=[(k.cn:Int)]:=by unfold Be.W dq;rw[aA a]
  have l:k.nw o (k.cn:Int)=k.da:=by unfold Be.nw;rw[aA rfl]
  rw[m,n];simp only[List.map_cons,List.map_nil,l];exact F3 (k.n:Int) (k.S:Int) (k.cn:Int) (k.oc o) s u y a (by unfold cN;rw[aA a];rfl) k.da w A cp f
 ·by_cases c:k.oc o=(k.cn:Int)
  ·rw[ay a,aA c]at z;have D:((k.n:Int)-1).toNat=k.n-1:=by omega
   have m:k.R o=eu (k.n-1) (k.cn:Int):=by unfold Be.R cN;rw[ay a,aA c,D]
   have n:k.W o=[(k.n:Int)-1]:=by unfold Be.W dq;rw[ay a,aA c]
   have l:k.nw o ((k.n:Int)-1)=bX (eF (aK k.da) ((k.R o).map λd=>k.zq (k.nd d))):=by
    unfold Be.nw Be.par;rw[ay yq,ay a,aA c,m]
   obtain⟨r,rfl,_,x,_⟩:=h.cell (j:=0) (v:=(ba ((k.R o).map λd=>k.zq (k.nd d)))[0]'(by simp[ba];omega)) (cx _);have p:=F4 (k.n:Int) (k.S:Int) (k.cn:Int) (k.oc o) s u y c k.da w ((k.R o).map λd=>k.zq (k.nd d)) q (by rw[ey];omega) (by rw[ey];rfl) r cp f x (λj v t=>by rw[bG];exact it h t);rw[ey]at p;rw[n];simp only[List.map_cons,List.map_nil,l];exact p
  ·rw[ay a,ay c]at z;have m:k.R o=[(k.cn:Int),(k.n:Int)-1]:=by unfold Be.R cN;rw[ay a,ay c]
   have n:k.W o=[(k.cn:Int),(k.n:Int)-1]:=by unfold Be.W dq;rw[ay a,ay c]
   have l:k.nw o (k.cn:Int)=k.da:=by unfold Be.nw;rw[aA rfl]
   have E:k.nw o ((k.n:Int)-1)=bX (fQ (fQ (aK (k.zq (k.nd ((k.n:Int)-1)))) (aK (k.zq (k.nd (k.cn:Int))))) (aK k.da)):=by
    unfold Be.nw Be.par;rw[ay yq,ay a,ay c]
   rw[m]at h q ⊢;obtain⟨r,rfl,_,x,_⟩:=h.cell (j:=0) rfl;have p:=F5 (k.n:Int) (k.S:Int) (k.cn:Int) (k.oc o) s u y a c k.da w (k.zq (k.nd (k.cn:Int))) (k.zq (k.nd ((k.n:Int)-1))) (q _ z1) (q _ z1) (by show(k.R o).length=2;omega) r cp f x (λj v t=>by rw[bG];exact it h t);rw[n];simp only[List.map_cons,List.map_nil,l,E];exact p
theorem Ow(f:cZ k){t ta zv e o sq:Int}:(k.pt o).map (WT k false (J5 k false t ta zv e o sq).A1)=k.pt o:=by
 rw[jM,List.map_map];refine ft λa d=>?_;have c:fe (J5 k false t ta zv e o sq).A1 (k.nd a)=true:=by
  have g:=gq f a;have b:k.nd a=((k.nd a).toNat:Int):=by omega
  rw[go,b,nR];exact⟨a,d,b⟩
 show(⟨a,_,!fe _ (k.nd a),false⟩:aL)=⟨a,_,false,false⟩
 rw[c];rfl
theorem Ox(b:cZ k){t ta zv e o sq:Int}(hw:Wk k e o)(N:k.da.size=16)(n:(k.par o).size=16)(cb:0<=sq∧sq<=1000)(cf:0<=ta∧ta<=1000000)(cl:0<=zv∧zv<=1000000000){x:am}{lb:Nat}{c:CM}{W:World}{A:aY}{ca gW BL:Nat}(a:Xl k x)(O:x.ep=e)(Q:x.ou=o)(aq:FY k e o sq x)(bd:x.rd=yt A (k.R o).length ca)(aR:ah W k.B0 3 1 A (k.R o).length ca (ai bo (k.R o)))(bg:x.wr=yt (ae gW) (k.W o).length BL)(a4:ah W k.B0 3 1 (ae gW) (k.W o).length BL (ai bo (k.W o)))(a7:∀c∈k.R o,x.bl c.toNat=k.zq (k.nd c))(a9:c.Ar=k.Ar)(bb:c.last=zv)(a0:aP W k.B0 k.pb {x with lb:=lb} c [])(s:k.B0<=W.z):aC 52 #[pt k.pb 0,i6 ta] W (λm d=>m=Jx∧(∃v,v.cb=k.cb∧aP d k.B0 k.pb {v with lb:=lb} ⟨k.Ar,(J5 k false t ta zv e o (sq+1)).last,(J5 k false t ta zv e o (sq+1)).A1⟩ (J5 k false t ta zv e o (sq+1)).A1∧(J5 k false t ta zv e o (sq+1)).is k v (J5 k false t ta zv e o (sq+1)).A1 d)∧au (be [141,178] k.B0 lb k.pb k.cb W) W d):=by
 have b7:=b.hn;have b5:=b.hS;have b9:=b.Wi;have b8:=b.WH;have b6:=hw.he;have L:=F0 b hw.ho;have M:=lJ b o;have a5:=T9 b hw.ho;have a6:=vo b o;obtain⟨K,T,bs⟩:=aq;have a2:({x with lb:=lb,rd:=yt A (k.R o).length ca,wr:=yt (ae gW) (k.W o).length BL}:am)={x with lb:=lb}:=by rw[<-bd,<-bg]
 have f:({x with lb:=lb}:am).N=(k.n:Int):=a.N;have w:({x with lb:=lb}:am).S=(k.S:Int):=a.S;have l:({x with lb:=lb}:am).sn=(k.sn:Int):=a.sn;have bk:({x with lb:=lb}:am).cn=(k.cn:Int):=a.cn;have U:({x with lb:=lb}:am).ou=o:=Q;have y:({x with lb:=lb}:am).ep=e:=O;have bl:({x with lb:=lb}:am).da=k.da:=a.da;have a8:({x with lb:=lb}:am).cb=k.cb:=a.cb;have P:({x with lb:=lb}:am).lv (Int.toNat ({x with lb:=lb}:am).sn)=⟨true,e,o,sq,K⟩:=by rw[l,cJ];exact T
 have S:O0 ({x with lb:=lb}:am)=sq+1:=by unfold O0;rw[P]
 have R:dn (k.W o) ((k.W o).map (k.nw o))=k.pt o:=rfl;have bt:∀j p q G,ah j G 9 1 p (k.R o).length q (ba ((k.R o).map λu:Int=>({x with lb:=lb}:am).bl (Int.toNat u)))->aC 86 #[.agg #[i6 ({x with lb:=lb}:am).N,i6 ({x with lb:=lb}:am).S],i6 ({x with lb:=lb}:am).cn,i6 (k.oc o),yt p (k.R o).length q,sT ({x with lb:=lb}:am).da] j (λm d=>∃g,m=.returned (.tuple #[yt (ae g) (k.W o).length (k.W o).length,i6 0])∧ah d j.z 9 1 (ae g) (k.W o).length (k.W o).length (ba ((k.W o).map (k.nw o)))∧au z8 j d):=λj p q G z=>by
  have r:(k.R o).map (λu:Int=>({x with lb:=lb}:am).bl (Int.toNat u))=(k.R o).map λc=>k.zq (k.nd c):=ft λc i=>a7 c i;rw[r]at z;rw[f,w,bk,bl];exact Ov b hw N z
 have J:=rj {x with lb:=lb} c [] k.pb k.B0 (k.R o) (k.W o) ((k.W o).map (k.nw o)) (k.W o).length A gW ca BL (k.oc o) ta (by rw[U,f];exact hw.ho) (by rw[f,l,U];rfl) (by rw[f,w];omega) (by rw[l,w];omega) (by rw[a6];split;omega;split<;>omega) (λc i=>by have:=(a5 c (cE _ i)).1;omega) M.2 rfl (ey ..) (λb0 s=>by obtain⟨c,_,rfl⟩:=aT.1 s;exact nS N n c) (λc i=>by have:=(L c i).1;omega)
  (λh c b1 r an=>by
   have H:=M.1;rw[List.pairwise_iff_getElem]at H;obtain⟨Z,ac⟩:=cF.1 r;obtain⟨ad,ak⟩:=cF.1 an;rw[<-ac,<-ak];exact H h (h+1) Z ad yq)
  (λB n=>by
   rw[R,jM]at n;obtain⟨V,a1,rfl⟩:=aT.1 n;rw[f];exact(L V a1).1)
  bt (by rw[P];show 0<=sq∧sq<_;omega) (by rw[y];omega) yq yq z1 W (by rw[a2];exact a0) aR a4 s
 rw[S,R]at J;refine J.mono λm d ⟨C,B,a3,X,D,E,Y,F⟩=>⟨X,⟨{x with lv:=Wa {x with lb:=lb},nx:=.func (.func 112) #[pt k.pb 0] #[],lg:=false,db:=true,te:=x.ep,ts:=sq+1,rd:=yt A (k.R o).length ca,wr:=yt (ae gW) (k.W o).length BL,ud:=pt C 0},a.cb,?_,⟨a.1,a.2,a.3,a.4,a.5,a.6,a.7,a.8,a.9,λh I=>?_⟩,rfl,O,Q,⟨K,?_,bs⟩,C,B,a3,rfl,?_,?_⟩,?_⟩
 ·have aV:ef (jN ({x with lb:=lb}:am).sn ({x with lb:=lb}:am).ep (sq+1) (fJ (k.W o))) ({x with lb:=lb}:am).N ({x with lb:=lb}:am).sn (k.pt o)=(J5 k false t ta zv e o (sq+1)).P:=by rw[f,l,y];rfl
  rw[aV]at D;obtain⟨b2,b3,b4⟩:=c;subst a9 bb;exact D
 ·show Wo x.lv (Int.toNat x.sn) _ h=_
  rw[a.sn,cJ,Wo,ay I];exact a.lv h I
 ·show Wo x.lv (Int.toNat x.sn) { x.lv (Int.toNat x.sn)with sq:=O0 {x with lb:=lb} } k.sn=_
  rw[S,a.sn,cJ,kR,T]
 ·rw[l,y]at E;rw[mS];exact E
 ·rw[Ow b,mS];exact Y
 ·rw[a8]at F;exact F
def Yn(k:Be)(o:Int)(x:am)(W:World):Prop:=∃a b,x.wr=yt (ae a) (k.W o).length b∧ah W k.B0 3 1 (ae a) (k.W o).length b (ai bo (k.W o))
def WY(k:Be)(t ta zv e o sq:Int):HB:=sF k t ta zv e o sq (k.R o) [] (Yn k o)
theorem Yn.Bw{o:Int}(x:am):n3 k.B0 (Yn k o x):=λ_ _ _ ⟨a,f,b,c⟩ d e=>⟨a,f,b,im c d e rfl⟩
theorem mP(t ta zv e o sq:Int):(WY k t ta zv e o sq).last=zv+((k.R o).length:Int):=by
 unfold HB.last;show zv+((aQ 2 (k.n:Int) (k.sn:Int) e (k.R o)++aQ 3 (k.n:Int) (k.sn:Int) e []).length:Int)=_;rw[bM,eJ,eJ];rfl
theorem IL(f:cZ k)(W:k.kd=2){n:Nat}(a6:∀C,N C->∃B,B+1=n∧ci k g B C){t ta zv e o sq:Int}(hw:Wk k e o)(bb:k.da.size=16)(a4:(k.par o).size=16)(bs:0<=sq∧sq<=1000)(J1:(0<=ta∧ta<=t∧t<=ta+1∧t<=1000000)∧0<=zv∧zv<=900000000)(bl:k.oc o≠(k.n:Int)-1)(a1:N (J5 k false t t (WY k t ta zv e o sq).last e o (sq+1))):Stp k g N (WY k t ta zv e o sq):=by
 have b6:=f.hn;have S:=vo f o;rw[ay bl]at S;have bd:0<(k.R o).length∧(k.R o).length<=6:=by rw[S];split<;>omega
 have cf:=mP (k:=k) t ta zv e o sq;refine DI f hw ⟨J1.1,yq⟩ (T9 f hw.ho) (R7 f o) (by rw[dD];exact bd) Yn.Bw λx d O s u ac j a V X bk I ⟨A,F,Y,a2⟩ ⟨H,P,Z,a7⟩ bt T b a8 ca=>?_;have M:({x with lb:=d,kd:=2}:am)={x with lb:=d}:=by rw[<-W,<-a.kd]
 have z:({x with lb:=d,bl:=j,kd:=2}:am)={x with lb:=d,bl:=j}:=by rw[<-W,<-a.kd]
 have U:({x with lb:=d}:am).cb=k.cb:=a.cb;have Q:Xl k {x with bl:=j}:=⟨a.1,a.2,a.3,a.4,a.5,a.6,a.7,a.8,a.9,a.10⟩;have a5:=zH {x with lb:=d} ⟨k.Ar,(WY k t ta zv e o sq).last,u⟩ [] k.pb k.B0 (λl=>∃q E D,q.cb=k.cb∧aP l k.B0 k.pb {q with lb:=d} E D∧Nx k g N (WY k t ta zv e o sq) u q E D l) (λb7 b8 aV a0=>Nx.J7 (p:=WY k t ta zv e o sq) a6 (λx cb b4 l b0 c J K=>⟨c.1,n9.Bw _ _ _ c.2.1 J K,Yn.Bw _ _ _ _ c.2.2 J K⟩) aV a0)
  j (k.R o) A F (k.W o) H (k.W o).length P t O.to s.st s.ep s.ou O.q s.rc (λy b=>by rw[M]at b;exact(bt d _ y b).mono λG l ⟨m,h,i⟩=>⟨m,by rw[<-z]at h;exact h,i⟩)
  (λbg y b v w=>⟨{x with bl:=j},_,_,a.cb,by rw[z]at b;exact b,.inl ⟨rfl,λc=>bg (by rw[c];rfl),rfl,Q,bk,V,X,I,⟨⟨A,F,Y,v⟩,T⟩,H,P,Z,w⟩⟩)
  (λaR y b v w a9=>?_) ac (by rw[M];exact b) a2 a7 a8
 ·refine a5.mono λG l ⟨m,h,i⟩=>⟨m,h,?_⟩;rw[U]at i;exact i.mono λak _ c=>eI rfl ak c
 ·have R:u=[]:=List.eq_nil_of_length_eq_zero aR;rw[z]at b;refine(Ox (zv:=(WY k t ta zv e o sq).last) (t:=t) (ta:=t) f hw bb a4 bs yq yq (x:={x with bl:=j}) Q V X I Y v Z w (λad a3=>T ad a3 (by rw[R];rfl)) rfl rfl b a9).mono λG l ⟨m,⟨q,h,i,an⟩,aq⟩=>⟨m,⟨q,_,_,h,i,.inr (.inl ⟨_,a1,rfl,rfl,rfl,rfl,rfl,an,.inl R,λb2 b3 b5 r=>?_,λb1 L=>DE L L⟩)⟩,by rw[U];exact aq⟩;have r:=r.resolve_right λc=>Bool.noConfusion c.1;exact Oo r λ_=>r
end Go.Proofs.YtcmpkkapkdlfhaaGreat
