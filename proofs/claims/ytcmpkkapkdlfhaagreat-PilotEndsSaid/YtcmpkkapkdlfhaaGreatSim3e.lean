import Derived.Test.YtcmpkkapkdlfhaaGreatUpdate2
import Derived.Shelf.Sort.Plain
import Derived.Shelf.Slices.In.SortNone
import Derived.Sort.OwnSortedInts
namespace Go.Proofs.YtcmpkkapkdlfhaaGreat
open Go.RowKit Tryz
set_option maxHeartbeats 4000000
set_option maxRecDepth 100000
section
variable (sn b e s:Int)(L:List aL)(c cp:Nat)(a:Bool)(q:aL)
def lZ:av:=[i6 sn,i6 b,i6 e,i6 s,yt (ae c) L.length cp,bO_ a,bO_ false]
def CA:av:=[i6 4,i6 sn,i6 e,i6 s,i6 b,i6 0,i6 0,i6 0,sT q.zq]
def HL:aH:=[1,1,1,1,0,1,0,0,1,1,0,0,1,1,0,1]
def HM:aH:=[1,1,1,1,0,1,0,0,1,1,1]
@[simp] def pq(f:Nat)(a:Bool)(q:aL)(d:World):ax:=[⟨f,178,true,lZ sn b e s L c cp a⟩,⟨d.z,180,true,[i6 q.HZ,sT q.zq,bO_ q.zL,bO_ q.J8]⟩]
end
def xx(sn:Int)(mask:Int)(e:Int)(s:Int)(L:List aL)(f:Nat)(cp:Nat)(g:Nat)(h:Bool)(w:World)  (m:Nat) (st:St) (c:World):Prop:=
 ∃(i:Nat)(a:aY)(d:Nat)(b:aY)(d0:Nat)(z:Nat),m+i=L.length∧i<=L.length∧ah c w.z 3 1 a i d (ai kY (L.take i))∧ah c w.z 59 9 b i d0 (ai (ym sn e s mask) (L.take i))∧st=⟨[(0,pt g 0),(2,z7),(3,z7),(4,yt a i d),(5,yt b i d0),(6,i6 0),(14,yt (ae f) L.length cp),(15,i6 ((L.length:Nat):Int)),(16,i6 (i:Int))],[⟨g,178,true,lZ sn mask e s L f cp h⟩],[],z⟩
theorem Ad(sn g e s:Int)(L:List aL)(aV:0<L.length∧L.length<=8)(d cp c v8:Nat)(k:Bool)(a0:∀b∈L,b.zL=false)(w:World)(N:A2 w c 178 [i6 sn,i6 g,i6 e,i6 s,yt (ae d) L.length cp,bO_ k,bO_ false])(aR:ah w v8 180 4 (ae d) L.length cp (ai aL.cells L)):aC 113 #[pt c 0] w (λa8 v=>∃V ad W ak,a8=.returned (.tuple #[yt V L.length ad,yt W L.length ak])∧ah v w.z 3 1 V L.length ad (ai kY L)∧ah v w.z 59 9 W L.length ak (ai (ym sn e s g) L)∧A2 v c 178 [i6 sn,i6 g,i6 e,i6 s,yt (ae d) L.length cp,bO_ true,bO_ false]∧au (λl=>l=c) w v):=by
 refine cH (S:=(λl=>l=c)) (n:=57) func113 (ab.start (bk:=[⟨c,178,true,lZ sn g e s L d cp k⟩]) (wn:=[]) (λX I=>by obtain rfl:=aG.1 I;exact N) (λX I _=>by obtain rfl:=aG.1 I;rfl) z1 z1) ?_;refine z6 19 (dz 5 0) [0,2,3,4,5,9] [] [] [.ops (Ac 30) [1,2],y6 31] [⟨c,178,true,lZ sn g e s L d cp k⟩] [] w.z ?_;have b3:dA L 2=0:=Hy aV.1 a0;refine DV (i6 0) 124 [pt c 0] (some 10) [] tI rfl (λy h=>by have r:=k8 sn g e s L aV.2 d cp c v8 k y (h.at_ 0 rfl) (aR.y4 (es:=[178]) h.x2 (λl p=>by subst p;exact⟨178,z1,aw N⟩) rfl);rw[b3]at r;exact r) λbs cf=>?_;refine Aq 16 (dz 7 4362600448) [0,2,3,4,5,6,14,15,16] [] [(c,4,1)] [y6 250,.zq 0,y6 63] ⟨[(0,pt c 0),(2,z7),(3,z7),(4,z7),(5,z7),(6,i6 0),(14,.slice (ae d) L.length cp),(15,i6 ((L.length:Nat):Int)),(16,i6 0)],[⟨c,178,true,lZ sn g e s L d cp k⟩],[],bs⟩ ?_;refine bm (w:=w) (S':=(λl=>l=c)) (xx sn g e s L d cp c k w) L.length v7 (λb9 h=>⟨⟨0,none,0,none,0,_,yq,yq,ah.nil _ _ _ _,ah.nil _ _ _ _,rfl⟩,h⟩) ?_;rintro a4 _ i ⟨a,t,u,m,o,b8,cb,ca,a2,a1,rfl⟩ z J bb;by_cases F:a<L.length
 rotate_left
 ·skip;refine z6 31 (dz 14 0x10508000100000) [2,3] [dF (((a:Int):Int)<((L.length:Nat):Int)),dT (((a:Int):Int)>0)] [(c,5,1)] [y6 255] [⟨c,178,true,[i6 sn,i6 g,i6 e,i6 s,yt (ae d) L.length cp,bO_ true,bO_ false]⟩] [] i.z ?_;refine B1 [] [yt t a u,yt m a o] [] ?_;intro y h;have b1:a=L.length:=by omega
  have an:=(a2.kT h z);have aq:=(a1.kT h z);rw[eX yq]at an aq;subst b1;exact⟨t,u,m,o,rfl,an,aq,h.at_ 0 rfl,(ab.A0 z h).x2⟩
 obtain⟨b,K⟩:∃b,L[a]?=some b:=⟨_,cx F⟩;have b2:=a0 b (aS K);have R:=aR.y4 (es:=[178]) z.x2 (λl p=>by subst p;exact⟨178,z1,aw N⟩) rfl;refine aD [⟨d,0+a*4,[i6 b.HZ,sT b.zq,bO_ b.zL,bO_ b.J8]⟩] (λ_ l p=>?_) ?_
 ·simp only[bj,cv,or_false]at p;subst p;exact⟨λ⟨X,I,_,bd⟩=>(by obtain rfl:=aG.1 I;exact absurd (bS (R.ty d ⟨_,rfl,rfl⟩) (show fm i 178 d from(show c=d from bd)▸aw (z.at_ 0 rfl))) (by decide)),(R.own d ⟨_,rfl,rfl⟩).2,dj i9 R K⟩
 refine Aq 45 [y2,FN,HA,⟨false,0,[⟨true,0,0,4⟩]⟩,y2,oA 1 0 4,y2,y2,y2,FN,⟨true,0,[⟨false,1,2,1⟩]⟩,FN,WG,y2,FN,FN,FN,y2,y2,y2,FN,WG,FN,y2,y2,oA 1 0 1,y2] [0,2,3,4,5,6,8,14,15,16,36,39] ([dT (((a:Int):Int)<((L.length:Nat):Int)),oE ((0:Int)<=(a:Int)∧(a:Int)<((L.length:Nat):Int)),tT,tT,tT,tT]++rE 5 (eD (nT b2))++[tT]) [(d,0+a*4,4),(i.z,0,4),(i.z,2,1),(i.z,0,1)] [.ops (Ac 128204) [4,5],.code HL,.zq 1,.code HM,.inv J,.zq 0,y6 63] ⟨[(0,pt c 0),(2,z7),(3,z7),(4,yt t a u),(5,yt m a o),(6,i6 0),(8,pt i.z 0),(14,yt (ae d) L.length cp),(15,i6 ((L.length:Nat):Int)),(16,i6 (a:Int)),(36,yt t a u),(39,yt (ae (i.z+1)) 1 1)],[⟨c,178,true,lZ sn g e s L d cp k⟩,⟨i.z,180,true,[i6 b.HZ,sT b.zq,bO_ b.zL,bO_ b.J8]⟩,⟨i.z+1,3,true,[i6 b.HZ]⟩],[⟨d,0+a*4,[i6 b.HZ,sT b.zq,bO_ b.zL,bO_ b.J8]⟩],i.z+2⟩ ?_;refine aD [] (λ_ _ r=>by cases r) ?_;refine dE (w:=w) (S':=(λl=>l=c)) (Y:=aO) (dst:=some 40) (x:=Builtin.append_ #[25,25] 25 #[yt t a u,yt (ae (i.z+1)) 1 1]) (λj=>yt j.1 (a+1) j.2) (pq sn g e s L d cp c k b i) (λj D=>ah D w.z 3 1 j.1 (a+1) j.2 (ai kY (L.take (a+1)))∧ah D w.z 59 9 m a o (ai (ym sn e s g) (L.take a))) (λj=>[(40,yt j.1 (a+1) j.2),(0,pt c 0),(2,z7),(3,z7),(4,yt t a u),(5,yt m a o),(6,i6 0),(8,pt i.z 0),(14,yt (ae d) L.length cp),(15,i6 ((L.length:Nat):Int)),(16,i6 (a:Int)),(36,yt t a u),(39,yt (ae (i.z+1)) 1 1)]) v7 v7 (λ_=>rfl) (λy h=>?_) (λj a5 bt T=>?_)
 ·have q:=(a2.kT h z);have A:=(ab.A0 z h);obtain⟨M,Q,v,F,G,H,a9⟩:=ce (P:=prog) y w.z 25 25 3 (i6 0) 1 8 t a u (ai kY (L.take a)) ⟨i.z+1,0,none⟩ 1 1 [i6 b.HZ] v7 v7 v7 (by decide) q rfl (λa3 x O=>by rw[bY,bG];exact(h.at_ 2 rfl).at_ O) (aU v7) yq (by decide) A.x2.size;rw[show[i6 b.HZ]=kY b from rfl,eU,<-jT K]at G;exact⟨(M,Q),v,F,⟨G,(a1.kT h z).y4 (es:=[3]) H (bW q) rfl⟩,(A.sub (Ex:=pq sn g e s L d cp c k b i) z1).A3 (λ_ r=>r) H (λl p=>.inr (q.own l p).1) (bI (A.sub (Ex:=pq sn g e s L d cp c k b i) z1) (bW q) rfl)⟩
 obtain⟨C,E⟩:=j;obtain⟨b5,b4⟩:=bt;refine z6 10 (dz 5 1073840128) [0,2,3,4,5,6,14,15,16,41,42,43,44] [] [(i.z,0,4)] [.ops HL [4,5,6,7],.zq 1,.code HM,.inv J,.zq 0,y6 63] (pq sn g e s L d cp c k b i) [] a5.z ?_;refine DV (aE (CA sn g e s b)) _ _ (some 45) [] tI rfl (λy h=>EG sn g e s L d cp c k b y (h.at_ 0 rfl)) λB cl=>?_;refine Aq 4 [y2] [0,2,3,4,5,6,14,15,16,41,46] [] [] [.ops HL [6,7],.zq 1,.code HM,.inv J,.zq 0,y6 63] ⟨[(0,pt c 0),(2,z7),(3,z7),(4,yt C (a+1) E),(5,yt m a o),(6,i6 0),(14,yt (ae d) L.length cp),(15,i6 ((L.length:Nat):Int)),(16,i6 (a:Int)),(41,yt m a o),(46,yt (ae B) 1 1)],[⟨c,178,true,lZ sn g e s L d cp k⟩,⟨i.z,180,true,[i6 b.HZ,sT b.zq,bO_ b.zL,bO_ b.J8]⟩,⟨B,59,true,CA sn g e s b⟩],[],B+1⟩ ?_;refine dE (w:=w) (S':=(λl=>l=c)) (Y:=aO) (dst:=some 47) (x:=Builtin.append_ #[181,181] 181 #[yt m a o,yt (ae B) 1 1]) (λj=>yt j.1 (a+1) j.2) (pq sn g e s L d cp c k b i) (λj D=>ah D w.z 3 1 C (a+1) E (ai kY (L.take (a+1)))∧ah D w.z 59 9 j.1 (a+1) j.2 (ai (ym sn e s g) (L.take (a+1)))) (λj=>[(47,yt j.1 (a+1) j.2),(0,pt c 0),(2,z7),(3,z7),(4,yt C (a+1) E),(5,yt m a o),(6,i6 0),(14,yt (ae d) L.length cp),(15,i6 ((L.length:Nat):Int)),(16,i6 (a:Int)),(41,yt m a o),(46,yt (ae B) 1 1)]) v7 v7 (λ_=>rfl) (λy h=>?_) (λj a6 b0 U=>?_)
 ·have q:=(b4.kT h T);have A:=(ab.A0 T h);obtain⟨M,Q,v,F,G,H,a9⟩:=ce (P:=prog) y w.z 181 181 59 (.agg #[i6 0,i6 0,i6 0,i6 0,i6 0,i6 0,i6 0,i6 0,sT ⟨#[]⟩]) 9 80 m a o (ai (ym sn e s g) (L.take a)) ⟨B,0,none⟩ 1 1 (CA sn g e s b) v7 v7 v7 (by decide) q rfl (λa3 x O=>by rw[bY,bG];exact(h.at_ 2 rfl).at_ O) (aU v7) yq (by decide) A.x2.size;rw[show(CA sn g e s b)=(ym sn e s g) b from rfl,eU,<-jT K]at G;exact⟨(M,Q),v,F,⟨(b5.kT h T).y4 (es:=[59]) H (bW q) rfl,G⟩,(A.sub (Ex:=pq sn g e s L d cp c k b i) z1).A3 (λ_ r=>r) H (λl p=>.inr (q.own l p).1) (bI (A.sub (Ex:=pq sn g e s L d cp c k b i) z1) (bW q) rfl)⟩
 obtain⟨Z,ac⟩:=j;obtain⟨b7,b6⟩:=b0;refine di (f:=10) (hs:=[y2,HA,y2]) [0,2,3,4,5,6,14,15,16] [true,false] (v7:_=some (Res.mk [T0 .i64 ((a:Int)+1)] (aX []) [.inv J,.zq 0,y6 63] ⟨[(0,pt c 0),(2,z7),(3,z7),(4,yt C (a+1) E),(5,yt Z (a+1) ac),(6,i6 0),(14,yt (ae d) L.length cp),(15,i6 ((L.length:Nat):Int)),(16,i6 ((a:Int)+1))],[⟨c,178,true,lZ sn g e s L d cp k⟩],[],a6.z⟩)) ⟨i0 yq,trivial⟩ ?_;rw[<-aW a];intro a7 bl bg h;exact bb (a4-1) _ a7 bl yq ⟨a+1,C,E,Z,ac,_,yq,yq,b7.kT h U,b6.kT h U,rfl⟩ bg (ab.A0 U h)
section
variable (sn c e s:Int)(L:List aL)(b cp:Nat)(a:Bool)
def ny:av:=(lZ sn c e s L b cp a)
def CB:av:=[i6 5,i6 sn,i6 e,i6 s,i6 0,i6 0,i6 0,i6 0,sT ⟨#[]⟩]
def HN:aH:=[1,1,1,1,0,1,0,0,1,1,0,0,1,1,0,1]
def HO:aH:=[1,1,1,1,0,1,0,0,1,1,1]
@[simp] def pu(f:Nat)(a:Bool)(q:aL)(d:World):ax:=[⟨f,178,true,ny sn c e s L b cp a⟩,⟨d.z,180,true,[i6 q.HZ,sT q.zq,bO_ q.zL,bO_ q.J8]⟩]
end
def xy(sn:Int)(mask:Int)(e:Int)(s:Int)(L:List aL)(f:Nat)(cp:Nat)(g:Nat)(h:Bool)(w:World)  (m:Nat) (st:St) (c:World):Prop:=
 ∃(i:Nat)(a:aY)(d:Nat)(b:aY)(d0:Nat)(z:Nat),m+i=L.length∧i<=L.length∧ah c w.z 3 1 a i d (ai kY (L.take i))∧ah c w.z 59 9 b i d0 (ai (yn sn e s) (L.take i))∧st=⟨[(0,pt g 0),(2,z7),(3,z7),(4,yt a i d),(5,yt b i d0),(6,i6 1),(14,yt (ae f) L.length cp),(15,i6 ((L.length:Nat):Int)),(16,i6 (i:Int))],[⟨g,178,true,ny sn mask e s L f cp h⟩],[],z⟩
theorem Ae(sn j e s:Int)(L:List aL)(aV:0<L.length∧L.length<=8)(d cp c v8:Nat)(k:Bool)(a0:∀b∈L,b.zL=true∧b.J8=false)(w:World)(N:A2 w c 178 [i6 sn,i6 j,i6 e,i6 s,yt (ae d) L.length cp,bO_ k,bO_ false])(aR:ah w v8 180 4 (ae d) L.length cp (ai aL.cells L)):aC 113 #[pt c 0] w (λa8 v=>∃V ad W ak,a8=.returned (.tuple #[yt V L.length ad,yt W L.length ak])∧ah v w.z 3 1 V L.length ad (ai kY L)∧ah v w.z 59 9 W L.length ak (ai (yn sn e s) L)∧A2 v c 178 [i6 sn,i6 j,i6 e,i6 s,yt (ae d) L.length cp,bO_ true,bO_ false]∧au (λl=>l=c) w v):=by
 refine cH (S:=(λl=>l=c)) (n:=57) func113 (ab.start (bk:=[⟨c,178,true,ny sn j e s L d cp k⟩]) (wn:=[]) (λX I=>by obtain rfl:=aG.1 I;exact N) (λX I _=>by obtain rfl:=aG.1 I;rfl) z1 z1) ?_;refine z6 19 (dz 5 0) [0,2,3,4,5,9] [] [] [.ops (Ac 30) [1,2],y6 31] [⟨c,178,true,ny sn j e s L d cp k⟩] [] w.z ?_;have b3:dA L 2=1:=vB aV.1 a0;refine DV (i6 1) 124 [pt c 0] (some 10) [] tI rfl (λy g=>by have r:=k8 sn j e s L aV.2 d cp c v8 k y (g.at_ 0 rfl) (aR.y4 (es:=[178]) g.x2 (λl p=>by subst p;exact⟨178,z1,aw N⟩) rfl);rw[b3]at r;exact r) λbs cf=>?_;refine Aq 16 (dz 7 4362600448) [0,2,3,4,5,6,14,15,16] [] [(c,4,1)] [y6 250,.zq 0,y6 63] ⟨[(0,pt c 0),(2,z7),(3,z7),(4,z7),(5,z7),(6,i6 1),(14,.slice (ae d) L.length cp),(15,i6 ((L.length:Nat):Int)),(16,i6 0)],[⟨c,178,true,ny sn j e s L d cp k⟩],[],bs⟩ ?_;refine bm (w:=w) (S':=(λl=>l=c)) (xy sn j e s L d cp c k w) L.length v7 (λb9 g=>⟨⟨0,none,0,none,0,_,yq,yq,ah.nil _ _ _ _,ah.nil _ _ _ _,rfl⟩,g⟩) ?_;rintro a4 _ h ⟨a,t,u,m,o,b8,cb,ca,a2,a1,rfl⟩ z J bb;by_cases F:a<L.length
 rotate_left
 ·skip;refine z6 31 (dz 14 0x10508000100000) [2,3] [dF (((a:Int):Int)<((L.length:Nat):Int)),dT (((a:Int):Int)>0)] [(c,5,1)] [y6 255] [⟨c,178,true,[i6 sn,i6 j,i6 e,i6 s,yt (ae d) L.length cp,bO_ true,bO_ false]⟩] [] h.z ?_;refine B1 [] [yt t a u,yt m a o] [] ?_;intro y g;have b1:a=L.length:=by omega
  have an:=(a2.kT g z);have aq:=(a1.kT g z);rw[eX yq]at an aq;subst b1;exact⟨t,u,m,o,rfl,an,aq,g.at_ 0 rfl,(ab.A0 z g).x2⟩
 obtain⟨b,K⟩:∃b,L[a]?=some b:=⟨_,cx F⟩;have b2:=a0 b (aS K);have R:=aR.y4 (es:=[178]) z.x2 (λl p=>by subst p;exact⟨178,z1,aw N⟩) rfl;refine aD [⟨d,0+a*4,[i6 b.HZ,sT b.zq,bO_ b.zL,bO_ b.J8]⟩] (λ_ l p=>?_) ?_
 ·simp only[bj,cv,or_false]at p;subst p;exact⟨λ⟨X,I,_,bd⟩=>(by obtain rfl:=aG.1 I;exact absurd (bS (R.ty d ⟨_,rfl,rfl⟩) (show fm h 178 d from(show c=d from bd)▸aw (z.at_ 0 rfl))) (by decide)),(R.own d ⟨_,rfl,rfl⟩).2,dj i9 R K⟩
 refine Aq 45 [y2,FN,HA,⟨false,0,[⟨true,0,0,4⟩]⟩,y2,oA 1 0 4,y2,y2,y2,y2,y2,y2,⟨false,3,[]⟩,y2,y2,y2,y2,FN,⟨true,0,[⟨false,1,3,1⟩]⟩,FN,WG,⟨false,3,[]⟩,FN,y2,y2,oA 1 0 1,y2] [0,2,3,4,5,6,8,14,15,16,36,39] ([dT (((a:Int):Int)<((L.length:Nat):Int)),oE ((0:Int)<=(a:Int)∧(a:Int)<((L.length:Nat):Int))]++rE 7 fF++[tT,tT,tT,fF,tT,fF,oE ((!b.J8)=true) (by rw[b2.2];rfl)]) [(d,0+a*4,4),(h.z,0,4),(h.z,3,1),(h.z,0,1)] [.ops (Ac 128204) [4,5],.code HN,.zq 1,.code HO,.inv J,.zq 0,y6 63] ⟨[(0,pt c 0),(2,z7),(3,z7),(4,yt t a u),(5,yt m a o),(6,i6 1),(8,pt h.z 0),(14,yt (ae d) L.length cp),(15,i6 ((L.length:Nat):Int)),(16,i6 (a:Int)),(36,yt t a u),(39,yt (ae (h.z+1)) 1 1)],[⟨c,178,true,ny sn j e s L d cp k⟩,⟨h.z,180,true,[i6 b.HZ,sT b.zq,bO_ b.zL,bO_ b.J8]⟩,⟨h.z+1,3,true,[i6 b.HZ]⟩],[⟨d,0+a*4,[i6 b.HZ,sT b.zq,bO_ b.zL,bO_ b.J8]⟩],h.z+2⟩ ?_;refine aD [] (λ_ _ r=>by cases r) ?_;refine dE (w:=w) (S':=(λl=>l=c)) (Y:=aO) (dst:=some 40) (x:=Builtin.append_ #[25,25] 25 #[yt t a u,yt (ae (h.z+1)) 1 1]) (λi=>yt i.1 (a+1) i.2) (pu sn j e s L d cp c k b h) (λi D=>ah D w.z 3 1 i.1 (a+1) i.2 (ai kY (L.take (a+1)))∧ah D w.z 59 9 m a o (ai (yn sn e s) (L.take a))) (λi=>[(40,yt i.1 (a+1) i.2),(0,pt c 0),(2,z7),(3,z7),(4,yt t a u),(5,yt m a o),(6,i6 1),(8,pt h.z 0),(14,yt (ae d) L.length cp),(15,i6 ((L.length:Nat):Int)),(16,i6 (a:Int)),(36,yt t a u),(39,yt (ae (h.z+1)) 1 1)]) v7 v7 (λ_=>rfl) (λy g=>?_) (λi a5 bt T=>?_)
 ·have q:=(a2.kT g z);have A:=(ab.A0 z g);obtain⟨M,Q,v,F,G,H,a9⟩:=ce (P:=prog) y w.z 25 25 3 (i6 0) 1 8 t a u (ai kY (L.take a)) ⟨h.z+1,0,none⟩ 1 1 [i6 b.HZ] v7 v7 v7 (by decide) q rfl (λa3 x O=>by rw[bY,bG];exact(g.at_ 2 rfl).at_ O) (aU v7) yq (by decide) A.x2.size;rw[show[i6 b.HZ]=kY b from rfl,eU,<-jT K]at G;exact⟨(M,Q),v,F,⟨G,(a1.kT g z).y4 (es:=[3]) H (bW q) rfl⟩,(A.sub (Ex:=pu sn j e s L d cp c k b h) z1).A3 (λ_ r=>r) H (λl p=>.inr (q.own l p).1) (bI (A.sub (Ex:=pu sn j e s L d cp c k b h) z1) (bW q) rfl)⟩
 obtain⟨C,E⟩:=i;obtain⟨b5,b4⟩:=bt;refine z6 10 (dz 5 1073840128) [0,2,3,4,5,6,14,15,16,41,42,43,44] [] [(h.z,0,4)] [.ops HN [4,5,6,7],.zq 1,.code HO,.inv J,.zq 0,y6 63] (pu sn j e s L d cp c k b h) [] a5.z ?_;refine DV (aE (CB sn e s)) _ _ (some 45) [] tI rfl (λy g=>EH sn j e s L d cp c k b y (g.at_ 0 rfl)) λB cl=>?_;refine Aq 4 [y2] [0,2,3,4,5,6,14,15,16,41,46] [] [] [.ops HN [6,7],.zq 1,.code HO,.inv J,.zq 0,y6 63] ⟨[(0,pt c 0),(2,z7),(3,z7),(4,yt C (a+1) E),(5,yt m a o),(6,i6 1),(14,yt (ae d) L.length cp),(15,i6 ((L.length:Nat):Int)),(16,i6 (a:Int)),(41,yt m a o),(46,yt (ae B) 1 1)],[⟨c,178,true,ny sn j e s L d cp k⟩,⟨h.z,180,true,[i6 b.HZ,sT b.zq,bO_ b.zL,bO_ b.J8]⟩,⟨B,59,true,CB sn e s⟩],[],B+1⟩ ?_;refine dE (w:=w) (S':=(λl=>l=c)) (Y:=aO) (dst:=some 47) (x:=Builtin.append_ #[181,181] 181 #[yt m a o,yt (ae B) 1 1]) (λi=>yt i.1 (a+1) i.2) (pu sn j e s L d cp c k b h) (λi D=>ah D w.z 3 1 C (a+1) E (ai kY (L.take (a+1)))∧ah D w.z 59 9 i.1 (a+1) i.2 (ai (yn sn e s) (L.take (a+1)))) (λi=>[(47,yt i.1 (a+1) i.2),(0,pt c 0),(2,z7),(3,z7),(4,yt C (a+1) E),(5,yt m a o),(6,i6 1),(14,yt (ae d) L.length cp),(15,i6 ((L.length:Nat):Int)),(16,i6 (a:Int)),(41,yt m a o),(46,yt (ae B) 1 1)]) v7 v7 (λ_=>rfl) (λy g=>?_) (λi a6 b0 U=>?_)
 ·have q:=(b4.kT g T);have A:=(ab.A0 T g);obtain⟨M,Q,v,F,G,H,a9⟩:=ce (P:=prog) y w.z 181 181 59 (.agg #[i6 0,i6 0,i6 0,i6 0,i6 0,i6 0,i6 0,i6 0,sT ⟨#[]⟩]) 9 80 m a o (ai (yn sn e s) (L.take a)) ⟨B,0,none⟩ 1 1 (CB sn e s) v7 v7 v7 (by decide) q rfl (λa3 x O=>by rw[bY,bG];exact(g.at_ 2 rfl).at_ O) (aU v7) yq (by decide) A.x2.size;rw[show(CB sn e s)=(yn sn e s) b from rfl,eU,<-jT K]at G;exact⟨(M,Q),v,F,⟨(b5.kT g T).y4 (es:=[59]) H (bW q) rfl,G⟩,(A.sub (Ex:=pu sn j e s L d cp c k b h) z1).A3 (λ_ r=>r) H (λl p=>.inr (q.own l p).1) (bI (A.sub (Ex:=pu sn j e s L d cp c k b h) z1) (bW q) rfl)⟩
 obtain⟨Z,ac⟩:=i;obtain⟨b7,b6⟩:=b0;refine di (f:=10) (hs:=[y2,HA,y2]) [0,2,3,4,5,6,14,15,16] [true,false] (v7:_=some (Res.mk [T0 .i64 ((a:Int)+1)] (aX []) [.inv J,.zq 0,y6 63] ⟨[(0,pt c 0),(2,z7),(3,z7),(4,yt C (a+1) E),(5,yt Z (a+1) ac),(6,i6 1),(14,yt (ae d) L.length cp),(15,i6 ((L.length:Nat):Int)),(16,i6 ((a:Int)+1))],[⟨c,178,true,ny sn j e s L d cp k⟩],[],a6.z⟩)) ⟨i0 yq,trivial⟩ ?_;rw[<-aW a];intro a7 bl bg g;exact bb (a4-1) _ a7 bl yq ⟨a+1,C,E,Z,ac,_,yq,yq,b7.kT g U,b6.kT g U,rfl⟩ bg (ab.A0 U g)
theorem Sl(sn e s:Int)(n:Nat)(C:bB)(B:ct)(c b o m v8:Nat)(G:0<n∧n<=6)(u:C.length=n)(t:B.length=n)(Q:∀y∈B,y.size=16)(J:∀a∈C,0<=a∧a<6)(K:∀(i:Nat)(a l:Int),C[i]?=some a->C[i+1]?=some l->a<l)(P:0<=sn∧sn<8)(he:1<=e∧e<=16777215)(hs:1<=s∧s<=16777215)(w:World)(x:v8<=w.z)(O:c<w.z)(M:∀(j:Nat)(v:Value),(C.map (Value.int .i64))[j]?=some v->w.cell? ⟨c,0+j,none⟩=some v)(N:b<w.z)(L:∀(j:Nat)(v:Value),(ba B)[j]?=some v->w.cell? ⟨b,0+j,none⟩=some v):aC 88 #[i6 sn,.agg #[i6 e,i6 s],yt (ae c) n o,yt (ae b) n m] w (λq h=>∃g d p,q=.returned (.tuple #[pt g 0,i6 0])∧ah h v8 178 7 (ae g) 1 1 (jr sn (fJ C) e s (yt (ae d) n p) false)∧ah h v8 180 4 (ae d) n p (ai aL.cells (dn C B))∧au z8 w h):=by
 refine(Sm sn e s n C B c b o m G u t Q J K P he hs w O M N L).mono λq h I=>?_;obtain⟨g,R,z,A,D,E,r,F⟩:=I;have S:=oV u t;obtain⟨k,H⟩:∃k,(dn C B)[0]?=some k:=⟨_,cx yq⟩;obtain⟨d,rfl,_⟩:=ah.cell (j:=0*4+0) (v:=i6 k.HZ) r (ff (f:=aL.cells) i9 H (by decide));exact⟨g,d,z,A,Ab (az x D) E rfl,r.below x,F⟩
theorem OO(sn f e s:Int)(L:List aL)(E:0<L.length∧L.length<=8)(d c a v8:Nat)(i:Bool)(F:∀r∈L,r.zL=false)(w:World)(m:ah w v8 178 7 (ae a) 1 1 (jr sn f e s (yt (ae d) L.length c) i))(B:ah w v8 180 4 (ae d) L.length c (ai aL.cells L))(n:v8<=w.z):aC 113 #[pt a 0] w (λl b=>∃g j h k,l=.returned (.tuple #[yt g L.length j,yt h L.length k])∧ah b v8 3 1 g L.length j (ai kY L)∧ah b v8 59 9 h L.length k (ai (λD=>(jN sn e s f D).cells) L)∧ah b v8 178 7 (ae a) 1 1 (jr sn f e s (yt (ae d) L.length c) true)∧au (dg (ae a)) w b):=by
 refine(Ad sn f e s L E d c a v8 i F w (tq m) B).mono λl b C=>?_;obtain⟨o,t,p,u,v,x,y,z,A⟩:=C;exact⟨o,t,p,u,v,x.below n,y.below n,Ab (m.own a ⟨_,rfl,rfl⟩).1 z rfl,A.mono (λG _ q=>⟨_,rfl,q⟩)⟩
theorem Ou(sn f e s:Int)(L:List aL)(E:0<L.length∧L.length<=8)(d c a v8:Nat)(j:Bool)(F:∀g∈L,g.zL=true∧g.J8=false)(w:World)(n:ah w v8 178 7 (ae a) 1 1 (jr sn f e s (yt (ae d) L.length c) j))(B:ah w v8 180 4 (ae d) L.length c (ai aL.cells L))(o:v8<=w.z):aC 113 #[pt a 0] w (λm b=>∃h k i l,m=.returned (.tuple #[yt h L.length k,yt i L.length l])∧ah b v8 3 1 h L.length k (ai kY L)∧ah b v8 59 9 i L.length l (ai (λD=>(so sn e s D).cells) L)∧ah b v8 178 7 (ae a) 1 1 (jr sn f e s (yt (ae d) L.length c) true)∧au (dg (ae a)) w b):=by
 refine(Ae sn f e s L E d c a v8 j F w (tq n) B).mono λm b C=>?_;obtain⟨p,t,q,u,v,x,y,z,A⟩:=C;exact⟨p,t,q,u,v,x.below o,y.below o,Ab (n.own a ⟨_,rfl,rfl⟩).1 z rfl,A.mono (λG _ r=>⟨_,rfl,r⟩)⟩
def Jy(a:Int)(b:Int)(r:aZ):av:=[i6 1,i6 a,i6 b,bO_ true,i6 r.Bf,i6 r.de,i6 r.ds,sT r.block,bO_ r.op,i6 r.ie,i6 r.is,i6 r.mask,sT r.A9]
theorem qb(e:Nat)(ya c a b:Int)(r:aZ)(w:World):aC 119 #[pt e 0,i6 ya,i6 c,.agg #[i6 1,i6 a,i6 b,bO_ true,i6 r.Bf,i6 r.de,i6 r.ds,sT r.block,bO_ r.op,i6 r.ie,i6 r.is,i6 r.mask,sT r.A9],bO_ true] w (bf (bO_ false) w):=by
 refine cH (S:=z8) (n:=46) Tryz.func119 (ab.none w _) ?_;refine z6 31 (dz 17 0x10361110103091100010008000) [10] (rE 10 tT) [(w.z,0,1),(w.z,3,1)] [y6 101,.zq 0,.code [1,1]] [⟨w.z,63,true,Jy a b r⟩] [] (w.z+1) ?_;refine B1 [] [bO_ false] [] ?_;intro f d;exact⟨rfl,d.x2⟩
def AU(a:Int)(b:Int)(r:aZ):av:=((Jy a b r).set 3 (bO_ r.used))
theorem lO(f:Nat)(ya e b c:Int)(r:aZ)(w:World):aC 119 #[pt f 0,i6 ya,i6 e,.agg #[i6 1,i6 b,i6 c,bO_ r.used,i6 r.Bf,i6 r.de,i6 r.ds,sT r.block,bO_ r.op,i6 r.ie,i6 r.is,i6 r.mask,sT r.A9],bO_ false] w (bf (bO_ false) w):=by
 refine cH (S:=z8) (n:=46) Tryz.func119 (ab.none w _) ?_;refine Aq 20 (dz 10 0x10103091100010008000) [0,1,2,4,8,10,17,21] [tT,tT,tT,tT] [(w.z,0,1),(w.z,3,1)] [.ops (Ac 24) [8,9,10,11,12],y6 25,.zq 0,.code [1,1]] ⟨[(0,pt f 0),(1,i6 ya),(2,i6 e),(4,.bool false),(8,pt w.z 0),(10,.bool false),(17,.bool true),(21,.bool r.used)],[⟨w.z,63,true,AU b c r⟩],[],w.z+1⟩ ?_;rcases fZ (r.used)with a|a
 ·skip;refine z6 14 (dz 7 1062417) [10] [eD a,eD a,tT,eD a,tT,tT] [] [y6 101,.zq 0,.code [1,1]] [⟨w.z,63,true,AU b c r⟩] [] (w.z+1) ?_;refine B1 [] [bO_ false] [] ?_;intro g d;exact⟨rfl,d.x2⟩
 ·skip;refine z6 14 (dz 7 1062656) [10] [eD a,eD a,tT,eD a,tT,tT] [] [y6 101,.zq 0,.code [1,1]] [⟨w.z,63,true,AU b c r⟩] [] (w.z+1) ?_;refine B1 [] [bO_ false] [] ?_;intro g d;exact⟨rfl,d.x2⟩
def ef(c:aL->ck)(N sn:Int)(b:List aL):List (Int×ck):=b.map λa=>((a.HZ+sn)%N,c a)
theorem x6{b:aL->ck}{N sn:Int}{a:List aL}{i:Nat}{p:aL}(h:a[i]?=some p):ef b N sn (a.take (i+1))=ef b N sn (a.take i)++[((p.HZ+sn)%N,b p)]:=by
 rw[List.take_add_one,h];simp[ef]
theorem ON{q:ck}{s:Int}(h:q.Al=s):{q with Al:=s}=q:=by subst h;rfl
theorem kV(b:aL->ck)(N sn:Int)(a:List aL):(ef b N sn a).length=a.length:=by simp[ef]
section
variable (x:am)(pb:Nat)(ya:Int)(e:World)(c1 h:Nat)(f:Value)(a:List aL)(b:aL->ck)(d:Nat)(p:aL)
def kf:av:=[i6 ((b p).kind),i6 ((b p).Al),i6 ((b p).BV),i6 ((b p).seq),i6 ((b p).mask),i6 ((b p).node),i6 ((b p).oe),i6 ((b p).os),sT ((b p).block)]
@[simp] def zX:ax:=[bh pb {x with nx:=.func (.func 112) #[pt pb 0] #[],lg:=false,ud:=pt d 0,ak:=f}]
@[simp] def zY:ax:=[bh pb {x with nx:=.func (.func 112) #[pt pb 0] #[],lg:=false,ud:=pt d 0,ak:=f},⟨e.z,59,true,kf b p⟩]
@[simp] def zZ(v1:Value)(d:Nat):ax:=[bh pb {x with nx:=.func (.func 112) #[pt pb 0] #[],lg:=false,ud:=pt d 0,ak:=v1}]
def Vt(c:CM)(pb:Nat)(v8:Nat)(ya:Int)(g:aY)(j:aY)(c1:Nat)(h:Nat)(L:List ar)(a:List aL)(b:aL->ck)(d:Nat)(l:Nat)(k:Nat)(mk:Int)(o:Int)(ts:Int)(m:Nat)(st:St)(e:World):Prop:=
 ∃(i:Nat)(f:Value)(z:Nat),m+i=a.length∧i<=a.length∧bq e v8 x.lb x.cb (HX c ya (ef b x.N x.sn (a.take i))) (L++bc ya c.last (ef b x.N x.sn (a.take i))) f∧ah e v8 178 7 (ae d) 1 1 (jr x.sn mk o ts (yt (ae l) a.length k) true)∧ah e v8 180 4 (ae l) a.length k (ai aL.cells a)∧ah e v8 3 1 g a.length c1 (ai kY a)∧ah e v8 59 9 j a.length h (ai (λn=>(b n).cells) a)∧st=⟨[(0,pt pb 0),(1,i6 ya),(4,yt g a.length c1),(21,yt j a.length h),(22,i6 ((a.length:Nat):Int)),(23,i6 (i:Int))],zX x pb f d,[],z⟩
theorem Um(i:Nat)(f:Value)(a:List aL)(b:aL->ck)(d:Nat)(p:aL)(c:Nat)(g:Nat):Out.prune [0,1,4,21,22,23,28,29,35,36] (fp prog 39 e (ao (zX x pb f d)) ((aj (aa (al f89) (Ac 1945))).toList.take 9) ⟨[(0,pt pb 0),(1,i6 ya),(4,yt (ae c) a.length c1),(6,i6 (i:Int)),(7,pt e.z 0),(21,yt (ae g) a.length h),(22,i6 ((a.length:Nat):Int)),(23,i6 (i:Int))],zY x pb e f b d p,[⟨g,0+i*9,kf b p⟩,⟨c,0+i*1,[i6 p.HZ]⟩],e.z+1⟩ [.op y2,.op y2,.op y2,.op y2,.op y2,.op HA,.op ⟨false,0,[⟨true,1,0,1⟩]⟩,.call (i6 ((p.HZ+x.sn)%x.N)),.op (oA 1 0 9)])=some ⟨[(0:Int)<=(i:Int)∧(i:Int)<((a.length:Nat):Int),∀j,fU e (ao (zX x pb f d)) (zY x pb e f b d p) [⟨g,0+i*9,kf b p⟩,⟨c,0+i*1,[i6 p.HZ]⟩] (e.z+1) j->aC 81 #[pt pb 0,i6 p.HZ] j (bf (i6 ((p.HZ+x.sn)%x.N)) j)],aX [(c,0+i*1,1),(e.z,0,9)],⟨[(0,pt pb 0),(1,i6 ya),(4,yt (ae c) a.length c1),(21,yt (ae g) a.length h),(22,i6 ((a.length:Nat):Int)),(23,i6 (i:Int)),(28,pt pb 0),(29,i6 ya),(35,i6 ((p.HZ+x.sn)%x.N)),(36,aE (kf b p))],zY x pb e f b d p,[⟨g,0+i*9,kf b p⟩,⟨c,0+i*1,[i6 p.HZ]⟩],e.z+1⟩⟩:=v7
end
theorem kW(x:am)(c:CM)(L:List ar)(e:Nat)(v8:Nat)(a:List aL)(b:aL->ck)(bd:∀g,(b g).Al=x.sn)(h q p:Nat)(mk J ts:Int)(a0:Bool)(ya:Int)(b9:3<=x.N∧x.N<=6∧1<=x.S∧x.S<=8)(hs:0<=x.sn∧x.sn<x.S)(cO:∀g∈a,0<=g.HZ∧g.HZ<x.N)(dt:a.length<=6)(bl:0<=ya∧ya<=1099511627776)(d0:0<=c.last∧c.last+6<1099511627776)(dv:L.length<=20)(cf:∀k,ah k v8 178 7 (ae h) 1 1 (jr x.sn mk J ts (yt (ae q) a.length p) a0)->ah k v8 180 4 (ae q) a.length p (ai aL.cells a)->v8<=k.z->aC 113 #[pt h 0] k (λR z=>∃K u M y,R=.returned (.tuple #[yt K a.length u,yt M a.length y])∧ah z v8 3 1 K a.length u (ai kY a)∧ah z v8 59 9 M a.length y (ai (λH=>(b H).cells) a)∧ah z v8 178 7 (ae h) 1 1 (jr x.sn mk J ts (yt (ae q) a.length p) true)∧au (dg (ae h)) k z))(w:World)(b7:aP w v8 e ({x with ud:=(pt h 0)}) c L)(cL:ah w v8 178 7 (ae h) 1 1 (jr x.sn mk J ts (yt (ae q) a.length p) a0))(cK:ah w v8 180 4 (ae q) a.length p (ai aL.cells a))(a4:v8<=w.z):aC 89 #[pt e 0,i6 ya] w (λR z=>R=Jx∧aP z v8 e ({x with nx:=.func (.func 112) #[pt e 0] #[],lg:=false,ud:=pt h 0}) (HX c ya (ef b x.N x.sn a)) (L++bc ya c.last (ef b x.N x.sn a))∧ah z v8 178 7 (ae h) 1 1 (jr x.sn mk J ts (yt (ae q) a.length p) true)∧ah z v8 180 4 (ae q) a.length p (ai aL.cells a)∧au (be [141,178] v8 x.lb e x.cb w) w z):=by
 obtain⟨v,a8,b6⟩:=b7;have a3:=aw a8;refine cH (S:=(λl=>l=e)) (n:=39) func89 (ab.D1 a8) ?_;refine z6 8 (dz 3 0) [0,1,8,10] [] [] [.ops [0] [3],.code [1]] [bh e {x with ud:=pt h 0,ak:=v}] [] w.z ?_;refine Ip (w:=w) (S':=bL [141,178] v8 x e w) (Y:=Value) (λs=>.tuple #[]) (λs=>zZ x e s h) (λs o=>bq o v8 x.lb x.cb ({c with zL:=[]}) L s∧ah o v8 178 7 (ae h) 1 1 (jr x.sn mk J ts (yt (ae q) a.length p) a0)∧ah o v8 180 4 (ae q) a.length p (ai aL.cells a)) (v7:_=some (53,[pt e 0,.func (.func 112) #[pt e 0] #[]],some 11,[])) tI (λk d=>?_) (λs b2 cs aR=>?_)
 ·have C:=(d.wide (S':=bL [141,178] v8 x e w) (λ_ E=>.inl E));have U:=(b6.y4 (es:=[98]) d.x2 (λl m=>by subst m;exact⟨98,z1,a3⟩) rfl rfl rfl);have Q:=(cL.y4 (es:=[98]) d.x2 (λl m=>by subst m;exact⟨98,z1,a3⟩) rfl);have ac:=(cK.y4 (es:=[98]) d.x2 (λl m=>by subst m;exact⟨98,z1,a3⟩) rfl);have V:aP k v8 e ({x with ud:=pt h 0,ak:=v}) c L:=⟨_,d.at_ 0 rfl,U⟩;refine(fR (.func 112) #[pt e 0] #[] V).mono λR z ak=>?_;obtain⟨ad,⟨a1,a2,a5⟩,t⟩:=ak;have r:=V.T' (es:=[]);exact⟨a1,ad,⟨a5,Q.y4 t r rfl,ac.y4 t r rfl⟩,C.HS t (bv C.x2 rfl) a2 (bQ d r rfl)⟩
 obtain⟨cl,cR,cP⟩:=cs;refine z6 11 (dz 5 5436342272) [0,1,17] [] [(e,68,1)] [.ops [1,0] [5,6,7,8,9,10],.code [1,1]] (zZ x e s h) [] b2.z ?_;refine Ip (w:=w) (S':=bL [141,178] v8 x e w) (Y:=Option Addr×Nat×aO) (λA=>.tuple #[yt A.1 a.length A.2.1,yt A.2.2.1 a.length A.2.2.2]) (λA=>zZ x e s h) (λA o=>bq o v8 x.lb x.cb ({c with zL:=[]}) L s∧ah o v8 178 7 (ae h) 1 1 (jr x.sn mk J ts (yt (ae q) a.length p) true)∧ah o v8 180 4 (ae q) a.length p (ai aL.cells a)∧ah o v8 3 1 A.1 a.length A.2.1 (ai kY a)∧ah o v8 59 9 A.2.2.1 a.length A.2.2.2 (ai (λH=>(b H).cells) a)) (v7:_=some (113,[pt h 0],some 18,[])) tI (λk d=>?_) (λA aV cA W=>?_)
 ·have C:=(ab.A0 aR d);have aq:v8<=k.z:=az a4 C.x2.size;have U:=(cl.kT d aR);have Q:=(cR.kT d aR);have ac:=(cP.kT d aR);refine(cf k Q ac aq).mono λR z ak=>?_;obtain⟨K,u,M,y,ad,da,c9,db,t⟩:=ak;have r:∀l,dg (ae h) l->cI [178] k l:=λl m=>⟨178,z1,Q.ty l m⟩;exact⟨(K,u,M,y),ad,⟨U.y4 t r rfl rfl rfl,db,ac.y4 t r rfl,da,c9⟩,C.A3 (λ_ E=>E) t (λl m=>zk C.x2 (Q.own l m).1 (r l m) rfl) (bI d r rfl)⟩
 obtain⟨K,u,M,y⟩:=A;obtain⟨cm,c2,c1,c0,cU⟩:=cA;refine Aq 16 (dz 8 0) [0,1,4,21,22,23] [] [] [y6 30,.zq 0] ⟨[(0,pt e 0),(1,i6 ya),(4,yt K a.length u),(21,yt M a.length y),(22,i6 ((a.length:Nat):Int)),(23,i6 0)],zZ x e s h,[],aV.z⟩ ?_;have cn:bq aV v8 x.lb x.cb (HX c ya (ef b x.N x.sn [])) (L++bc ya c.last (ef b x.N x.sn [])) s:=by
  have P:({c with zL:=[]}:CM)=HX c ya (ef b x.N x.sn []):=Aa c ya;have O:(L:List ar)=L++bc ya c.last (ef b x.N x.sn []):=by simp[ef,bc]
  rw[<-P,<-O];exact cm
 have co:bq aV v8 x.lb x.cb (HX c ya (ef b x.N x.sn (a.take 0))) (L++bc ya c.last (ef b x.N x.sn (a.take 0))) s:=by
  have P:(HX c ya (ef b x.N x.sn []):CM)=HX c ya (ef b x.N x.sn (a.take 0)):=rfl;have O:(L++bc ya c.last (ef b x.N x.sn []):List ar)=L++bc ya c.last (ef b x.N x.sn (a.take 0)):=rfl;rw[<-P,<-O];exact cn
 refine bm (w:=w) (S':=bL [141,178] v8 x e w) (Vt x c e v8 ya K M u y L a b h q p mk J ts) a.length v7 (λdf d=>⟨⟨0,s,_,yq,yq,co.kT d W,c2.kT d W,c1.kT d W,c0.kT d W,cU.kT d W,rfl⟩,ab.A0 W d⟩) ?_;rintro b1 _ F ⟨i,T,de,d2,d3,bg,bt,bs,an,Z,rfl⟩ B a6 b5;by_cases b4:i<a.length
 rotate_left
 ·skip;have cp:bq F v8 x.lb x.cb (HX c ya (ef b x.N x.sn a)) (L++bc ya c.last (ef b x.N x.sn a)) T:=by
   have P:(HX c ya (ef b x.N x.sn (a.take i)):CM)=HX c ya (ef b x.N x.sn a):=by rw[eX yq]
   have O:(L++bc ya c.last (ef b x.N x.sn (a.take i)):List ar)=L++bc ya c.last (ef b x.N x.sn a):=by rw[eX yq]
   rw[<-P,<-O];exact bg
  refine Aq 10 (dz 2 0) [] [dF (((i:Int):Int)<((a.length:Nat):Int))] [] [] ⟨[],zX x e T h,[],F.z⟩ ?_;refine bN [] (v7:_=some ([],aX [])) ?_;intro k d;exact⟨rfl,⟨_,d.at_ 0 rfl,cp.kT d B⟩,bt.kT d B,bs.kT d B,(ab.A0 B d).x2⟩
 obtain⟨g,N⟩:∃g,a[i]?=some g:=⟨_,cx b4⟩;have d1:=cO g (aS N);have cC:=λl m=>(Z.own l m).2;obtain⟨G,rfl,_⟩:=ah.cell (j:=i*1+0) (v:=i6 g.HZ) an (ff (f:=kY) (λ_=>rfl) N (by decide));obtain⟨D,rfl,_⟩:=ah.cell (j:=i*9+0) (v:=i6 ((b g).kind)) Z (ff (f:=(λH=>(b H).cells)) (λ_=>rfl) N (by decide));refine aD [⟨D,0+i*9,kf b g⟩,⟨G,0+i*1,[i6 g.HZ]⟩] (λ_ l m=>?_) ?_
 ·simp only[bj,cv,or_false]at m;rcases m with rfl|rfl
  ·exact⟨λE=>aN rfl (Z.ty D ⟨_,rfl,rfl⟩) (ag B _ E),(Z.own D ⟨_,rfl,rfl⟩).2,dj (f:=(λH=>(b H).cells)) (λ_=>rfl) Z N⟩
  ·exact⟨λE=>aN rfl (an.ty G ⟨_,rfl,rfl⟩) (ag B _ E),(an.own G ⟨_,rfl,rfl⟩).2,dj (f:=kY) (λ_=>rfl) an N⟩
 refine Aq 21 [y2,FN,y2,HA,⟨false,0,[⟨true,0,0,9⟩]⟩,y2,y2,oA 1 0 9] [0,1,4,6,7,21,22,23] [dT (((i:Int):Int)<((a.length:Nat):Int)),oE ((0:Int)<=(i:Int)∧(i:Int)<((a.length:Nat):Int))] [(D,0+i*9,9),(F.z,0,9)] [y6 1945,.zq 1,y6 487,.inv a6,.zq 0] ⟨[(0,pt e 0),(1,i6 ya),(4,yt (ae G) a.length u),(6,i6 (i:Int)),(7,pt F.z 0),(21,yt (ae D) a.length y),(22,i6 ((a.length:Nat):Int)),(23,i6 (i:Int))],zY x e F T b h g,[⟨D,0+i*9,kf b g⟩,⟨G,0+i*1,[i6 g.HZ]⟩],F.z+1⟩ ?_;refine eT (f:=1) (ls:=bA 10 511) 9 _ _ v7 v7 v7 v7 (Um x e ya F u y i T a b h g G D) ⟨⟨yq,yq⟩,(λk d=>qa ({x with nx:=.func (.func 112) #[pt e 0] #[],lg:=false,ud:=pt h 0,ak:=T}) e g.HZ b9 hs yq k (d.2.at_ 0 rfl)),trivial⟩ λcb bk=>?_;replace bk:F.z+1<=cb:=bk;refine aD [] (λ_ _ E=>by cases E) ?_;refine em (i:=9) (ls':=bA 10 1023) (w:=w) (S':=bL [141,178] v8 x e w) (Y:=Value) (λI=>.tuple #[]) (λI=>[bh e {x with nx:=.func (.func 112) #[pt e 0] #[],lg:=false,ud:=pt h 0,ak:=I},⟨F.z,59,true,kf b g⟩]) (λI o=>bq o v8 x.lb x.cb (d6 (HX c ya (ef b x.N x.sn (a.take i))) ya ((g.HZ+x.sn)%x.N) { b g with Al:=x.sn}) ((L++bc ya c.last (ef b x.N x.sn (a.take i)))++[⟨(g.HZ+x.sn)%x.N,(HX c ya (ef b x.N x.sn (a.take i))).last+1,{ b g with Al:=x.sn},af ya,af ya⟩]) I∧ah o v8 178 7 (ae h) 1 1 (jr x.sn mk J ts (yt (ae q) a.length p) true)∧ah o v8 180 4 (ae q) a.length p (ai aL.cells a)∧ah o v8 3 1 (ae G) a.length u (ai kY a)∧ah o v8 59 9 (ae D) a.length y (ai (λH=>(b H).cells) a)) (λI=>[(37,.tuple #[]),(0,pt e 0),(1,i6 ya),(4,yt (ae G) a.length u),(21,yt (ae D) a.length y),(22,i6 ((a.length:Nat):Int)),(23,i6 (i:Int)),(28,pt e 0),(29,i6 ya),(35,i6 ((g.HZ+x.sn)%x.N)),(36,aE (kf b g))]) v7 v7 (v7:_=some (55,[pt e 0,i6 ya,i6 ((g.HZ+x.sn)%x.N),aE (kf b g)],some 37,[])) tI (λ_=>rfl) (λk d=>?_) (λI a7 cB X=>?_)
 ·have C:=(ab.A0 B d);have aq:v8<=k.z:=az a4 C.x2.size;have U:=(bg.kT d B);have Q:=(bt.kT d B);have ac:=(bs.kT d B);have c7:=(an.kT d B);have c6:=(Z.kT d B);have V:aP k v8 e ({x with nx:=.func (.func 112) #[pt e 0] #[],lg:=false,ud:=pt h 0,ak:=T}) (HX c ya (ef b x.N x.sn (a.take i))) (L++bc ya c.last (ef b x.N x.sn (a.take i))):=⟨_,d.at_ 0 rfl,U⟩;refine(gT ya ((g.HZ+x.sn)%x.N) (b g) V ⟨by simp only[HX,dL,kV,dZ];omega,by simp only[HX,kV,dZ];omega,eY _ yq,Int.lt_trans (gy _ yq) yq⟩ (by simp only[bM,dL,kV,dZ];omega) aq).mono λR z ak=>?_;obtain⟨ad,⟨a1,a2,a5⟩,t⟩:=ak;have r:=V.T' (es:=[141]);exact⟨a1,ad,⟨a5,Q.y4 t r rfl,ac.y4 t r rfl,c7.y4 t r rfl,c6.y4 t r rfl⟩,C.HS t (bv C.x2 rfl) a2 (bQ d r rfl)⟩
 obtain⟨cq,c5,c4,c3,b0⟩:=cB;refine cd v7 ?_;have cr:bq a7 v8 x.lb x.cb (HX c ya (ef b x.N x.sn (a.take (i+1)))) (L++bc ya c.last (ef b x.N x.sn (a.take (i+1)))) I:=by
  have P:(d6 (HX c ya (ef b x.N x.sn (a.take i))) ya ((g.HZ+x.sn)%x.N) { b g with Al:=x.sn}:CM)=HX c ya (ef b x.N x.sn (a.take (i+1))):=by rw[ON (bd g),kZ c _ _ _ bl,x6 N]
  have O:((L++bc ya c.last (ef b x.N x.sn (a.take i)))++[⟨(g.HZ+x.sn)%x.N,(HX c ya (ef b x.N x.sn (a.take i))).last+1,{ b g with Al:=x.sn},af ya,af ya⟩]:List ar)=L++bc ya c.last (ef b x.N x.sn (a.take (i+1))):=by rw[ON (bd g),k7 c _ _ _ L bl,x6 N]
  rw[<-P,<-O];exact cq
 refine di (f:=8) (hs:=[HA,y2]) [0,1,4,21,22,23] [true,false] (v7:_=some (Res.mk [T0 .i64 ((i:Int)+1)] (aX []) [.inv a6,.zq 0] ⟨[(0,pt e 0),(1,i6 ya),(4,yt (ae G) a.length u),(21,yt (ae D) a.length y),(22,i6 ((a.length:Nat):Int)),(23,i6 ((i:Int)+1))],[bh e {x with nx:=.func (.func 112) #[pt e 0] #[],lg:=false,ud:=pt h 0,ak:=I}],[],a7.z⟩)) ⟨i0 yq,trivial⟩ ?_;rw[<-aW i];intro b3 ca b8 d;exact b5 (b1-1) _ b3 ca yq ⟨i+1,I,_,yq,yq,cr.kT d X,c5.kT d X,c4.kT d X,c3.kT d X,(b0.x2 d.x2 (λl m ⟨dd,a9,du,bb⟩=>by
  have ds:=cC l m;simp only[bj,cv,or_false]at a9;rcases a9 with rfl|rfl
  ·exact eo (b0.ty l m) bb (aw (X.at_ 0 rfl)) rfl
  ·dsimp only at bb;omega)),rfl⟩ b8 (ab.A0 X d)
section
variable (x:am)(pb:Nat)(w:World)(v:Value)(c:Nat)(a b:Int)(q:ck)(r:aZ)
def Un:av:=(q.cells)
def Uo:av:=([i6 1,i6 a,i6 b]++r.cells)
@[simp] def ig:ax:=[bh pb {x with ud:=pt c 0,ak:=v},⟨w.z,59,true,Un q⟩,⟨w.z+1,63,true,Uo a b r⟩]
theorem Up(ya:Int)(w:World)(v:Value)(i:Nat)(c:Nat)(f:Int)(a:Int)(b:Int)(q:ck)(r:aZ)(z2:Nat):Out.prune [0,1,19,22,24,26] (fp prog 49 w (λd=>d=pb) ((aj (aa (al f112) (Ac 14))).toList.take 12) ⟨[(0,pt pb 0),(1,i6 ya),(2,i6 f),(8,pt w.z 0),(9,pt (w.z+1) 0)],ig x pb w v c a b q r,[],z2⟩ [.op y2,.op y2,.op y2,.op y2,.op (oA 0 68 1),.op y2,.op y2,.call (i6 (i:Int)),.op y2,.op (oA 1 0 1),.op y2,.op (oA 2 0 1)])=some ⟨[∀e,fU w (λd=>d=pb) (ig x pb w v c a b q r) [] z2 e->aC 46 #[pt pb 0,i6 f] e (bf (i6 (i:Int)) e)],aX [(pb,68,1),(w.z,0,1),(w.z+1,0,1)],⟨[(0,pt pb 0),(1,i6 ya),(19,pt c 0),(22,i6 (i:Int)),(24,i6 q.kind),(26,i6 1)],ig x pb w v c a b q r,[],z2⟩⟩:=v7
end
theorem xk(x:am)(c:CM)(L:List ar)(b:Nat)(v8:Nat)(E:aI)(an:∀w o,E w->au z8 w o->E o)(h y:List aL)(a0:y.length=h.length)(cb:h.length<=6)(e m s i:Nat)(mk G ts:Int)(F:Bool)(ya A j k:Int)(q:ck)(r:aZ)(a8:3<=x.N∧x.N<=6∧1<=x.S∧x.S<=8)(hs:0<=x.sn∧x.sn<x.S)(b0:0<=A∧A<x.N)(b1:(A+x.N-x.sn%x.N)%x.N=(i:Int))(ca:∀a,ah a v8 178 7 (ae e) 1 1 (jr x.sn mk G ts (yt (ae m) h.length s) F)->ah a v8 180 4 (ae m) h.length s (ai aL.cells h)->aC 123 #[pt e 0,i6 (i:Int),i6 q.kind,i6 1] a (λz o=>z=Jx∧ah o v8 180 4 (ae m) h.length s (ai aL.cells y)∧au (dg (ae m)) a o))(b8:c.zL.length≠0->∀a,aP a v8 b ({x with ud:=(pt e 0)}) c L->ah a v8 178 7 (ae e) 1 1 (jr x.sn mk G ts (yt (ae m) h.length s) F)->ah a v8 180 4 (ae m) h.length s (ai aL.cells y)->E a)(b7:c.zL.length=0->(dA y 2=1∧∀a,aP a v8 b ({x with ud:=(pt e 0)}) c L->ah a v8 178 7 (ae e) 1 1 (jr x.sn mk G ts (yt (ae m) h.length s) F)->ah a v8 180 4 (ae m) h.length s (ai aL.cells y)->v8<=a.z->aC 89 #[pt b 0,i6 ya] a (λz o=>z=Jx∧E o∧au (be [141,178] v8 x.lb b x.cb a) a o))∨(dA y 2=2∧(0<=x.ed∧x.ed<1099511627776)∧∀a,aP a v8 b (({x with ud:=(pt e 0)}).ended 0 ⟨#[]⟩) {c with zL:=[]} L->(∀b6,bO 124 141 a b6 x.cb {c with zL:=[]})->E a))(w:World)(a7:aP w v8 b ({x with ud:=(pt e 0)}) c L)(b5:ah w v8 178 7 (ae e) 1 1 (jr x.sn mk G ts (yt (ae m) h.length s) F))(b4:ah w v8 180 4 (ae m) h.length s (ai aL.cells h))(ac:v8<=w.z):aC 112 #[pt b 0,i6 ya,i6 A,.agg #[i6 q.kind,i6 q.Al,i6 q.BV,i6 q.seq,i6 q.mask,i6 q.node,i6 q.oe,i6 q.os,sT q.block],.agg #[i6 1,i6 j,i6 k,bO_ r.used,i6 r.Bf,i6 r.de,i6 r.ds,sT r.block,bO_ r.op,i6 r.ie,i6 r.is,i6 r.mask,sT r.A9]] w (λz o=>z=Jx∧E o∧au (be [141,178,180] v8 x.lb b x.cb w) w o):=by
 obtain⟨g,aq,a6⟩:=a7;have Z:=aw aq;refine cH (S:=(λp=>p=b)) (n:=49) func112 (ab.D1 aq) ?_;refine z6 15 (dz 6 0xd002800000) [0,1,2,8,9,10,11,12,13] [] [(w.z+1,0,13)] [.ops (Ac 12) [4],y6 13,.code [1,1]] (ig x b w g e j k q r) [] (w.z+2) ?_;refine DV (bO_ false) _ _ (some 14) [] tI rfl (λa d=>lO b ya A j k r a) λX cf=>?_;refine Aq 7 [y2] [0,1,2,8,9] [fF] [] [y6 14,y6 15] ⟨[(0,pt b 0),(1,i6 ya),(2,i6 A),(8,pt w.z 0),(9,pt (w.z+1) 0)],ig x b w g e j k q r,[],X⟩ ?_;refine eT (f:=1) (ls:=bA 13 4095) 12 _ _ v7 v7 v7 v7 (Up x b ya w g i e A j k q r X) ⟨(λa d=>by rw[<-b1];exact lM ({x with ud:=pt e 0,ak:=g}) b A a8 hs b0 a (d.2.at_ 0 rfl)),trivial⟩ λa9 a2=>?_;replace a2:X<=a9:=a2;refine em (i:=12) (ls':=bA 13 8191) (w:=w) (S':=be [141,178,180] v8 x.lb b x.cb w) (Y:=Unit) (λ_=>.tuple #[]) (λ_=>ig x b w g e j k q r) (λ_ B=>bq B v8 x.lb x.cb c L g∧ah B v8 178 7 (ae e) 1 1 (jr x.sn mk G ts (yt (ae m) h.length s) F)∧ah B v8 180 4 (ae m) h.length s (ai aL.cells y)) (λ_=>[(27,.tuple #[]),(0,pt b 0),(1,i6 ya),(19,pt e 0),(22,i6 (i:Int)),(24,i6 q.kind),(26,i6 1)]) v7 v7 (v7:_=some (123,[pt e 0,i6 (i:Int),i6 q.kind,i6 1],some 27,[])) tI (λ_=>rfl) (λa d=>?_) (λaR V bl l=>?_)
 ·have u:=(d.wide (S':=bL [141,178,180] v8 x b w) (λ_ t=>.inl t));have H:=(a6.y4 (es:=[98]) d.x2 (λp v=>by subst v;exact⟨98,z1,Z⟩) rfl rfl rfl);have M:=(b5.y4 (es:=[98]) d.x2 (λp v=>by subst v;exact⟨98,z1,Z⟩) rfl);have I:=(b4.y4 (es:=[98]) d.x2 (λp v=>by subst v;exact⟨98,z1,Z⟩) rfl);refine(ca a M I).mono λz o K=>?_;obtain⟨J,b9,D⟩:=K;have O:∀p,dg (ae m) p->cI [180] a p:=λp v=>⟨180,z1,I.ty p v⟩;exact⟨(),J,⟨H.y4 D O rfl rfl rfl,M.y4 D O rfl,b9⟩,u.A3 (λ_ t=>t) D (λp v=>zk u.x2 (I.own p v).1 (O p v) rfl) (bI d O rfl)⟩
 obtain⟨N,T,R⟩:=bl;refine cd v7 ?_;refine Aq 10 (dz 4 270565376) [0,1,31] [] [(b,2,1)] [.ops (Ac 60) [4,5],y6 61,y6 31] ⟨[(0,pt b 0),(1,i6 ya),(31,pt x.cb 0)],ig x b w g e j k q r,[],V.z⟩ ?_;refine DV (i6 (c.zL.length:Int)) _ _ (some 32) [] tI rfl (λa d=>i5 (N.kT d l).1) λaV cl=>?_;by_cases a1:c.zL.length=0
 rotate_left
 ·skip;refine z6 6 [y2,FN] [0,1] [dT (((c.zL.length:Int):Int)>0)] [] [y6 122,y6 31] (ig x b w g e j k q r) [] aV ?_;refine B1 [] [] [] ?_;intro a d;exact⟨rfl,b8 a1 _ ⟨_,d.at_ 0 rfl,N.kT d l⟩ (T.kT d l) (R.kT d l),(ab.A0 l d).x2⟩
 refine Aq 14 (dz 7 0x14408000000) [0,1,38] [dF (((c.zL.length:Int):Int)>0)] [(b,68,1)] [.ops (Ac 62) [5],y6 63] ⟨[(0,pt b 0),(1,i6 ya),(38,pt e 0)],ig x b w g e j k q r,[],aV⟩ ?_;refine DV (i6 (dA y 2)) _ _ (some 39) [] tI rfl (λa d=>k8 x.sn mk G ts y yq m s e v8 F a (tq (a0▸(T.kT d l))) (a0▸(R.kT d l))) λQ cm=>?_;rcases b7 a1 with⟨ak,W⟩|⟨ak,bt,W⟩
 ·rw[ak];change aF _ _ _ _ V (ao (ig x b w g e j k q r)) _ [.ops (Ac 62) [],y6 63] ⟨[(39,i6 1),(0,pt b 0),(1,i6 ya),(38,pt e 0)],ig x b w g e j k q r,[],Q⟩;refine z6 14 (dz 5 256) [42,43] [tT] [] [.ops (Ac 506) [2],.zq 0] (ig x b w g e j k q r) [] Q ?_;refine Ip (w:=w) (S':=be [141,178,180] v8 x.lb b x.cb w) (Y:=Unit) (λ_=>.tuple #[]) (λ_=>[]) (λ_ B=>E B) (v7:_=some (89,[pt b 0,i6 ya],some 44,[])) tI (λa d=>?_) (λaR a4 bd b2=>?_)
  ·have u:=(ab.A0 l d);have ad:v8<=a.z:=az ac u.x2.size;have H:=(N.kT d l);have M:=(T.kT d l);have I:=(R.kT d l);have P:aP a v8 b ({x with ud:=pt e 0,ak:=g}) c L:=⟨_,d.at_ 0 rfl,H⟩;refine(W a P M I ad).mono λz o K=>?_;obtain⟨J,bk,D⟩:=K;exact⟨(),J,bk,u.none_.A3 (λ_ t=>t) D (bv u.x2 rfl) (λU C=>by cases C)⟩
  refine Aq 5 [] [] [] [] [] ⟨[],[],[],a4.z⟩ ?_;refine bN [] (v7:_=some ([],aX [])) ?_;intro a d;exact⟨rfl,an _ _ bd (d.x2.mono (λa3 _ t=>by obtain⟨U,C,_⟩:=t;cases C)),(ab.A0 b2 d).x2⟩
 ·rw[ak];change aF _ _ _ _ V (ao (ig x b w g e j k q r)) _ [.ops (Ac 62) [],y6 63] ⟨[(39,i6 2),(0,pt b 0),(1,i6 ya),(38,pt e 0)],ig x b w g e j k q r,[],Q⟩;refine z6 19 (dz 7 1048576) [47] [fF,tT] [] [.ops (Ac 2030) [1],.zq 0] (ig x b w g e j k q r) [] Q ?_;refine Ip (w:=w) (S':=be [141,178,180] v8 x.lb b x.cb w) (Y:=Unit) (λ_=>.tuple #[]) (λ_=>[]) (λ_ B=>E B) (v7:_=some (47,[pt b 0,i6 0,sT ⟨#[]⟩],some 48,[])) tI (λa d=>?_) (λaR a5 bg b3=>?_)
  ·have u:=(ab.A0 l d);have H:=(N.kT d l);have P:aP a v8 b ({x with ud:=pt e 0,ak:=g}) c L:=⟨_,d.at_ 0 rfl,H⟩;refine(qd ({x with ud:=pt e 0,ak:=g}) c L b v8 0 ⟨#[]⟩ bt a P).mono λz o K=>?_;obtain⟨J,bs,bb,D⟩:=K;exact⟨(),J,W _ bs bb,u.none_.A3 (λ_ t=>t) D (bv u.x2 rfl) (λU C=>by cases C)⟩
  refine Aq 5 [] [] [] [] [] ⟨[],[],[],a5.z⟩ ?_;refine bN [] (v7:_=some ([],aX [])) ?_;intro a d;exact⟨rfl,an _ _ bg (d.x2.mono (λa3 _ t=>by obtain⟨U,C,_⟩:=t;cases C)),(ab.A0 b3 d).x2⟩
section
variable (x:am)(pb:Nat)(w:World)(v:Value)(i:Nat)(fr a b:Int)(q:ck)(r:aZ)(_:Unit)
def Ge:av:=[i6 2,i6 q.Al,i6 q.BV,i6 q.seq,i6 q.mask,i6 q.node,i6 q.oe,i6 q.os,sT q.block]
def Gf:av:=[i6 1,i6 a,i6 b,bO_ true,i6 r.Bf,i6 r.de,i6 r.ds,sT r.block,bO_ r.op,i6 r.ie,i6 r.is,i6 r.mask,sT r.A9]
@[simp] def zQ:ax:=[bh pb {x with ak:=v},⟨w.z,59,true,Ge q⟩,⟨w.z+1,63,true,Gf a b r⟩]
@[simp] def oU:ax:=[bh pb {x with bl:=Ym x.bl i r.block,ak:=v},⟨w.z,59,true,Ge q⟩,⟨w.z+1,63,true,Gf a b r⟩]
def Sj:bu:=[(0,pt pb 0),(2,i6 fr),(9,pt (w.z+1) 0),(10,bO_ false)]
def I2(_:Unit):List (Option Value):=[some (pt pb 0),some (pt pb 0),some (i6 fr),some (i6 (i:Int)),some (pt (w.z+1) 3),some (pt (w.z+1) 7),some (sT r.block),some (pt pb 0),some (pt pb 44),some (pt pb 62),some (.pointer (some ⟨pb,62+(Int.toNat (i:Int))*1,none⟩)),some (.tuple #[])]
def I3(_:Unit)(k:Nat):Bool:=(fL 12 [])[k]?.getD true
def zR(_:Unit):List (ax):=[zQ x pb w v a b q r,oU x pb w v i a b q r]
abbrev zS(x:am)(c:CM)(v8:Nat)(v:Value)(L:List ar)(b:Nat)(_:Unit)(a:World):Prop:=match b with|0=>bq a v8 x.lb x.cb c L v|1=>bq a v8 x.lb x.cb c L v|_=>True
def tu(c:CM)(pb:Nat)(v8:Nat)(w:World)(v:Value)(L:List ar)(i:Nat)(fr:Int)(a:Int)(b:Int)(q:ck)(r:aZ)(z2:Nat)(f:Nat):Prop:=cY prog f105 [1,1,1,0,1,0] 39 [] (bodyPost prog f105 (λe d=>e=.returned (bO_ ((c.zL.length:Int)==0))∧aP d v8 pb ({x with bl:=Ym x.bl i r.block}) c L∧au (be [] v8 x.lb pb x.cb w) w d)) [y6 31] (Sj pb w fr) (V7 12 [11]) 1 (I2 pb w i fr r) I3 w (be [] v8 x.lb pb x.cb w) (zR x pb w v i a b q r) z2 (zS x c v8 v L) f
end
theorem xi(x:am)(c:CM)(L:List ar)(a:Nat)(v8:Nat)(i:Nat)(ya h d g:Int)(q:ck)(r:aZ)(U:3<=x.N∧x.N<=6∧1<=x.S∧x.S<=8)(hs:0<=x.sn∧x.sn<x.S)(a1:i<6)(Z:0<=h∧h<x.N)(ac:(h+x.N-x.sn%x.N)%x.N=(i:Int))(w:World)(T:aP w v8 a x c L):aC 105 #[pt a 0,i6 ya,i6 h,.agg #[i6 2,i6 q.Al,i6 q.BV,i6 q.seq,i6 q.mask,i6 q.node,i6 q.oe,i6 q.os,sT q.block],.agg #[i6 1,i6 d,i6 g,bO_ true,i6 r.Bf,i6 r.de,i6 r.ds,sT r.block,bO_ r.op,i6 r.ie,i6 r.is,i6 r.mask,sT r.A9]] w (λM p=>M=.returned (bO_ ((c.zL.length:Int)==0))∧aP p v8 a ({x with bl:=Ym x.bl i r.block}) c L∧au (be [] v8 x.lb a x.cb w) w p):=by
 obtain⟨v,F,R⟩:=T;have X:=aw F;refine cH (S:=(λC=>C=a)) (n:=39) func105 (ab.D1 F) ?_;refine z6 24 (dz 12 0xd0028000000100180000) [0,2,9,10,11,15,16,17,18,19] [] [(w.z,0,1),(w.z+1,0,13)] [.ops (Ac 28) [5],y6 29,y6 15] (zQ x a w v d g q r) [] (w.z+2) ?_;refine DV (bO_ false) _ _ (some 20) [] tI rfl (λm e=>qb a ya h d g r m) λu a2=>?_;refine Aq 12 (dz 3 256) [0,2,9,10] [fF,tT] [] [y6 122,y6 31] ⟨[(0,pt a 0),(2,i6 h),(9,pt (w.z+1) 0),(10,bO_ false)],zQ x a w v d g q r,[],u⟩ ?_;have K:eh w (bL [] v8 x a w) (zR x a w v i d g q r) (zS x c v8 v L):=by
  intro z b m p D j e k H
  match z,j,k with
  |0,j,k=>
   obtain rfl:=ap j;exact(k.kU H e)
  |1,j,k=>
   obtain rfl:=ap j;exact(k.kU H e)
  |z+2,j,k=>exact trivial
 have aq:tu x c a v8 w v L i h d g q r u 3:=eO (B:=0) (f:=46) (args:=λb=>[pt a 0,i6 h]) (ob:=λb=>[]) (λb=>i6 (i:Int)) v7 (.inr ⟨11,by kernel_rfl,aS (i:=2) v7⟩) (λb=>v7) (λb=>v7) (λb=>v7) (λb=>trivial) (λz b m D aV j e k=>by
   obtain rfl:z=0:=by omega
   obtain rfl:(zQ x a w v d g q r)=D:=ap j;rw[<-ac];exact lM ({x with ak:=v}) a h U hs Z m (e.at_ 0 rfl)) K
 have aR:tu x c a v8 w v L i h d g q r u 11:=V8 (s:=0) (x:=λb=>Instr.storeAt 9 (.pointer (some ⟨a,62+(Int.toNat (i:Int))*1,none⟩)) (sT r.block)) (λ(b:Unit)(_:Unit)=>b) (λb m D j e k a6=>by
  obtain rfl:=ap j;obtain⟨p,Q,W,J,ad⟩:=cG (P:=prog) (t:=9) (v:=sT r.block) (cs':=am.cells {x with bl:=Ym x.bl i r.block,ak:=v}) v7 (e.at_ 0 rfl) rfl (by show(62+(Int.toNat (i:Int))*1)+1<=73;omega) (aU rfl) (by have G:=OL (i:=i) ({x with ak:=v}) yq r.block;rw[show 62+i=62+(Int.toNat (i:Int))*1 by omega]at G;exact G);exact⟨(),p,Q,rfl,(k.y4 (es:=[98]) J (λC E=>by subst E;exact⟨98,z1,aw (e.at_ 0 rfl)⟩) rfl rfl rfl),(e.PA 0 rfl rfl J W).2,bC ad.symm⟩)
 have an:∀O∈(f5 1 [0,1,2,4,5,7,8,9]++[⟨6,1,oA 2 7 1,λ_=>[],λ_=>[(w.z+1,7,1)]⟩,⟨10,1,HA,λ_=>[oE ((0:Int)<=(i:Int)∧(i:Int)<((6:Nat):Int))],λ_=>[]⟩]:List (fG (Unit))),tu x c a v8 w v L i h d g q r u O.i:=bp _ K (λb=>v7) v7 (λb a0=>v7);have ak:∀I,I<12->tu x c a v8 w v L i h d g q r u I:=f6 (l:=[3,11]) v7 an ⟨aq,aR,trivial⟩;refine bD (Δ:=Unit) (bL [] v8 x a w) (I2 a w i h r) I3 (zR x a w v i d g q r) (zS x c v8 v L) [0,10] (λb=>[(0,pt a 0),(10,bO_ false)]) (λb=>oU x a w v i d g q r) () (λ_ N=>.inl N) v7 v7 v7 (λm e=>(R.y4 (es:=[98]) e.x2.drew (λC E=>by subst E;exact⟨98,z1,X⟩) rfl rfl rfl)) v7 ak (λb=>v7) (λb=>v7) (λb o a4 Y a5 y=>?_);have A:=Y;replace A:bq o v8 x.lb x.cb c L v:=A;replace y:ab w (bL [] v8 x a w) (oU x a w v i d g q r) [] o.z o:=y;change aF _ _ _ _ o (ao (oU x a w v i d g q r)) _ [y6 31] ⟨[(0,pt a 0),(10,bO_ false)],oU x a w v i d g q r,[],o.z⟩;refine z6 9 (dz 4 270565376) [10,36] [] [(a,2,1)] [.ops (Ac 62) [4,5,6],y6 63] (oU x a w v i d g q r) [] o.z ?_;refine DV (i6 (c.zL.length:Int)) _ _ (some 37) [] tI rfl (λm e=>i5 (A.kT e y).1) λV a3=>?_;refine z6 6 (dz 2 0) [10] [] [] [y6 63] (oU x a w v i d g q r) [] V ?_;refine B1 [] [bO_ ((c.zL.length:Int)==0)] [] ?_;intro m e;exact⟨rfl,⟨_,e.at_ 0 rfl,A.kT e y⟩,(ab.A0 y e).x2⟩
def Ul(q:ck):av:=((Ge q).set 0 (i6 q.kind))
def OM(a:Int)(b:Int)(r:aZ):av:=((Gf a b r).set 3 (bO_ r.used))
@[simp] def Gg(x:am)(c:Nat)(w:World)(v:Value)(a:Int)(b:Int)(q:ck)(r:aZ):ax:=[bh c {x with ak:=v},⟨w.z,59,true,Ul q⟩,⟨w.z+1,63,true,OM a b r⟩]
theorem vy(x:am)(c:CM)(L:List ar)(a:Nat)(v8:Nat)(ya h b e:Int)(q:ck)(r:aZ)(p:q.kind≠2)(w:World)(u:aP w v8 a x c L):aC 105 #[pt a 0,i6 ya,i6 h,.agg #[i6 q.kind,i6 q.Al,i6 q.BV,i6 q.seq,i6 q.mask,i6 q.node,i6 q.oe,i6 q.os,sT q.block],.agg #[i6 1,i6 b,i6 e,bO_ r.used,i6 r.Bf,i6 r.de,i6 r.ds,sT r.block,bO_ r.op,i6 r.ie,i6 r.is,i6 r.mask,sT r.A9]] w (λs m=>s=.returned (bO_ ((c.zL.length:Int)==0))∧aP m v8 a x c L∧au (be [] v8 x.lb a x.cb w) w m):=by
 obtain⟨f,k,l⟩:=u;have o:=aw k;refine cH (S:=(λg=>g=a)) (n:=39) func105 (ab.D1 k) ?_;refine z6 24 (dz 12 0xd0028000000100180000) [0,2,9,10,11,15,16,17,18,19] [] [(w.z,0,1),(w.z+1,0,13)] [.ops (Ac 28) [5],y6 29,y6 15] (Gg x a w f b e q r) [] (w.z+2) ?_;refine DV (bO_ false) 119 [pt a 0,i6 ya,i6 h,aE (OM b e r),bO_ (q.kind==2)] (some 20) [] tI rfl (λj d=>by rw[show(q.kind==2)=false from cw.2 p];exact lO a ya h b e r j) λv z=>?_;refine z6 19 (dz 7 0x10208000000) [10,36] [fF,oE ((q.kind==2)=false) (cw.2 p)] [(a,2,1)] [.ops (Ac 62) [4,5,6],y6 63] (Gg x a w f b e q r) [] v ?_;refine DV (i6 (c.zL.length:Int)) _ _ (some 37) [] tI rfl (λj d=>i5 ((l.y4 (es:=[98]) d.x2 (λg i=>by subst i;exact⟨98,z1,o⟩) rfl rfl rfl)).1) λy A=>?_;refine z6 6 (dz 2 0) [10] [] [] [y6 63] (Gg x a w f b e q r) [] y ?_;refine B1 [] [bO_ ((c.zL.length:Int)==0)] [] ?_;intro j d;exact⟨rfl,⟨_,d.at_ 0 rfl,(l.y4 (es:=[98]) d.x2 (λg i=>by subst i;exact⟨98,z1,o⟩) rfl rfl rfl)⟩,(d.wide (S':=be [] v8 x.lb a x.cb w) (λ_ t=>.inl t)).x2⟩
theorem wY(A:aY)(n cp:Nat)(b:n<2)(w:World):aC 94 #[yt A n cp] w (bf (yt A n cp) w):=by
 refine cH (S:=z8) (n:=61) Tryz.func94 (ab.none w _) ?_;refine z6 20 (dz 7 65536) [0,2] [dT (((n:Int):Int)<2)] [] [y6 53,.code [1,1]] [] [] w.z ?_;refine B1 [] [yt A n cp] [] ?_;intro c a;exact⟨rfl,a.x2⟩
end Go.Proofs.YtcmpkkapkdlfhaaGreat
namespace Go.Proofs.YtcmpkkapkdlfhaaGreat
open Go.Shelf Go.RowKit Go.Sort Tryz
def EA:Go.Shelf.Ren:=⟨λ|189=>93|125=>116|257=>115|128=>136|129=>137|294=>127|295=>128|296=>129|297=>130|298=>131|299=>132|216=>133|300=>134|301=>135|328=>143|329=>144|330=>145|331=>146|332=>147|215=>148|343=>155|a=>a,λ|28=>25|3=>3|46=>186|0=>0|51=>206|53=>208|4=>4|183=>199|182=>198|131=>104|5=>5|9=>9|218=>212|222=>191|228=>224|229=>225|a=>a,λ|a=>a⟩
theorem Kk:Go.Proofs.Lays.n189 prog EA:={
 mixed:=v7
 f125:=func116.trans (congrArg some v7)
 f128:=func136.trans (congrArg some v7)
 f129:=func137.trans (congrArg some v7)
 f189:=func93.trans (congrArg some v7)
 f215:=func148.trans (congrArg some v7)
 f216:=func133.trans (congrArg some v7)
 f257:=func115.trans (congrArg some v7)
 f294:=func127.trans (congrArg some v7)
 f295:=func128.trans (congrArg some v7)
 f296:=func129.trans (congrArg some v7)
 f297:=func130.trans (congrArg some v7)
 f298:=func131.trans (congrArg some v7)
 f299:=func132.trans (congrArg some v7)
 f300:=func134.trans (congrArg some v7)
 f301:=func135.trans (congrArg some v7)
 f328:=func143.trans (congrArg some v7)
 f329:=func144.trans (congrArg some v7)
 f330:=func145.trans (congrArg some v7)
 f331:=func146.trans (congrArg some v7)
 f332:=func147.trans (congrArg some v7)
 f343:=func155.trans (congrArg some v7)
 t0:=underlying0
 a0:=isAgg0
 z0:=sizeOf0
 v0:=zeroValue0
 t3:=underlying3
 a3:=isAgg3
 z3:=sizeOf3
 v3:=zeroValue3
 t4:=underlying4
 a4:=isAgg4
 z4:=sizeOf4
 v4:=zeroValue4
 t5:=underlying5
 a5:=isAgg5
 z5:=sizeOf5
 v5:=zeroValue5
 t9:=underlying9
 a9:=isAgg9
 z9:=sizeOf9
 v9:=zeroValue9
 t28:=underlying25
 a28:=isAgg25
 z28:=sizeOf25
 v28:=zeroValue25
 t46:=underlying186
 a46:=isAgg186
 z46:=sizeOf186
 v46:=zeroValue186
 t51:=underlying206
 a51:=isAgg206
 z51:=sizeOf206
 v51:=zeroValue206
 t53:=underlying208
 a53:=isAgg208
 z53:=sizeOf208
 v53:=zeroValue208
 t131:=underlying104
 a131:=isAgg104
 z131:=sizeOf104
 v131:=zeroValue104
 t182:=underlying198
 a182:=isAgg198
 z182:=sizeOf198
 v182:=zeroValue198
 t183:=underlying199
 a183:=isAgg199
 z183:=sizeOf199
 v183:=zeroValue199
 t218:=underlying212
 a218:=isAgg212
 z218:=sizeOf212
 v218:=zeroValue212
 t222:=underlying191
 a222:=isAgg191
 z222:=sizeOf191
 v222:=zeroValue191
 t228:=underlying224
 a228:=isAgg224
 z228:=sizeOf224
 v228:=zeroValue224
 t229:=underlying225
 a229:=isAgg225
 z229:=sizeOf225
 v229:=zeroValue225}
theorem sO(zq b c:Nat)(a:bB)(w:World)(h:Go.Sort.Holds (Value.int .i64) w zq b a.toArray)(l:zq<w.z)(k:a.length<4611686018427387904):aC 93 #[yt (some ⟨zq,b,none⟩) a.length c] w λd j=>
   d=Jx∧∃e i,j=grow (putRow (Value.int .i64) (Sort.ahead w e) zq b (a.mergeSort λf g=>decide (f<=g)).toArray) i:=Any.slices_Sort_int Kk zq b c a w h l k
theorem nm(p:aY)(cap:Nat)(w:World):aC 93 #[yt p 0 cap] w λa b=>a=Jx∧b=w:=Any.slices_Sort_int_none Kk p cap w
theorem NH(w:World)(v8:Nat)(e:TypeId)(A:aY)(n cp:Nat)(a:bB)(u:n<=64)(h:ah w v8 e 1 A n cp (n1 a)):aC 93 #[yt A n cp] w (λd c=>d=Jx∧ah c v8 e 1 A n cp (n1 (kz a))∧au (dg A) w c):=by
 have k:a.length=n:=by have:=h.len;rw[CJ]at this;omega
 rcases h.2 with⟨i,l⟩|⟨j,y,z,i,m,f,o,p,q,r⟩
 ·subst l;have s:a=[]:=List.eq_nil_of_length_eq_zero k;subst s;exact(nm A cp w).mono λd c ⟨g,b⟩=>⟨g,by subst b;rw[show kz []=[]by simp[kz]];exact h,by subst b;exact au.refl _ _⟩
 ·simp only[Value.slice.injEq]at i;obtain⟨rfl,_,rfl⟩:=i;subst k;refine(sO j 0 cp a w (holds_of_blockI f (by simpa[n1]using r)) (dp.1 f).1 yq).mono λd c ⟨g,t,x,b⟩=>?_;subst b;refine⟨g,?_,sk (v:=yt (ae j) a.length cp) (grownBy_sortedI _) rfl⟩;exact ownsRow_sortedI (ss:=a) (ts:=kz a) (KD a) m f o p q
end Go.Proofs.YtcmpkkapkdlfhaaGreat
namespace Go.Proofs.YtcmpkkapkdlfhaaGreat
open Go.RowKit Tryz
set_option maxHeartbeats 4000000
set_option maxRecDepth 100000
def S9(ya:Int)(zL:List ar)(b:bB):Prop:=(∀c,c∈b↔∃a∈zL,ya-a.asked>=8∧a.to=c)∧(b=[]↔∀a∈zL,¬ya-a.asked>=8)∧∀a,zL=[a]->ya-a.asked>=8->b=[a.to]
theorem NE{ya:Int}{zL:List ar}{x:Int}:x∈mg zL (cc (λc=>decide (ya-c.asked>=8)) zL zL.length)↔∃c∈zL,ya-c.asked>=8∧c.to=x:=by
 simp only[mg,cc,aT,dR,bn];constructor
 ·rintro⟨b,⟨a,d⟩,rfl⟩;have e:zL[b]?=some zL[b]:=cx a;rw[e]at d ⊢;exact⟨zL[b],List.getElem_mem a,by simpa using d,rfl⟩
 ·rintro⟨c,f,d,rfl⟩;obtain⟨b,a⟩:=List.mem_iff_getElem?.1 f;exact⟨b,⟨(cF.1 a).1,by rw[a];simpa using d⟩,by rw[a]⟩
theorem RG{ya:Int}{zL:List ar}{b:bB}(n:∀h,h∈b↔h∈kz (mg zL (cc (λa=>decide (ya-a.asked>=8)) zL zL.length)))(f:(kz (mg zL (cc (λa=>decide (ya-a.asked>=8)) zL zL.length))).length<2->b=kz (mg zL (cc (λa=>decide (ya-a.asked>=8)) zL zL.length))):S9 ya zL b:=by
 have g:∀e,e∈b↔∃a∈zL,ya-a.asked>=8∧a.to=e:=λe=>by rw[n,(uk _).mem_iff,NE]
 refine⟨g,?_,λa c d=>?_⟩
 ·constructor
  ·rintro rfl a c d;exact absurd ((g a.to).2 ⟨a,c,d,rfl⟩) z1
  ·intro j
   cases b with
   |nil=>rfl
   |cons k b=>
    obtain⟨a,c,d,_⟩:=(g k).1 z1;exact absurd d (j a c)
 ·subst c;have i:cc (λa=>decide (ya-a.asked>=8)) [a] 1=[0]:=by
   simp[cc,d]
  have l:mg [a] (cc (λa=>decide (ya-a.asked>=8)) [a] [a].length)=[a.to]:=by
   rw[show[a].length=1 from rfl,i];rfl
  rw[l]at f;have m:kz [a.to]=[a.to]:=by simp[kz]
  rw[m]at f;exact f z1
section
variable (i zv ya:Int)(o:ar)(n x:Nat)(pre:aH)(cp:Nat)(e:aY)(h a c1 f b:Nat)(w:World)(c:Nat)
@[simp] def u':ax:=[⟨a,124,false,[i6 i,i6 zv,yt (ae b) n cp]⟩,⟨w.z,85,false,[pt a 0]⟩,⟨w.z+1,3,false,[i6 (af ya)]⟩,⟨c,25,true,[yt e pre.length h]⟩,⟨c1,85,false,[pt a 0]⟩,⟨f,142,false,[.func (.func 92) #[] #[pt (w.z+1) 0]]⟩]
@[simp] def NF(d:Option Nat×(aO)):ax:=[⟨a,124,false,[i6 i,i6 zv,yt (ae b) n cp]⟩,⟨w.z,85,false,[pt a 0]⟩,⟨w.z+1,3,false,[i6 (af ya)]⟩,⟨c,25,true,[yt d.2.1 (pre.length+1) d.2.2]⟩,⟨c1,85,false,[pt a 0]⟩,⟨f,142,false,[.func (.func 92) #[] #[pt (w.z+1) 0]]⟩]
@[simp] def NG(A:aY)(cp:Nat)(a:Nat)(c1:Nat)(f:Nat)(w:World)(c:Nat):ax:=[⟨a,124,false,[i6 i,i6 zv,yt A n cp]⟩,⟨w.z,85,true,[pt a 0]⟩,⟨w.z+1,3,true,[i6 (af ya)]⟩,⟨c,25,true,[z7]⟩,⟨c1,85,false,[pt a 0]⟩,⟨f,142,false,[.func (.func 92) #[] #[pt (w.z+1) 0]]⟩]
@[simp] def y5(d:aY)(e:Nat)(a:Nat)(c1:Nat)(f:Nat)(b:Nat)(w:World)(c:Nat):ax:=[⟨a,124,false,[i6 i,i6 zv,yt (ae b) n cp]⟩,⟨w.z,85,false,[pt a 0]⟩,⟨w.z+1,3,false,[i6 (af ya)]⟩,⟨c,25,true,[yt d (pre.length+1) e]⟩,⟨c1,85,false,[pt a 0]⟩,⟨f,142,false,[.func (.func 92) #[] #[pt (w.z+1) 0]]⟩]
def RH:bu:=[(2,pt w.z 0),(4,z7),(5,pt c 0),(6,i6 (x:Int))]
def Iz(d:Option Nat×(aO)):List (Option Value):=[some (yt e pre.length h),some (pt a 0),some (pt a 0),some (pt a 2),some (yt (ae b) n cp),some (i6 (x:Int)),some (pt b (0+x*13)),some (pt b (0+x*13)),some (i6 o.to),some (yt (ae (d.1.getD 0)) 1 1),some (yt d.2.1 (pre.length+1) d.2.2),some (.tuple #[])]
def IA(d:Option Nat×(aO))(k:Nat):Bool:=(fL 12 [(9,d.1.isSome)])[k]?.getD true
def y7(d:Option Nat×(aO)):List (ax):=[u' i zv ya n pre cp e h a c1 f b w c,u' i zv ya n pre cp e h a c1 f b w c,NF i zv ya n pre cp a c1 f b w c d]
abbrev y8(o:ar)(zL:List ar)(x:Nat)(pre:aH)(e:aY)(h:Nat)(b:Nat)(W:World)(c:World)(g:Nat)(d:Option Nat×(aO))(a:World):Prop:=match g with|0=>(a.cell? ⟨b,0+x*13,none⟩=some (i6 o.to)∧ah a c.z 3 1 e pre.length h (n1 (mg zL pre)))∧(∀f,d.1=some f->W.z<=f∧A2 a f 3 [i6 o.to])|1=>(a.cell? ⟨b,0+x*13,none⟩=some (i6 o.to)∧ah a c.z 3 1 d.2.1 (pre.length+1) d.2.2 (n1 (mg zL (pre++[x]))))∧True|2=>(a.cell? ⟨b,0+x*13,none⟩=some (i6 o.to)∧ah a c.z 3 1 d.2.1 (pre.length+1) d.2.2 (n1 (mg zL (pre++[x]))))∧True|_=>True
def nK(zL:List ar)(n:Nat)(x:Nat)(pre:aH)(cp:Nat)(e:aY)(h:Nat)(a:Nat)(c1:Nat)(f:Nat)(b:Nat)(J:Act->aI)(w:World)(W:World)(g:World)(c:Nat)(j:Nat):Prop:=cY prog f56 [1,1,1,0,1,0,1,0] 28 [] (mi) [.inv J] (RH x w c) (V7 12 [10,11]) 2 (Iz o n x pre cp e h a b) IA W (λd=>d=c∨dg e d) (y7 i zv ya n pre cp e h a c1 f b w c) W.z (y8 o zL x pre e h b W g) j
end
theorem Dm(D zv ya:Int)(A:aY)(n cp f v8:Nat)(zL:List ar)(cr:zL.length=n)(fo:n<=64)(J1:∀(j:Nat)(y:ar),zL[j]?=some y->-9223372036854775808<=af ya-y.asked∧af ya-y.asked<=9223372036854775807)(ed:(cc (λy:ar=>decide (af ya-y.asked>=8)) zL zL.length).length<2)(w:World)(bd:A2 w f 124 [i6 D,i6 zv,yt A n cp])(co:ah w v8 141 13 A n cp (bP zL)):aC 56 #[pt f 0,i6 ya] w (λb0 R=>∃e z bg,b0=.returned (yt e (List.length bg) z)∧ah R w.z 3 1 e (List.length bg) z (n1 bg)∧S9 (af ya) zL bg∧au z8 w R):=by
 refine jb (m:=5) (S:=z8) (n:=28) func56 (lh v7) rfl z1 (ab.start (bk:=[⟨f,124,false,[i6 D,i6 zv,yt A n cp]⟩]) (wn:=[]) (by simpa using bd) z1 z1 z1) ?_;refine z6 12 (dz 4 268599296) [2,3,4,7] [] [(w.z+1,0,1)] [.ops [1,0] [1,2],.code [1,1]] [⟨f,124,false,[i6 D,i6 zv,yt A n cp]⟩,⟨w.z,85,true,[pt f 0]⟩,⟨w.z+1,3,true,[i6 ya]⟩] [] (w.z+2) ?_;refine DV (i6 (af ya)) _ _ (some 8) [] tI rfl (λF h=>lj ya F) λb fs=>?_;refine z6 14 (dz 4 0x100180010028) [2,4,5,9,10] [] [(w.z+1,0,1),(w.z,0,1)] [.ops (Ac 60) [2],y6 61,y6 31] [⟨f,124,false,[i6 D,i6 zv,yt A n cp]⟩,⟨w.z,85,true,[pt f 0]⟩,⟨w.z+1,3,true,[i6 (af ya)]⟩,⟨b,25,true,[z7]⟩] [] (b+1) ?_;refine Ip (w:=w) (S':=z8) (Y:=Nat×Nat) (λ(⟨o,u⟩:Nat×Nat)=>.func (.func 96) #[] #[pt o 0,pt u 0]) (λ(⟨o,u⟩:Nat×Nat)=>NG D zv ya n A cp f o u w b) (λ(⟨o,u⟩:Nat×Nat) cl=>b+1<=o∧o<u) (v7:_=some (59,[pt f 0,.func (.func 92) #[] #[pt (w.z+1) 0]],some 11,[])) tI (λF h=>?_) (λC c1 dv ea=>?_)
 ·refine(ua f (w.z+1) 92 F).mono λb0 R I=>?_;obtain⟨o,u,I,U,aq,Z,cn,H⟩:=I;have a6:F.z=b+1:=h.size;exact⟨(o,u),I,⟨yq,aq⟩,(ab.add h H [⟨o,85,false,_⟩,⟨u,142,false,_⟩] ⟨Z,cn,trivial⟩ (by simp;omega) (by simp;omega)).2⟩
 obtain⟨o,u⟩:=C;obtain⟨fa,fb⟩:=dv;refine Aq 5 [] [2,4,5,11] [] [] [y6 122,.zq 0,y6 31] ⟨[(2,pt w.z 0),(4,z7),(5,pt b 0),(11,.func (.func 96) #[] #[pt o 0,pt u 0])],NG D zv ya n A cp f o u w b,[],c1.z⟩ ?_;refine dH (Ex:=[⟨f,124,false,[i6 D,i6 zv,yt A n cp]⟩,⟨w.z,85,false,[pt f 0]⟩,⟨w.z+1,3,false,[i6 (af ya)]⟩,⟨b,25,true,[z7]⟩,⟨o,85,false,[pt f 0]⟩,⟨u,142,false,[.func (.func 92) #[] #[pt (w.z+1) 0]]⟩]) [false,false,false,true,false,false] rfl (λE d4 a3=>?_);have ca:au z8 w E:=(ab.A0 ea d4).x2;have e5:f<E.z:=(a3.at_ 0 rfl).lt;have e6:w.z+1<E.z:=(a3.at_ 2 rfl).lt;have e7:b<E.z:=(a3.at_ 3 rfl).lt;have e8:o<E.z:=(a3.at_ 4 rfl).lt;have e9:u<E.z:=(a3.at_ 5 rfl).lt;have du:=co.x2 ca (λ_ _ a=>a);have d3:w.z<=E.z:=ca.size;have cb:∀x,dg A x->x<w.z:=λx d=>(co.own x d).2;have fz:w.z<=b:=by omega
 refine lk (α:=Nat) (wn:=[]) (gf:=96) (enc:=λx=>i6 (x:Int)) (N:=om (λy:ar=>decide (af ya-y.asked>=8)) zL) rfl rfl (enters_of func96 v7 rfl)
  (pw E (λx=>x=b) (λcf db cm=>[⟨f,124,false,[i6 D,i6 zv,yt A n cp]⟩,⟨w.z,85,false,[pt f 0]⟩,⟨w.z+1,3,false,[i6 (af ya)]⟩,⟨b,25,true,[yt cf db cm]⟩,⟨o,85,false,[pt f 0]⟩,⟨u,142,false,[.func (.func 92) #[] #[pt (w.z+1) 0]]⟩]) 3 1 (λr=>n1 (mg zL r)) v8 141 A n cp (λ_=>zL)) (λ(_:aH)(_:World)=>False) (pw.own (bT _)) (λ_ _ _ _ a=>a.elim) ?h0
  (xd E o u f (w.z+1) cp n D zv (af ya) A zL cr yq ?Wt ?WD ?J1) ?WJ (λ_ _ _ a J=>a.same J) (λx:Nat=>[(12,i6 (x:Int)),(2,pt w.z 0),(4,z7),(5,pt b 0),(11,.func (.func 96) #[] #[pt o 0,pt u 0])]) (λx:Nat=>[(6,i6 (x:Int)),(12,i6 (x:Int)),(2,pt w.z 0),(4,z7),(5,pt b 0),(11,.func (.func 96) #[] #[pt o 0,pt u 0])]) (λ_=>rfl) ?Xp ?body ?done (λ_ _ _ _ a=>a.elim)
 case h0=>exact λF h=>⟨none,0,by have a:=(ab.wide h (S':=(λx=>x=b)) (λx a=>by obtain⟨K,c,M,I⟩:=a;simp at c;rcases c with rfl|rfl|rfl|rfl|rfl|rfl<;>simp at I M;exact I.symm));rw[<-h.size]at a;exact a,ah.nil _ _ _ _,du.x2 h.x2 (λx d a=>by obtain⟨K,c,M,I⟩:=a;have H:=cb x d;simp at c;rcases c with rfl|rfl|rfl|rfl|rfl|rfl<;>simp at I M;omega)⟩
 case Wt=>simp;omega
 case WD=>have:=bd.lt;omega
 case J1=>exact λj y V=>J1 j y V
 case WJ=>
  rintro r e1 ⟨cf,cm,U,aq,Z⟩;exact⟨U.x2.mono (λ_ _ _=>trivial),U.at_ 4 rfl,U.at_ 5 rfl,U.at_ 2 rfl,λ_=>cr▸U.at_ 0 rfl,λj y V _=>by obtain⟨a4,c2,c3,_,c4⟩:=nz Z V;exact⟨a4,c2,c3,c4⟩⟩
 case Xp=>
  intro x l G;refine mj (λ_=>tI) 6 [y2] [6,12,2,4,5,11] [] [] [] ⟨[(6,i6 (x:Int)),(12,i6 (x:Int)),(2,pt w.z 0),(4,z7),(5,pt b 0),(11,.func (.func 96) #[] #[pt o 0,pt u 0])],[],[],G.z⟩ ?_;exact eM (λcU F cq h=>⟨rfl,h.x2,cq⟩)
 case body=>
  rintro l r x G ⟨e,z,bs,aR,b2⟩ ⟨y,V,fr,er⟩;obtain⟨q,c6,a0,fl,es⟩:=nz b2 V;subst c6;have bt:x<n:=by have:=(cF.1 V).1;omega
  have f7:r.length<=x:=by rw[er];exact ll
  have f3:q<w.z:=cb q ⟨_,rfl,rfl⟩;have ad:=aR.own;have cO:=bs.x2.size;refine⟨u' D zv ya n r cp e z f o u q w b,bs.again,?_⟩;refine mj (λ_=>tI) 4 [] [2,4,5,6] [] [] [y6 490,.zq 1] ⟨[(2,pt w.z 0),(4,z7),(5,pt b 0),(6,i6 (x:Int))],u' D zv ya n r cp e z f o u q w b,[],G.z⟩ ?_;refine jW (f0:=12) (ls:=bA 12 0) v7 v7 v7 v7 v7 (λak c7=>?_);have W:∀(de:av) C,ao [⟨f,124,false,[i6 D,i6 zv,.slice (some ⟨q,0,none⟩) n cp]⟩,⟨w.z,85,false,[pt f 0]⟩,⟨w.z+1,3,false,[i6 (af ya)]⟩,⟨b,25,true,de⟩,⟨o,85,false,[pt f 0]⟩,⟨u,142,false,[.func (.func 92) #[] #[pt (w.z+1) 0]]⟩] C->C=b:=λ_ C a=>(by obtain⟨K,c,M,I⟩:=a;simp at c;rcases c with rfl|rfl|rfl|rfl|rfl|rfl<;>simp at I M;exact I.symm);have ec:∀K∈((u' D zv ya n r cp e z f o u q w b):ax),¬dg e K.g:=by
   intro K c d;have H:=(ad _ d).1;simp at c;rcases c with rfl|rfl|rfl|rfl|rfl|rfl
   all_goals (simp at H;omega)
  have cR:eh G (λC=>C=b∨dg e C) (y7 D zv ya n r cp e z f o u q w b) (y8 y zL x r e z q G E):=by
   intro T g F R bk c h d J
   match T,c,d with
   |0,c,d=>
    obtain rfl:=ap c;exact⟨⟨(J.cell (p:=⟨q,0+x*13,none⟩) (cD a0 h.x2.size) (λa=>by have H:=W _ _ a;have O:q=b:=H;omega)).trans d.1.1,d.1.2.x2 J (λC Q a=>by have H:=W _ C a;have O:=(d.1.2.own C Q).1;omega)⟩,λX a7=>⟨(d.2 X a7).1,(d.2 X a7).2.x2 J (λa=>by have H:=W _ _ a;have O:=(d.2 X a7).1;omega)⟩⟩
   |1,c,d=>
    obtain rfl:=ap c;exact⟨⟨(J.cell (p:=⟨q,0+x*13,none⟩) (cD a0 h.x2.size) (λa=>by have H:=W _ _ a;have O:q=b:=H;omega)).trans d.1.1,d.1.2.x2 J (λC Q a=>by have H:=W _ C a;have O:=(d.1.2.own C Q).1;omega)⟩,trivial⟩
   |2,c,d=>
    obtain rfl:=ap c;exact⟨⟨(J.cell (p:=⟨q,0+x*13,none⟩) (cD a0 h.x2.size) (λa=>by have H:=W _ _ a;have O:q=b:=H;omega)).trans d.1.1,d.1.2.x2 J (λC Q a=>by have H:=W _ C a;have O:=(d.1.2.own C Q).1;omega)⟩,trivial⟩
   |T+3,c,d=>exact trivial
  have eP:nK D zv ya y zL n x r cp e z f o u q ak w G E b 8:=fV (B:=2) (x:=λg=>Instr.loadAt 3 (pt q (0+x*13))) (λg=>i6 y.to) v7 (.inl rfl) (λg=>v7) (λg=>v7) (λg=>v7) (λg=>v7) (λT g F bk bd c h d=>gx v7 (show F.cell? ⟨q,0+x*13,none⟩=_ by rcases T with _|_|_|T<;>first|exact d.1.1|cases c));have eR:nK D zv ya y zL n x r cp e z f o u q ak w G E b 9:=W1 0 3 [i6 y.to] (λg a4=>(some a4,g.2)) (λa4=>.slice (ae a4) 1 1) (λT g F R bk bl c h d J da dt=>by
   have a6:=cR T g F R bk c h d J
   match T,c,d,a6,bl with
   |0,c,d,a6,bl=>exact⟨a6.1,(λX a7=>by obtain rfl:=ap a7;exact⟨da,dt⟩)⟩
   |T+1,c,d,a6,bl=>exact absurd bl yq)
  have eS:nK D zv ya y zL n x r cp e z f o u q ak w G E b 10:=Xa (s:=0) (x:=λg=>Builtin.append_ #[25,25] 25 #[yt e r.length z,yt (ae (g.1.getD 0)) 1 1]) (λ(g:Option Nat×(aO))(b1:aO)=>(g.1,b1)) (λg=>yt g.2.1 (r.length+1) g.2.2) (λg F bk c h d cP=>by
   obtain rfl:=ap c;obtain⟨cA,e0,T⟩:=g;obtain⟨X,rfl⟩:∃X,cA=some X:=cV.1 (cP 9 (aS (i:=1) v7) (d9 (k:=22) v7));obtain⟨f1,ds⟩:=d.2 X rfl;obtain⟨c0,dd,R,U,aq,Z,cn⟩:=ce (P:=prog) F E.z 25 25 3 (i6 0) 1 8 e r.length z (n1 (mg zL r)) ⟨X,0,none⟩ 1 1 [i6 y.to] v7 v7 v7 (by decide) d.1.2 rfl (λj v c9=>by rw[bY,bG];exact ds.at_ c9) (aU rfl) yq (by decide) (az cO h.x2.size);rw[KC V]at aq;exact⟨(c0,dd),R,U,rfl,⟨⟨(Z.cell (p:=⟨q,0+x*13,none⟩) (cD a0 h.x2.size) (λa=>by have O:E.z<=q:=(ad _ a).1;omega)).trans d.1.1,aq⟩,trivial⟩,h.A3 (λ_ a=>a) Z (λC Q=>.inl (.inr Q)) ec,Z.size⟩)
  have eW:nK D zv ya y zL n x r cp e z f o u q ak w G E b 11:=V8 (s:=1) (x:=λg=>Instr.storeAt 25 (pt b 0) (yt g.2.1 (r.length+1) g.2.2)) (λ(g:Option Nat×(aO))(_:Unit)=>g) (λg F bk c h d cP=>by
   obtain rfl:=ap c;obtain⟨R,U,cB,b3,eg⟩:=cG (P:=prog) (t:=25) (v:=yt g.2.1 (r.length+1) g.2.2) (cs':=[yt g.2.1 (r.length+1) g.2.2]) v7 (h.at_ 3 rfl) rfl (by show 0+1<=1;omega) (aU rfl) rfl;exact⟨(),R,U,rfl,⟨⟨(b3.cell (p:=⟨q,0+x*13,none⟩) (cD a0 h.x2.size) (λa=>by have H:q=b:=a;omega)).trans d.1.1,d.1.2.x2 b3 (λC Q a=>by have H:C=b:=a;have O:=(d.1.2.own C Q).1;omega)⟩,trivial⟩,(h.PA 3 rfl rfl b3 cB).2,bC eg.symm⟩)
  have eN:∀b1∈(f5 2 [2,3,5,7]++[rY 0 1 3 0 1 b,rY 1 2 1 0 1 w.z,rY 4 2 0 2 1 f,⟨6,2,HA,λ_=>[oE ((0:Int)<=(x:Int)∧(x:Int)<((n:Nat):Int))],λ_=>[]⟩]:List (fG (Option Nat×(aO)))),nK D zv ya y zL n x r cp e z f o u q ak w G E b b1.i:=bp _ cR (λg=>v7) v7 (λg e3=>v7);have eL:∀cs,cs<12->nK D zv ya y zL n x r cp e z f o u q ak w G E b cs:=f6 (l:=[8,9,10,11]) v7 eN ⟨eP,eR,eS,eW,trivial⟩;refine jX (Δ:=Option Nat×(aO)) (λC=>C=b∨dg e C) (Iz y n x r cp e z f q) IA (y7 D zv ya n r cp e z f o u q w b) (y8 y zL x r e z q G E) [2,4,5,6] (λg=>[(2,pt w.z 0),(4,z7),(5,pt b 0),(6,i6 (x:Int))]) (λg=>NF D zv ya n r cp f o u q w b g) (none,(none,0)) (λC a=>.inl (W _ C a)) v7 v7 v7 (λF h=>⟨⟨(h.x2.cell (p:=⟨q,0+x*13,none⟩) a0 (λa=>by have H:=W _ _ a;have O:q=b:=H;omega)).trans (es 0 _ rfl),aR.x2 h.x2 (λC Q a=>by have H:=W _ C a;have O:=(ad C Q).1;omega)⟩,λ_ a=>by cases a⟩) v7 eL (λg=>v7) (λg=>v7) (λg a8 f2 a2 fv eb=>?_);obtain⟨cA,an,a1⟩:=g;obtain⟨⟨_,a2⟩,_⟩:=a2;replace a2:ah a8 E.z 3 1 an (r.length+1) a1 (n1 (mg zL (r++[x]))):=a2;change aF _ _ _ _ a8 (ao (y5 D zv ya n r cp an a1 f o u q w b)) _ [.inv ak] ⟨[(2,pt w.z 0),(4,z7),(5,pt b 0),(6,i6 (x:Int))],y5 D zv ya n r cp an a1 f o u q w b,[],a8.z⟩;refine c7 _ _ _ ?_;refine mj (λ_=>tI) 4 [] [4] [] [] [] ⟨[(4,z7)],y5 D zv ya n r cp an a1 f o u q w b,[],a8.z⟩ ?_;refine eM (λcU F cq h=>?_);have b7:=ab.A0 eb h;have b4:au (λx=>x=b∨dg e x) G F:=b7.x2;have eq:∀x,dg an x->¬ao (y5 D zv ya n r cp an a1 f o u q w b) x:=λx d a=>by
   obtain⟨K,c,M,I⟩:=a;have H:=(a2.own x d).1;simp at c;rcases c with rfl|rfl|rfl|rfl|rfl|rfl<;>simp at M I;omega
  refine⟨gU b4 (λk y J V=>?_),.inl ⟨rfl,?_⟩⟩
  ·rcases J with rfl|J
   ·have ac:=bs.at_ 3 rfl;unfold A2 at ac;rw[V]at ac;cases ac;rfl
   ·obtain⟨df,c5,ac⟩:=aR.ty k J;rw[V]at ac;cases ac;rfl
  ·refine⟨an,a1,?_,?_,?_⟩
   ·rw[show(r++[x]).length=r.length+1 by simp];refine⟨rfl,b7.zq,λK c M=>?_,b7.nd,bs.x2.trans b4 (λk J a=>a.elim id (λa=>absurd J (Nat.not_lt.2 (ad k a).1))),λ_ d=>by cases d⟩;simp at c;rcases c with rfl|rfl|rfl|rfl|rfl|rfl<;>simp at M;exact .inl rfl
   ·rw[show(r++[x]).length=r.length+1 by simp];exact a2.x2 h.x2 eq
   ·exact b2.x2 b4 (λx d a=>(by have H:=cb x d;exact a.elim (λa=>yq) (λa=>by have O:=(ad x a).1;omega)))
 case done=>
  rintro aV e4 G rfl ⟨e,z,b6,aR,b2⟩ e2 a5;obtain⟨L,bt⟩:∃L,L=List.length (cc (λy:ar=>decide (af ya-y.asked>=8)) zL zL.length):=⟨_,rfl⟩;have f8:L<2:=bt▸ed;have eK:L<=64:=by have:=ll (ok:=(λy:ar=>decide (af ya-y.asked>=8))) (zL:=zL) (j:=zL.length);omega
  have bb:=b6.at_ 3 rfl;have ad:=aR.own;have cO:=b6.x2.size;have d2:au z8 w G:=ca.trans b6.x2 (λk J a=>yq);refine⟨[⟨b,25,true,[yt e L z]⟩],ab.start (λK c=>?_) (λK c _=>⟨K,c,‹_›,rfl⟩) z1 z1,?_⟩
  ·obtain rfl:=aG.1 c;exact bt▸bb
  refine z6 7 [oA 0 0 1] [4,5,24] [] [(b,0,1)] [.ops (Ac 62) [1],y6 63] [⟨b,25,true,[yt e L z]⟩] [] G.z ?_;have b9:¬dg e (b):=λa=>by have:=(ad _ a).1;omega
  refine Ip (w:=G) (S':=(λx=>x=b∨dg e x)) (Y:=Unit) (λ()=>.tuple #[]) (λ()=>[⟨b,25,true,[yt e L z]⟩]) (λ() cl=>ah cl E.z 3 1 e L z (n1 (kz (mg zL (cc (λy:ar=>decide (af ya-y.asked>=8)) zL zL.length))))) (v7:_=some (93,[yt e L z],some 25,[])) tI (λF h=>?_) (λyy a9 cK b5=>?_)
  ·refine(NH F E.z 3 e L z (mg zL (cc (λy:ar=>decide (af ya-y.asked>=8)) zL zL.length)) eK (bt▸aR.x2 h.x2 (λx d a=>?_))).mono λb0 R I=>?_
   ·obtain⟨K,c,M,rfl⟩:=a;obtain rfl:=aG.1 c;exact b9 d
   ·obtain⟨I,aq,Z⟩:=I;exact⟨(),I,aq,h.A3 (λx ⟨K,c,M,d⟩=>.inl (by obtain rfl:=aG.1 c;exact d.symm)) Z (λx d=>.inl (.inr d)) (λK c=>by obtain rfl:=aG.1 c;exact b9)⟩
  refine z6 7 [oA 0 0 1] [4,26] [] [(b,0,1)] [.ops (Ac 126) [1,2],y6 127] [⟨b,25,true,[yt e L z]⟩] [] a9.z ?_;have fn:au (λx=>x=b∨dg e x) G a9:=b5.x2;refine DV (yt e L z) _ _ (some 27) [] tI rfl (λF h=>wY e L z yq F) λen ga=>?_;refine Aq 5 [y2] [4] [] [] [y6 127] ⟨[(4,yt e L z)],[⟨b,25,true,[yt e L z]⟩],[],en⟩ ?_;have b8:¬(λx=>x=b∨dg e x) aV:=by
   intro a;rcases a with a|a
   ·rw[a]at a5;unfold A2 at bb;rw[a5]at bb;cases bb
   ·obtain⟨df,c5,ac⟩:=aR.ty aV a;rw[a5]at ac;cases ac
  have ep:aV<G.z:=(dp.1 a5).1;have cC:a9.heap[aV]?=some (.deferred (some [])):=(b5.x2.block aV ep (λa=>b8 a)).trans a5;refine oo [] (dp.1 cC).1 cC (λ⟨K,c,M,I⟩=>by obtain rfl:=aG.1 c;exact b8 (.inl I.symm)) v7 (v7:_=some ([yt e L z],aX [])) (λF h=>?_);have d0:au (λx=>x=b∨dg e x) G a9:=b5.x2;have cL:=cK.len;rw[CJ,Nat.mul_one]at cL;subst cL;refine⟨e,z,kz (mg zL (cc (λy:ar=>decide (af ya-y.asked>=8)) zL zL.length)),rfl,?_,RG (λ_=>Iff.rfl) (λ_=>rfl),?_⟩
  ·refine(cK.x2 h.x2 (λx d a=>?_)).below d3;rcases a with⟨K,c,M,rfl⟩|rfl
   ·obtain rfl:=aG.1 c;exact b9 d
   ·exact b8 (.inr d)
  ·have d1:au (λx=>(λx=>x=b∨dg e x) x∨x=aV) G F:=yw d0 h.x2 (λk _ a=>a.elim (λ⟨K,c,M,I⟩=>.inl (.inl (by obtain rfl:=aG.1 c;exact I.symm))) .inr) (λk a=>.inl a);refine d2.trans d1 (λk J a=>?_);rcases a with(a|a)|a
   ·omega
   ·have:=(ad k a).1;omega
   ·omega
section
variable (e zv ya:Int)(o:ar)(zL:List ar)(n x:Nat)(pre:aH)(cp:Nat)(f:aY)(i a c1 h b:Nat)(J:Act->aI)(w:World)(c:Nat)(_:Unit)(j:av)
def EI:av:=([i6 o.to,i6 o.id]++o.q.cells++[i6 o.asked,i6 (af ya)])
def yo:av:=([i6 e,i6 o.to,i6 o.id,bO_ false]++o.q.cells++[i6 0,i6 0,i6 0]++ka)
@[simp] def ld:ax:=[⟨a,124,false,[i6 e,i6 zv,yt (ae b) n cp]⟩,⟨w.z,85,false,[pt a 0]⟩,⟨w.z+1,3,false,[i6 (af ya)]⟩,⟨c,50,true,[yt f pre.length i]⟩,⟨c1,85,false,[pt a 0]⟩,⟨h,142,false,[.func (.func 60) #[] #[pt (w.z+1) 0]]⟩]
@[simp] def Mu(A:aY)(cp:Nat)(a:Nat)(c1:Nat)(h:Nat)(w:World)(c:Nat):ax:=[⟨a,124,false,[i6 e,i6 zv,yt A n cp]⟩,⟨w.z,85,true,[pt a 0]⟩,⟨w.z+1,3,true,[i6 (af ya)]⟩,⟨c,50,true,[z7]⟩,⟨c1,85,false,[pt a 0]⟩,⟨h,142,false,[.func (.func 60) #[] #[pt (w.z+1) 0]]⟩]
@[simp] def yp(d:aY)(f:Nat)(a:Nat)(c1:Nat)(h:Nat)(b:Nat)(w:World)(c:Nat):ax:=[⟨a,124,false,[i6 e,i6 zv,yt (ae b) n cp]⟩,⟨w.z,85,false,[pt a 0]⟩,⟨w.z+1,3,false,[i6 (af ya)]⟩,⟨c,50,true,[yt d (pre.length+1) f]⟩,⟨c1,85,false,[pt a 0]⟩,⟨h,142,false,[.func (.func 60) #[] #[pt (w.z+1) 0]]⟩]
def Ra:bu:=[(2,pt w.z 0),(3,pt (w.z+1) 0),(4,z7),(5,pt c 0),(6,i6 (x:Int))]
def HR(_:Unit):List (Option Value):=[some (pt a 0),some (pt a 0),some (pt a 2),some (yt (ae b) n cp),some (i6 (x:Int)),some (i6 (af ya)),some (pt b (0+x*13)),some (pt b (0+x*13+12)),some (.tuple #[])]
def HT(_:Unit)(k:Nat):Bool:=(fL 9 [])[k]?.getD true
def yr(_:Unit):List (ax):=[ld e zv ya n pre cp f i a c1 h b w c,ld e zv ya n pre cp f i a c1 h b w c]
abbrev yu(ya:Int)(o:ar)(zL:List ar)(x:Nat)(pre:aH)(b:Nat)(j:av)(c:Nat)(_:Unit)(a:World):Prop:=match c with|0=>A2 a b 141 (bP (fg (af ya) pre zL)++j)|1=>A2 a b 141 (bP ((fg (af ya) pre zL).set x {o with ES:=af ya})++j)|_=>True
def yv(W:World)(c:Nat)(j:av)(g:Nat):Prop:=cY prog f38 [1,1,1,0,1,0,1,0,0] 34 [] (mi) [.inv J] (Ra x w c) (V7 9 [8]) 1 (HR ya n x cp a b) HT W (λd=>d=c∨d=b) (yr e zv ya n pre cp f i a c1 h b w c) W.z (yu ya o zL x pre b j) g
def Mv:bu:=[(2,pt w.z 0),(4,z7),(5,pt c 0),(6,i6 (x:Int))]
def CC(d:Option Nat×(aO)):List (Option Value):=[some (yt f pre.length i),some (pt a 0),some (pt a 0),some (pt a 0),some (pt a 2),some (yt (ae b) n cp),some (i6 (x:Int)),some (pt b (0+x*13)),some (aE (EI ya o)),some (aE (yo e o)),some (yt (ae (d.1.getD 0)) 1 1),some (yt d.2.1 (pre.length+1) d.2.2),some (.tuple #[])]
def CD(d:Option Nat×(aO))(k:Nat):Bool:=(fL 13 [(10,d.1.isSome)])[k]?.getD true
def t7(d:Option Nat×(aO)):List (ax):=[ld e zv ya n pre cp f i a c1 h b w c,ld e zv ya n pre cp f i a c1 h b w c,[⟨a,124,false,[i6 e,i6 zv,yt (ae b) n cp]⟩,⟨w.z,85,false,[pt a 0]⟩,⟨w.z+1,3,false,[i6 (af ya)]⟩,⟨c,50,true,[yt d.2.1 (pre.length+1) d.2.2]⟩,⟨c1,85,false,[pt a 0]⟩,⟨h,142,false,[.func (.func 60) #[] #[pt (w.z+1) 0]]⟩]]
abbrev t8(e:Int)(ya:Int)(o:ar)(zL:List ar)(x:Nat)(pre:aH)(f:aY)(i:Nat)(b:Nat)(c:World)(h:World)(j:av)(k:Nat)(d:Option Nat×(aO))(a:World):Prop:=match k with|0=>(A2 a b 141 (bP ((fg (af ya) pre zL).set x {o with ES:=af ya})++j)∧ah a c.z 65 26 f pre.length i (aJ e (mf zL pre)))∧(∀g,d.1=some g->h.z<=g∧A2 a g 65 (yo e o))|1=>(A2 a b 141 (bP ((fg (af ya) pre zL).set x {o with ES:=af ya})++j)∧ah a c.z 65 26 d.2.1 (pre.length+1) d.2.2 (aJ e (mf zL (pre++[x]))))∧True|2=>(A2 a b 141 (bP ((fg (af ya) pre zL).set x {o with ES:=af ya})++j)∧ah a c.z 65 26 d.2.1 (pre.length+1) d.2.2 (aJ e (mf zL (pre++[x]))))∧True|_=>True
def jA(k:World)(d:World)(c:Nat)(j:av)(l:Nat):Prop:=cY prog f38 [1,1,1,0,1,0,1,0,1] 34 [] (mi) [.inv J] (Mv x w c) (V7 13 [11,12]) 2 (CC e ya o n x pre cp f i a b) CD d (λg=>g=c∨dg f g) (t7 e zv ya n pre cp f i a c1 h b w c) d.z (t8 e ya o zL x pre f i b k d j) l
end
theorem Kr(y zv ya:Int)(A:aY)(n cp o v8:Nat)(zL:List ar)(b6:zL.length=n)(gI:n<=64)(J1:∀(j:Nat)(u:ar),zL[j]?=some u->-9223372036854775808<=af ya-u.ES∧af ya-u.ES<=9223372036854775807)(w:World)(bs:A2 w o 124 [i6 y,i6 zv,yt A n cp])(c2:ah w v8 141 13 A n cp (bP zL)):aC 38 #[pt o 0,i6 ya] w (λaV ad=>∃D F,aV=.returned (yt D (fd (af ya) zL).length F)∧ah ad w.z 65 26 D (fd (af ya) zL).length F (aJ y (fd (af ya) zL))∧ah ad v8 141 13 A n cp (bP (fP (af ya) zL))∧au (dg A) w ad):=by
 refine jb (m:=5) (S:=z8) (n:=34) func38 (lh v7) rfl z1 (ab.start (bk:=[⟨o,124,false,[i6 y,i6 zv,yt A n cp]⟩]) (wn:=[]) (by simpa using bs) z1 z1 z1) ?_;refine z6 12 (dz 4 268599296) [2,3,4,7] [] [(w.z+1,0,1)] [.ops [1,0] [1,2],.code [1,1]] [⟨o,124,false,[i6 y,i6 zv,yt A n cp]⟩,⟨w.z,85,true,[pt o 0]⟩,⟨w.z+1,3,true,[i6 ya]⟩] [] (w.z+2) ?_;refine DV (i6 (af ya)) _ _ (some 8) [] tI rfl (λG E=>lj ya G) λc gL=>?_;refine z6 14 (dz 4 0x100180010028) [2,3,4,5,9,10] [] [(w.z+1,0,1),(w.z,0,1)] [.ops (Ac 60) [2],y6 61,y6 31] [⟨o,124,false,[i6 y,i6 zv,yt A n cp]⟩,⟨w.z,85,true,[pt o 0]⟩,⟨w.z+1,3,true,[i6 (af ya)]⟩,⟨c,50,true,[z7]⟩] [] (c+1) ?_;refine Ip (w:=w) (S':=z8) (Y:=Nat×Nat) (λ(⟨z,C⟩:Nat×Nat)=>.func (.func 96) #[] #[pt z 0,pt C 0]) (λ(⟨z,C⟩:Nat×Nat)=>Mu y zv ya n A cp o z C w c) (λ(⟨z,C⟩:Nat×Nat) gb=>c+1<=z∧z<C) (v7:_=some (59,[pt o 0,.func (.func 60) #[] #[pt (w.z+1) 0]],some 11,[])) tI (λG E=>?_) (λp d0 es eS=>?_)
 ·refine(ua o (w.z+1) 60 G).mono λaV ad O=>?_;obtain⟨z,C,O,K,X,aR,b4,L⟩:=O;have bt:G.z=c+1:=E.size;exact⟨(z,C),O,⟨yq,X⟩,(ab.add E L [⟨z,85,false,_⟩,⟨C,142,false,_⟩] ⟨aR,b4,trivial⟩ (by simp;omega) (by simp;omega)).2⟩
 obtain⟨z,C⟩:=p;obtain⟨gB,gC⟩:=es;refine Aq 5 [] [2,3,4,5,11] [] [] [y6 122,.zq 0,y6 31] ⟨[(2,pt w.z 0),(3,pt (w.z+1) 0),(4,z7),(5,pt c 0),(11,.func (.func 96) #[] #[pt z 0,pt C 0])],Mu y zv ya n A cp o z C w c,[],d0.z⟩ ?_;refine dH (Ex:=[⟨o,124,false,[i6 y,i6 zv,yt A n cp]⟩,⟨w.z,85,false,[pt o 0]⟩,⟨w.z+1,3,false,[i6 (af ya)]⟩,⟨c,50,true,[z7]⟩,⟨z,85,false,[pt o 0]⟩,⟨C,142,false,[.func (.func 60) #[] #[pt (w.z+1) 0]]⟩]) [false,false,false,true,false,false] rfl (λI eR bd=>?_);have cK:au z8 w I:=(ab.A0 eS eR).x2;have gr:o<I.z:=(bd.at_ 0 rfl).lt;have gs:w.z+1<I.z:=(bd.at_ 2 rfl).lt;have co:c<I.z:=(bd.at_ 3 rfl).lt;have cq:z<I.z:=(bd.at_ 4 rfl).lt;have gA:C<I.z:=(bd.at_ 5 rfl).lt;have er:=c2.x2 cK (λ_ _ b=>b);have eP:w.z<=I.z:=cK.size;have cO:∀x,dg A x->x<w.z:=λx g=>(c2.own x g).2;have gO:w.z<=c:=by omega
 refine lk (α:=Nat) (wn:=[]) (gf:=96) (enc:=λx=>i6 (x:Int)) (N:=om (λu:ar=>decide (af ya-u.ES>=2)) zL) rfl rfl (enters_of func96 v7 rfl)
  (pw I (λx=>x=c∨dg A x) (λcR eb cU=>[⟨o,124,false,[i6 y,i6 zv,yt A n cp]⟩,⟨w.z,85,false,[pt o 0]⟩,⟨w.z+1,3,false,[i6 (af ya)]⟩,⟨c,50,true,[yt cR eb cU]⟩,⟨z,85,false,[pt o 0]⟩,⟨C,142,false,[.func (.func 60) #[] #[pt (w.z+1) 0]]⟩]) 65 26 (λh=>aJ y (mf zL h)) v8 141 A n cp (λh=>fg (af ya) h zL)) (λ(_:aH)(_:World)=>False) (pw.own (bT _)) (λ_ _ _ _ b=>b.elim) ?h0
  (uc I z C o (w.z+1) cp n y zv (af ya) A zL b6 yq ?Wt ?WD ?J1) ?WJ (λ_ _ _ b H=>b.same H) (λx:Nat=>[(12,i6 (x:Int)),(2,pt w.z 0),(3,pt (w.z+1) 0),(4,z7),(5,pt c 0),(11,.func (.func 96) #[] #[pt z 0,pt C 0])]) (λx:Nat=>[(6,i6 (x:Int)),(12,i6 (x:Int)),(2,pt w.z 0),(3,pt (w.z+1) 0),(4,z7),(5,pt c 0),(11,.func (.func 96) #[] #[pt z 0,pt C 0])]) (λ_=>rfl) ?Xp ?body ?done (λ_ _ _ _ b=>b.elim)
 case h0=>exact λG E=>⟨none,0,by have b:=(ab.wide E (S':=(λx=>x=c∨dg A x)) (λx b=>.inl (by obtain⟨Q,d,ac,O⟩:=b;simp at d;rcases d with rfl|rfl|rfl|rfl|rfl|rfl<;>simp at O ac;exact O.symm)));rw[<-E.size]at b;exact b,ah.nil _ _ _ _,by show ah G v8 _ 13 A n cp (bP (fg _ [] zL));rw[Ks];exact er.x2 E.x2 (λx g b=>by obtain⟨Q,d,ac,O⟩:=b;have L:=cO x g;simp at d;rcases d with rfl|rfl|rfl|rfl|rfl|rfl<;>simp at O ac;omega)⟩
 case Wt=>simp;omega
 case WD=>have:=bs.lt;omega
 case J1=>exact λj u Z=>J1 j u Z
 case WJ=>
  rintro h gc ⟨cR,cU,K,X,aR⟩;exact⟨K.x2.mono (λ_ _ _=>trivial),K.at_ 4 rfl,K.at_ 5 rfl,K.at_ 2 rfl,λ_=>b6▸K.at_ 0 rfl,λj u Z eL=>by obtain⟨a4,c0,c1,_,d1⟩:=nz aR (xz Z (λb=>absurd (eL j b) (Nat.lt_irrefl _)));exact⟨a4,c0,c1,d1⟩⟩
 case Xp=>
  intro x l T;refine mj (λ_=>tI) 6 [y2] [6,12,2,3,4,5,11] [] [] [] ⟨[(6,i6 (x:Int)),(12,i6 (x:Int)),(2,pt w.z 0),(3,pt (w.z+1) 0),(4,z7),(5,pt c 0),(11,.func (.func 96) #[] #[pt z 0,pt C 0])],[],[],T.z⟩ ?_;exact eM (λa G c3 E=>⟨rfl,E.x2,c3⟩)
 case body=>
  rintro l h x T ⟨D,F,b3,a9,b7⟩ ⟨u,Z,gK,ds⟩;have de:x ∉ h:=λb=>absurd (qD x (ds▸b)) (Nat.lt_irrefl _);have da:=xz (ya:=af ya) Z de;obtain⟨q,d4,gl,eK,gW⟩:=nz b7 da;subst d4;have cC:x<n:=by have:=(cF.1 Z).1;omega
  obtain⟨J,a8,fa,e8,db⟩:∃r,A2 T q 141 (bP (fg (af ya) h zL)++r)∧n<=cp∧cp<=maxLen∧(bP (fg (af ya) h zL)++r).length=cp*13:=by
   rcases b7.zq with⟨b,_⟩|⟨a4,r,b,_,X,aR,b4,L⟩
   ·cases b
   ·cases b
    exact⟨r,X,aR,b4,L⟩
  have gS:h.length<=x:=by rw[ds];exact ll
  have gR:q<w.z:=cO q ⟨_,rfl,rfl⟩;have a3:=a9.own;have dd:=b3.x2.size;have g0:q≠o:=λaV=>by have V:=b3.at_ 0 rfl;unfold A2 at V a8;rw[<-aV,a8]at V;simp at V
  refine⟨ld y zv ya n h cp D F o z C q w c,b3.again,?_⟩;refine mj (λ_=>tI) 5 [] [2,3,4,5,6] [] [] [y6 980,y6 981,.zq 1] ⟨[(2,pt w.z 0),(3,pt (w.z+1) 0),(4,z7),(5,pt c 0),(6,i6 (x:Int))],ld y zv ya n h cp D F o z C q w c,[],T.z⟩ ?_;refine jW (f0:=9) (ls:=bA 9 0) v7 v7 v7 v7 v7 (λW cf=>?_);have a0:∀p,p=q->p≠c:=λp c0 c1=>by omega
  have R:∀(ed:av) p,ao [⟨o,124,false,[i6 y,i6 zv,.slice (some ⟨q,0,none⟩) n cp]⟩,⟨w.z,85,false,[pt o 0]⟩,⟨w.z+1,3,false,[i6 (af ya)]⟩,⟨c,50,true,ed⟩,⟨z,85,false,[pt o 0]⟩,⟨C,142,false,[.func (.func 60) #[] #[pt (w.z+1) 0]]⟩] p->p=c:=λ_ p b=>(by obtain⟨Q,d,ac,O⟩:=b;simp at d;rcases d with rfl|rfl|rfl|rfl|rfl|rfl<;>simp at O ac;exact O.symm);have fr:eh T (λp=>p=c∨p=q) (yr y zv ya n h cp D F o z C q w c) (yu ya u zL x h q J):=by
   intro M e G ad bk d E g H
   match M,d,g with
   |0,d,g=>
    obtain rfl:=ap d;exact g.x2 H (λb=>a0 _ rfl (R _ _ b))
   |1,d,g=>
    obtain rfl:=ap d;exact g.x2 H (λb=>a0 _ rfl (R _ _ b))
   |M+2,d,g=>exact trivial
  have fz:yv y zv ya u zL n x h cp D F o z C q W w T c J 8:=V8 (s:=0) (x:=λe=>Instr.storeAt 3 (pt q (0+x*13+12)) (i6 (af ya))) (λ(e:Unit)(_:Unit)=>e) (λe G bk d E g cL=>by
   obtain rfl:=ap d;have K:=jB (P:=prog) G 3 q (0+x*13+12) 141 _ (i6 (af ya)) v7 g (by rw[db];show _+1<=_;omega) (by simp[Value.cells,Value.oneCell']);rw[show(0+x*13+12)=x*13+12 by omega]at K;have X:=Kt (r:=J) da (af ya);have en:=K.trans (congrArg (λl:av=>Result.ok () (G.setRow q l.toArray)) X);exact⟨(),_,(show 0+x*13+12=x*13+12 by omega)▸en,rfl,gZ g _,E.A3 (λ_ b=>b) (f9 G q _) (λp b=>.inl (.inr b)) (λQ d b=>by simp at d;rcases d with rfl|rfl|rfl|rfl|rfl|rfl<;>simp at b<;>omega),bC (iY G q _).symm⟩)
  have fo:∀a2∈(f5 1 [1,2,4,7]++[rY 0 1 1 0 1 w.z,rY 3 1 0 2 1 o,⟨5,1,oA 2 0 1,λ_=>[],λ_=>[(w.z+1,0,1)]⟩,⟨6,1,HA,λ_=>[oE ((0:Int)<=(x:Int)∧(x:Int)<((n:Nat):Int))],λ_=>[]⟩]:List (fG (Unit))),yv y zv ya u zL n x h cp D F o z C q W w T c J a2.i:=bp _ fr (λe=>v7) v7 (λe ec=>v7);have fn:∀b0,b0<9->yv y zv ya u zL n x h cp D F o z C q W w T c J b0:=f6 (l:=[8]) v7 fo ⟨fz,trivial⟩;refine jX (Δ:=Unit) (λp=>p=c∨p=q) (HR ya n x cp o q) HT (yr y zv ya n h cp D F o z C q w c) (yu ya u zL x h q J) [2,3,4,5,6] (λe=>[(2,pt w.z 0),(3,pt (w.z+1) 0),(4,z7),(5,pt c 0),(6,i6 (x:Int))]) (λe=>ld y zv ya n h cp D F o z C q w c) () (λp b=>.inl (R _ p b)) v7 v7 v7 (λG E=>a8.x2 E.x2 (λb=>a0 _ rfl (R _ _ b))) v7 fn (λe=>v7) (λe=>v7) (λe U e9 co gM cs=>?_);have fl:∀(i:Nat)(v:Value),({u with ES:=af ya}:ar).cells[i]?=some v->(bP ((fg (af ya) h zL).set x {u with ES:=af ya})++J)[0+x*13+i]?=some v:=λi v cl=>by
   have e4:x<(fg (af ya) h zL).length:=by rw[nA];omega
   have L:=qE (List.getElem?_set_self (a:={u with ES:=af ya}) e4) (j:=i) (by have ak:=(cF.1 cl).1;exact ak);rw[show 0+x*13+i=x*13+i by omega];exact(ip (by have:=(cF.1 (L.trans cl)).1;exact this)).trans (L.trans cl)
  refine cf _ _ _ ?_;refine mj (λ_=>tI) 3 [] [2,4,5,6] [] [] [y6 981,.zq 1] ⟨[(2,pt w.z 0),(4,z7),(5,pt c 0),(6,i6 (x:Int))],ld y zv ya n h cp D F o z C q w c,[],U.z⟩ ?_;refine jW (f0:=13) (ls:=bA 13 0) v7 v7 v7 v7 v7 (λW cf=>?_);have df:¬dg D q:=λb=>by have:=(a3 _ b).1;omega
  have e6:=a9.x2 cs.x2 (λx g b=>by have L:=(a3 x g).1;omega);have e1:∀Q∈((ld y zv ya n h cp D F o z C q w c):ax),¬dg D Q.g:=by
   intro Q d g;have L:=(a3 _ g).1;simp at d;rcases d with rfl|rfl|rfl|rfl|rfl|rfl
   all_goals (simp at L;omega)
  have e3:I.z<=U.z:=az dd cs.x2.size;have cP:eh U (λp=>p=c∨dg D p) (t7 y zv ya n h cp D F o z C q w c) (t8 y ya u zL x h D F q I U J):=by
   intro M e G ad bk d E g H
   match M,d,g with
   |0,d,g=>
    obtain rfl:=ap d;exact⟨⟨g.1.1.x2 H (λb=>a0 _ rfl (R _ _ b)),g.1.2.x2 H (λp an b=>by have L:=R _ p b;have ak:=(g.1.2.own p an).1;omega)⟩,λaq b2=>⟨(g.2 aq b2).1,(g.2 aq b2).2.x2 H (λb=>by have L:=R _ _ b;have ak:=(g.2 aq b2).1;omega)⟩⟩
   |1,d,g=>
    obtain rfl:=ap d;exact⟨⟨g.1.1.x2 H (λb=>a0 _ rfl (R _ _ b)),g.1.2.x2 H (λp an b=>by have L:=R _ p b;have ak:=(g.1.2.own p an).1;omega)⟩,trivial⟩
   |2,d,g=>
    obtain rfl:=ap d;exact⟨⟨g.1.1.x2 H (λb=>a0 _ rfl (R _ _ b)),g.1.2.x2 H (λp an b=>by have L:=R _ p b;have ak:=(g.1.2.own p an).1;omega)⟩,trivial⟩
   |M+3,d,g=>exact trivial
  have f1:jA y zv ya u zL n x h cp D F o z C q W w I U c J 8:=fV (B:=2) (x:=λe=>Instr.loadAt 141 (pt q (0+x*13))) (λe=>aE (EI ya u)) v7 (.inl rfl) (λe=>v7) (λe=>v7) (λe=>v7) (λe=>v7) (λM e G bk bs d E g=>xA G 141 q _ 141 _ (ar.cells {u with ES:=af ya}) v7 v7 (show A2 G q 141 (bP ((fg (af ya) h zL).set x {u with ES:=af ya})++J)by rcases M with _|_|_|M<;>first|exact g.1.1|cases d) fl);have f2:jA y zv ya u zL n x h cp D F o z C q W w I U c J 9:=eO (B:=0) (f:=61) (args:=λe=>[pt o 0,aE (EI ya u)]) (ob:=λe=>[]) (λe=>aE (yo y u)) v7 (.inr ⟨11,by kernel_rfl,aS (i:=2) v7⟩) (λe=>v7) (λe=>v7) (λe=>v7) (λe=>trivial) (λM e G bk bs d E g=>(by have a2:M=0:=yq;subst a2;obtain rfl:=ap d;exact px y zv (ae q) n cp o {u with ES:=af ya} G (E.zq _ (aS (i:=0) rfl)))) cP;have f3:jA y zv ya u zL n x h cp D F o z C q W w I U c J 10:=W1 0 65 (yo y u) (λe a4=>(some a4,e.2)) (λa4=>.slice (ae a4) 1 1) (λM e G ad bk b8 d E g H cm eq=>by
   have bt:=cP M e G ad bk d E g H
   match M,d,g,bt,b8 with
   |0,d,g,bt,b8=>exact⟨bt.1,(λaq b2=>by obtain rfl:=ap b2;exact⟨cm,eq⟩)⟩
   |M+1,d,g,bt,b8=>exact absurd b8 yq)
  have f7:jA y zv ya u zL n x h cp D F o z C q W w I U c J 11:=Xa (s:=0) (x:=λe=>Builtin.append_ #[50,50] 50 #[yt D h.length F,yt (ae (e.1.getD 0)) 1 1]) (λ(e:Option Nat×(aO))(a2:aO)=>(e.1,a2)) (λe=>yt e.2.1 (h.length+1) e.2.2) (λe G bk d E g cL=>by
   obtain rfl:=ap d;obtain⟨c4,ga,M⟩:=e;obtain⟨aq,rfl⟩:∃aq,c4=some aq:=cV.1 (cL 10 (aS (i:=1) v7) (d9 (k:=31) v7));obtain⟨gP,ep⟩:=g.2 aq rfl;obtain⟨a5,b1,ad,K,X,aR,b4⟩:=ce (P:=prog) G I.z 50 50 65 (.agg #[i6 0,i6 0,i6 0,bO_ false,i6 0,i6 0,i6 0,i6 0,i6 0,i6 0,i6 0,i6 0,sT ⟨#[]⟩,i6 0,i6 0,i6 0,bO_ false,i6 0,i6 0,i6 0,sT ⟨#[]⟩,bO_ false,i6 0,i6 0,i6 0,sT ⟨#[]⟩]) 26 232 D h.length F (aJ y (mf zL h)) ⟨aq,0,none⟩ 1 1 (EJ y u) v7 v7 v7 (by decide) g.1.2 rfl (λj v ea=>by rw[bY,bG];exact ep.at_ ea) (aU rfl) yq (by decide) (az e3 E.x2.size);rw[Ku Z]at X;exact⟨(a5,b1),ad,K,rfl,⟨⟨g.1.1.x2 aR df,X⟩,trivial⟩,E.A3 (λ_ b=>b) aR (λp an=>.inl (.inr an)) e1,aR.size⟩)
  have f8:jA y zv ya u zL n x h cp D F o z C q W w I U c J 12:=V8 (s:=1) (x:=λe=>Instr.storeAt 50 (pt c 0) (yt e.2.1 (h.length+1) e.2.2)) (λ(e:Option Nat×(aO))(_:Unit)=>e) (λe G bk d E g cL=>by
   obtain rfl:=ap d;obtain⟨ad,K,c5,cr,e5⟩:=cG (P:=prog) (t:=50) (v:=yt e.2.1 (h.length+1) e.2.2) (cs':=[yt e.2.1 (h.length+1) e.2.2]) v7 (E.at_ 3 rfl) rfl (by show 0+1<=1;omega) (aU rfl) rfl;exact⟨(),ad,K,rfl,⟨⟨g.1.1.x2 cr (a0 _ rfl),g.1.2.x2 cr (λp an b=>by have L:p=c:=b;have ak:=(g.1.2.own p an).1;omega)⟩,trivial⟩,(E.PA 3 rfl rfl cr c5).2,bC e5.symm⟩)
  have fv:∀a2∈(f5 2 [3,4,6]++[rY 0 1 3 0 1 c,rY 1 2 1 0 1 w.z,rY 2 2 1 0 1 w.z,rY 5 2 0 2 1 o,⟨7,2,HA,λ_=>[oE ((0:Int)<=(x:Int)∧(x:Int)<((n:Nat):Int))],λ_=>[]⟩]:List (fG (Option Nat×(aO)))),jA y zv ya u zL n x h cp D F o z C q W w I U c J a2.i:=bp _ cP (λe=>v7) v7 (λe ec=>v7);have fs:∀b0,b0<13->jA y zv ya u zL n x h cp D F o z C q W w I U c J b0:=f6 (l:=[8,9,10,11,12]) v7 fv ⟨f1,f2,f3,f7,f8,trivial⟩;refine jX (Δ:=Option Nat×(aO)) (λp=>p=c∨dg D p) (CC y ya u n x h cp D F o q) CD (t7 y zv ya n h cp D F o z C q w c) (t8 y ya u zL x h D F q I U J) [2,4,5,6] (λe=>[(2,pt w.z 0),(4,z7),(5,pt c 0),(6,i6 (x:Int))]) (λe=>[⟨o,124,false,[i6 y,i6 zv,yt (ae q) n cp]⟩,⟨w.z,85,false,[pt o 0]⟩,⟨w.z+1,3,false,[i6 (af ya)]⟩,⟨c,50,true,[yt e.2.1 (h.length+1) e.2.2]⟩,⟨z,85,false,[pt o 0]⟩,⟨C,142,false,[.func (.func 60) #[] #[pt (w.z+1) 0]]⟩]) (none,(none,0)) (λp b=>.inl (R _ p b)) v7 v7 v7 (λG E=>⟨⟨co.x2 E.x2 (λb=>a0 _ rfl (R _ _ b)),e6.x2 E.x2 (λp an b=>by have L:=R _ p b;have ak:=(a3 p an).1;omega)⟩,λ_ b=>by cases b⟩) v7 fs (λe=>v7) (λe=>v7) (λe bg e9 bb gN eW=>?_);obtain⟨c4,a1,a7⟩:=e;obtain⟨⟨cq,bb⟩,_⟩:=bb;replace cq:A2 bg q 141 (bP ((fg (af ya) h zL).set x {u with ES:=af ya})++J):=cq;replace bb:ah bg I.z 65 26 a1 (h.length+1) a7 (aJ y (mf zL (h++[x]))):=bb;change aF _ _ _ _ bg (ao (yp y zv ya n h cp a1 a7 o z C q w c)) _ [.inv W] ⟨[(2,pt w.z 0),(4,z7),(5,pt c 0),(6,i6 (x:Int))],yp y zv ya n h cp a1 a7 o z C q w c,[],bg.z⟩;refine cf _ _ _ ?_;refine mj (λ_=>tI) 4 [] [4] [] [] [] ⟨[(4,z7)],yp y zv ya n h cp a1 a7 o z C q w c,[],bg.z⟩ ?_;refine eM (λa G c3 E=>?_);have cB:=ab.A0 eW E;have c6:au (λp=>p=c∨dg D p) U G:=cB.x2;have c7:au (λp=>(p=c∨p=q)∨dg D p) T G:=yw cs.x2 c6 (λp _ b=>b.elim (λb=>.inl (.inl b)) .inr) (λp b=>.inl b);have e7:∀x,dg a1 x->¬ao (yp y zv ya n h cp a1 a7 o z C q w c) x:=λx g b=>by
   obtain⟨Q,d,ac,O⟩:=b;have L:=(bb.own x g).1;simp at d;rcases d with rfl|rfl|rfl|rfl|rfl|rfl<;>simp at ac O;omega
  refine⟨gU c7 (λk u H Z=>?_),.inl ⟨rfl,?_⟩⟩
  ·rcases H with(rfl|rfl)|H
   ·have V:=b3.at_ 3 rfl;unfold A2 at V;rw[Z]at V;cases V;rfl
   ·unfold A2 at a8;rw[Z]at a8;cases a8;rfl
   ·obtain⟨eg,d2,V⟩:=a9.ty k H;rw[Z]at V;cases V;rfl
  ·refine⟨a1,a7,?_,?_,?_⟩
   ·rw[show(h++[x]).length=h.length+1 by simp];refine⟨rfl,cB.zq,λQ d ac=>?_,cB.nd,b3.x2.trans c7 (λk H b=>?_),λ_ g=>by cases g⟩
    ·simp at d;rcases d with rfl|rfl|rfl|rfl|rfl|rfl<;>simp at ac;exact .inl (.inl rfl)
    ·rcases b with(b|b)|b
     ·exact .inl b
     ·exact .inr ⟨_,rfl,b⟩
     ·exact absurd H (Nat.not_lt.2 (a3 k b).1)
   ·rw[show(h++[x]).length=h.length+1 by simp];exact bb.x2 E.x2 e7
   ·show ah G v8 141 13 _ n cp (bP (fg (af ya) (h++[x]) zL))
    rw[EK Z de];have ak:(bP ((fg (af ya) h zL).set x {u with ES:=af ya})).length=n*13:=by rw[jt,List.length_set,nA,b6]
    refine jn eK (co.x2 c6 (λb=>b.elim (λb=>yq) df)) fa e8 ak ?_;rw[<-db,bM,bM,ak,jt,nA,b6]
 case done=>
  rintro dv gn T rfl ⟨D,F,cA,a9,b7⟩ gd bl;have dt:mf zL (cc (λu:ar=>decide (af ya-u.ES>=2)) zL zL.length)=fd (af ya) zL:=EL;have fb:fg (af ya) (cc (λu:ar=>decide (af ya-u.ES>=2)) zL zL.length) zL=fP (af ya) zL:=CE;have c9:List.length (cc (λu:ar=>decide (af ya-u.ES>=2)) zL zL.length)=(fd (af ya) zL).length:=by rw[<-dt];exact(CF qD).symm
  obtain⟨a6,cC⟩:∃a6,a6=List.length (cc (λu:ar=>decide (af ya-u.ES>=2)) zL zL.length):=⟨_,rfl⟩;have b5:=cA.at_ 3 rfl;have a3:=a9.own;have dd:=cA.x2.size;have eN:au (dg A) w T:=cK.mono (λ_ _ b=>b.elim) |>.trans cA.x2 (λk H b=>b.elim (λb=>yq) id);refine⟨[⟨c,50,true,[yt D a6 F]⟩],ab.start (λQ d=>?_) (λQ d _=>⟨Q,d,‹_›,rfl⟩) z1 z1,?_⟩
  ·obtain rfl:=aG.1 d;exact cC▸b5
  refine Aq 9 (dz 2 65544) [4] [] [(c,0,1)] [y6 63] ⟨[(4,yt D a6 F)],[⟨c,50,true,[yt D a6 F]⟩],[],T.z⟩ ?_;have e2:¬dg D (c):=λb=>by have:=(a3 _ b).1;omega
  have e0:dv≠c:=by
   intro b;rw[b]at bl;unfold A2 at b5;rw[bl]at b5;cases b5
  refine oo [] (dp.1 bl).1 bl (λ⟨Q,d,ac,O⟩=>by obtain rfl:=aG.1 d;exact e0 O.symm) v7 (v7:_=some ([yt D a6 F],aX [])) (λG E=>?_);have du:∀(aV:TypeId)(b9:Nat)(a5:aY)(cn b1 ca:Nat)(cb:av),ah T ca aV b9 a5 cn b1 cb->¬dg a5 (c)->ah G ca aV b9 a5 cn b1 cb:=λaV b9 a5 cn b1 ca cb b cm=>b.x2 E.x2 (λx g d3=>by
   rcases d3 with⟨Q,d,ac,rfl⟩|rfl
   ·obtain rfl:=aG.1 d;exact cm g
   ·obtain⟨eg,d2,V⟩:=b.ty _ g;rw[bl]at V;cases V)
  have K:=du _ _ _ _ _ _ _ a9 e2;have X:=du _ _ _ _ _ _ _ b7 (λb=>by have:=cO _ b;omega);simp only[dt]at K;simp only[fb]at X;rw[c9]at K;refine⟨D,F,?_,K.below eP,X,eN.trans E.x2 (λk H b=>?_)⟩
  ·rw[<-c9,<-cC];rfl
  ·rcases b with⟨Q,d,ac,rfl⟩|rfl
   ·obtain rfl:=aG.1 d;exact absurd H (show ¬(c<_)by omega)
   ·omega
variable {w:World}{v8 a:Nat}{c:CM}(ya:Int)
theorem GO(h:bO 124 141 w v8 a c)(k:∀b∈c.zL,af ya-b.asked<8):aC 56 #[pt a 0,i6 ya] w (λi g=>∃e f,i=.returned (yt e 0 f)∧ah g w.z 3 1 e 0 f []∧au z8 w g):=by
 obtain⟨j,l,m,o,p⟩:=h;refine(Dm c.Ar c.last ya l c.zL.length m a v8 c.zL rfl (by have:=j.X2;omega) (λu b d=>by have v:=jz ya;have:=j.asked b (aS d);omega) (by rw[show cc (λb=>decide (af ya-b.asked>=8)) c.zL c.zL.length=[]from List.filter_eq_nil_iff.2 λt _=>by split<;>first|(rename_i b d;have:=k b (aS d);exact λh=>absurd (gV h) yq)|exact λh=>Bool.noConfusion h];decide) w o p).mono λi g ⟨e,f,x,n,r,q,s⟩=>?_;obtain rfl:=q.2.1.2 (λb d=>by have:=k b d;omega);exact⟨e,f,n,r,s⟩
theorem L9{o:ar}(h:bO 124 141 w v8 a c)(b:c.zL=[o])(u:af ya-o.asked>=8):aC 56 #[pt a 0,i6 ya] w (λf e=>∃g d,f=.returned (yt (ae g) 1 d)∧ah e w.z 3 1 (ae g) 1 d (ai bo [o.to])∧au z8 w e):=by
 obtain⟨i,l,n,r,s⟩:=h;refine(Dm c.Ar c.last ya l c.zL.length n a v8 c.zL rfl (by have:=i.X2;omega) (λy o b=>by have A:=jz ya;have:=i.asked o (aS b);omega) (by rw[b];exact Nat.lt_succ_of_le ll) w r s).mono λf e ⟨z,d,B,p,j,t,v⟩=>?_;obtain rfl:=t.2.2 o b u;have x:=j.2;rcases x with⟨_,q⟩|⟨m,C,D,k,_⟩
 ·exact absurd q z1
 ·simp only[Value.slice.injEq]at k;obtain⟨rfl,_,rfl⟩:=k;exact⟨m,_,p,j,v⟩
theorem yc(h:bO 124 141 w v8 a c):aC 38 #[pt a 0,i6 ya] w (λs d=>∃g i,s=.returned (yt g (fd (af ya) c.zL).length i)∧bO 124 141 d v8 a {c with zL:=fP (af ya) c.zL}∧ah d w.z 65 26 g (fd (af ya) c.zL).length i (aJ c.Ar (fd (af ya) c.zL))∧au (lE 141 v8 a w) w d):=by
 obtain⟨b,e,j,l,m⟩:=h;refine(Kr c.Ar c.last ya e c.zL.length j a v8 c.zL rfl (by have:=b.X2;omega) (λC k f=>by have D:=jz ya;have:=b.ES k (aS f);omega) w l m).mono λs d ⟨g,i,v,z,y,t⟩=>?_;have B:¬dg e a:=λp=>by
  obtain⟨_,_,x⟩:=m.ty a p;have n:=l;unfold A2 at n;rw[x]at n;simp at n
 have o:(fP (af ya) c.zL).length=c.zL.length:=by simp[fP]
 have A:=jz ya;refine⟨g,i,v,⟨⟨by show(fP _ _).length<=8;rw[o];exact b.X2,b.last,λk f=>?_,λk f=>?_⟩,e,j,?_,?_⟩,z,t.mono (λu _ p=>vi m u (.inr p))⟩
 ·obtain⟨q,r,rfl⟩:=aT.1 f;have:=b.asked q r;split<;>exact this
 ·obtain⟨q,r,rfl⟩:=aT.1 f;have:=b.ES q r;split
  ·exact A
  ·exact this
 ·show A2 d a 124 [i6 c.Ar,i6 c.last,yt e (fP _ _).length j]
  rw[o];exact l.x2 t B
 ·show ah d v8 141 13 e (fP _ _).length j (bP (fP _ _))
  rw[o];exact y
def VE(x:am)(c:CM)(d:Nat)(v8:Nat)(a:aY)(c1:Nat)(L:List ar)  (m:Nat) (st:St) (b:World):Prop:=
 ∃(v0:Value)(z:Nat),m=0∧bq b v8 x.lb x.cb c L v0∧ah b v8 3 1 a 0 c1 ([])∧st=⟨[(0,pt d 0),(4,i6 0),(5,bO_ false),(13,yt a 0 c1),(14,i6 0),(15,i6 0)],[bh d {x with ak:=v0}],[],z⟩
theorem Bs(x:am)(c:CM)(L:List ar)(a:Nat)(v8:Nat)(ya:Int)(K:∀u∈c.zL,af ya-u.asked<8)(w:World)(A:aP w v8 a x c L)(H:v8<=w.z):aC 34 #[pt a 0,i6 ya] w (λm i=>m=.returned (.tuple #[i6 0,bO_ false])∧aP i v8 a x c L∧au (be [] v8 x.lb a x.cb w) w i):=by
 obtain⟨f,q,z⟩:=A;have D:=aw q;refine cH (S:=(λo=>o=a)) (n:=28) Tryz.func34 (ab.D1 q) ?_;refine z6 16 (dz 7 0x1020800000) [0,4,5,11,12] [] [(a,2,1)] [.ops (Ac 12) [5,6,7],y6 13,.code [1,1]] [bh a {x with ak:=f}] [] w.z ?_;refine Ip (w:=w) (S':=bL [] v8 x a w) (Y:=aO) (λe=>yt e.1 0 e.2) (λe=>[bh a {x with ak:=f}]) (λe p=>bq p v8 x.lb x.cb c L f∧ah p v8 3 1 e.1 0 e.2 ([])) (v7:_=some (56,[pt x.cb 0,i6 ya],some 13,[])) tI (λj b=>?_) (λe v G l=>?_)
 ·have t:=(b.wide (S':=bL [] v8 x a w) (λ_ d=>.inl d));have I:v8<=j.z:=az H t.x2.size;have k:=(z.y4 (es:=[98]) b.x2 (λo B=>by subst B;exact⟨98,z1,D⟩) rfl rfl rfl);refine(GO ya k.1 K).mono λm i M=>?_;obtain⟨g,h,J,O,r⟩:=M;exact⟨(g,h),J,⟨(k.y4 (es:=[]) r (λ_ d=>d.elim) rfl rfl rfl),O.below I⟩,t.A3 (λ_ d=>d) r (λ_ d=>d.elim) (λ_ _ d=>d)⟩
 obtain⟨g,h⟩:=e;obtain⟨E,N⟩:=G;refine Aq 7 (dz 2 0) [0,4,5,13,14,15] [] [] [y6 26,.zq 0,.code [1,1]] ⟨[(0,pt a 0),(4,i6 0),(5,.bool false),(13,.slice g 0 h),(14,i6 0),(15,i6 0)],[bh a {x with ak:=f}],[],v.z⟩ ?_;refine bm (w:=w) (S':=bL [] v8 x a w) (VE x c a v8 g h L) 0 v7 (λT b=>⟨⟨f,_,rfl,E.kT b l,N.kT b l,rfl⟩,ab.A0 l b⟩) ?_;rintro Q _ y ⟨C,R,X,F,W,rfl⟩ s P U;refine z6 15 (dz 4 0) [4,5] [fF] [] [y6 15] [bh a {x with ak:=C}] [] y.z ?_;refine B1 [] [i6 0,.bool false] [] ?_;intro j b;exact⟨rfl,⟨_,b.at_ 0 rfl,F.kT b s⟩,(ab.A0 s b).x2⟩
def VF(x:am)(c:CM)(d:Nat)(v8:Nat)(c1:Nat)(L:List ar)(b:Nat)(o:ar)  (m:Nat) (st:St) (a:World):Prop:=
 ∃(v0:Value)(z:Nat),m=1∧bq a v8 x.lb x.cb c L v0∧ah a v8 3 1 (ae b) 1 c1 (ai bo [o.to])∧st=⟨[(0,pt d 0),(4,i6 0),(5,bO_ false),(13,yt (ae b) 1 c1),(14,i6 1),(15,i6 0)],[bh d {x with ak:=v0}],[],z⟩
theorem Bt(x:am)(c:CM)(L:List ar)(a:Nat)(v8:Nat)(o:ar)(ya:Int)(H:c.zL=[o])(G:af ya-o.asked>=8)(ac:o.to<x.N)(w:World)(F:aP w v8 a x c L)(O:v8<=w.z):aC 34 #[pt a 0,i6 ya] w (λu m=>u=.returned (.tuple #[i6 o.to,bO_ true])∧aP m v8 a x c L∧au (be [] v8 x.lb a x.cb w) w m):=by
 obtain⟨h,y,E⟩:=F;have J:=aw y;refine cH (S:=(λl=>l=a)) (n:=28) Tryz.func34 (ab.D1 y) ?_;refine z6 16 (dz 7 0x1020800000) [0,4,5,11,12] [] [(a,2,1)] [.ops (Ac 12) [5,6,7],y6 13,.code [1,1]] [bh a {x with ak:=h}] [] w.z ?_;refine Ip (w:=w) (S':=bL [] v8 x a w) (Y:=Nat×Nat) (λg=>yt (ae g.1) 1 g.2) (λg=>[bh a {x with ak:=h}]) (λg v=>bq v v8 x.lb x.cb c L h∧ah v v8 3 1 (ae g.1) 1 g.2 (ai bo [o.to])) (v7:_=some (56,[pt x.cb 0,i6 ya],some 13,[])) tI (λp d=>?_) (λg C N r=>?_)
 ·have A:=(d.wide (S':=bL [] v8 x a w) (λ_ b=>.inl b));have P:v8<=p.z:=az O A.x2.size;have q:=(E.y4 (es:=[98]) d.x2 (λl k=>by subst k;exact⟨98,z1,J⟩) rfl rfl rfl);refine(L9 ya q.1 H G).mono λu m R=>?_;obtain⟨e,j,Q,U,z⟩:=R;exact⟨(e,j),Q,⟨(q.y4 (es:=[]) z (λ_ b=>b.elim) rfl rfl rfl),U.below P⟩,A.A3 (λ_ b=>b) z (λ_ b=>b.elim) (λ_ _ b=>b)⟩
 obtain⟨e,j⟩:=g;obtain⟨K,T⟩:=N;refine Aq 7 (dz 2 0) [0,4,5,13,14,15] [] [] [y6 26,.zq 0,.code [1,1]] ⟨[(0,pt a 0),(4,i6 0),(5,.bool false),(13,.slice (ae e) 1 j),(14,i6 1),(15,i6 0)],[bh a {x with ak:=h}],[],C.z⟩ ?_;refine bm (w:=w) (S':=bL [] v8 x a w) (VF x c a v8 j L e o) 1 v7 (λX d=>⟨⟨h,_,rfl,K.kT d r,T.kT d r,rfl⟩,ab.A0 r d⟩) ?_;rintro V _ D ⟨I,W,ak,M,t,rfl⟩ s B Z;refine aD [⟨e,0,[i6 o.to]⟩] (λ_ l k=>?_) ?_
 ·simp only[bj,cv,or_false]at k;subst k;exact⟨λb=>aN rfl (t.ty e ⟨_,rfl,rfl⟩) (ag s _ b),(t.own e ⟨_,rfl,rfl⟩).2,dj (f:=bo) (λ_=>rfl) t (i:=0) (x:=o.to) rfl⟩
 refine z6 35 [y2,FN,HA,⟨false,0,[⟨true,0,0,1⟩]⟩,y2,y2,y2,y2,y2,y2,oA 0 0 1,y2,FN,y2,y2,y2] [0,4,5,13,14,15] [tT,oE ((0:Int)<=0∧0<((1:Nat):Int)),dT ((o.to:Int)<x.N)] [(e,0,1),(a,0,1)] [y6 13517,.zq 1,y6 423,.inv B,.zq 0,.code [1,1]] [bh a {x with ak:=I}] [⟨e,0,[i6 o.to]⟩] D.z ?_;refine B1 [] [i6 o.to,bO_ true] [] ?_;intro p d;exact⟨rfl,⟨_,d.at_ 0 rfl,M.kT d s⟩,(ab.A0 s d).x2⟩
theorem py(c:Int)(l:List ar):∀b∈aJ c l,b.oneCell'=true:=λb a=>by
 unfold aJ at a
 obtain⟨f,e,a⟩:=List.mem_flatten.1 a
 obtain⟨d,_,rfl⟩:=aT.1 e
 exact(aU (l:=EJ c d) rfl) b a
theorem D9{w:World}{v8 b:Nat}{c:CM}(h:bO 124 141 w v8 b c):∀a,lE 141 v8 b w a->cI [124,141] w a:=by
 rintro a (rfl|⟨_,e,he,d⟩)
 ·exact⟨124,z1,h.zq⟩
 ·exact⟨e,by simp at he ⊢;exact .inr he,d⟩
section
variable (x:am)(pb v8:Nat)(ya:Int)(w:World)(b:Value)(x1:am)(a c:CM)(L1 R:List ar)
@[simp] def oZ:ax:=[bh pb {x1 with ak:=b}]
@[simp] def m4:ax:=[bh pb {x1 with ak:=z7}]
@[simp] def o0(v1:Value):ax:=[bh pb {x with busy:=true,ak:=v1}]
def Ti:Exit->Act->aI:=bodyPost prog f16 (λf b=>∃d e,f=.returned (yt d (L1.length+R.length) e)∧ah b x.lb 65 26 d (L1.length+R.length) e (aJ a.Ar (L1++R))∧ib b v8 pb x1 c∧au (be [141] v8 x.lb pb x.cb w) w b)
def O6:bu:=[(0,pt pb 0),(1,i6 (af ya)),(4,z7)]
def Ea(d:(aO)×(aO)×(aO)):List (Option Value):=[some (pt pb 0),some (yt d.1.1 L1.length d.1.2),some (pt pb 0),some (pt pb 0),some (pt pb 2),some (pt x1.cb 0),some (i6 (af ya)),some (yt d.2.1.1 R.length d.2.1.2),some (yt d.2.2.1 (L1.length+R.length) d.2.2.2),some (yt d.2.2.1 (L1.length+R.length) d.2.2.2)]
def Eb(_:(aO)×(aO)×(aO))(k:Nat):Bool:=(fL 10 [])[k]?.getD true
def wj(_:(aO)×(aO)×(aO)):List (ax):=[oZ pb b x1,m4 pb x1,m4 pb x1,m4 pb x1]
abbrev wk(x:am)(v8:Nat)(b:Value)(a:CM)(c:CM)(L1:List ar)(R:List ar)(f:Nat)(d:(aO)×(aO)×(aO))(e:World):Prop:=match f with|0=>bq e v8 x.lb x.cb a L1 b|1=>(bO 124 141 e v8 x.cb a∧x.lb<=e.z)∧ah e x.lb 65 26 d.1.1 L1.length d.1.2 (aJ a.Ar L1)|2=>(bO 124 141 e v8 x.cb c∧x.lb<=e.z)∧ah e x.lb 65 26 d.1.1 L1.length d.1.2 (aJ a.Ar L1)∧ah e x.lb 65 26 d.2.1.1 R.length d.2.1.2 (aJ a.Ar R)|3=>(bO 124 141 e v8 x.cb c∧x.lb<=e.z)∧ah e x.lb 65 26 d.2.2.1 (L1.length+R.length) d.2.2.2 (aJ a.Ar (L1++R))|_=>True
def m5(d:World)(b:Value)(x1:am)(a:CM)(c:CM)(L1:List ar)(R:List ar)(f:Nat):Prop:=cY prog f16 [1,1,1,1,0] 50 [] (Ti x pb v8 w x1 a c L1 R) [y6 63] (O6 pb ya) (V7 10 [1,7,8]) 3 (Ea pb ya x1 L1 R) Eb d (λe=>(ao (oZ pb b x1)) e∨(be [141] v8 x.lb pb x.cb d) e) (wj pb b x1) d.z (wk x v8 b a c L1 R) f
end
theorem wl(x:am)(c:CM)(L:List ar)(a:Nat)(v8:Nat)(x1:am)(h z:CM)(L1 R:List ar)(ya K:Int)(B:Bool)(ac:x1.lb=x.lb)(Q:x1.cb=x.cb)(hlen:L1.length+R.length<=1000)(w:World)(ca:aP w v8 a ({x with busy:=true}) c L)(bt:v8<=w.z)(c0:∀e,aP e v8 a ({x with busy:=true}) c L->aC 34 #[pt a 0,i6 (af ya)] e (λv i=>v=.returned (.tuple #[i6 K,bO_ B])∧aP i v8 a ({x with busy:=true}) c L∧au (be [] v8 x.lb a x.cb e) e i))(c2:(B=false∧{x with busy:=true}=x1∧c=h∧L=L1∧c.zL.length≠0)∨(B=true∧∀e,aP e v8 a ({x with busy:=true}) c L->v8<=e.z->aC 35 #[pt a 0,i6 (af ya),i6 K] e (λv i=>v=Jx∧aP i v8 a x1 h L1∧au (be [141] v8 x.lb a x.cb e) e i)))(cL:∀e,bO 124 141 e v8 x.cb h->aC 38 #[pt x1.cb 0,i6 (af ya)] e (λv i=>∃U W,v=.returned (yt U R.length W)∧bO 124 141 i v8 x.cb z∧ah i e.z 65 26 U R.length W (aJ h.Ar R)∧au (lE 141 v8 x.cb e) e i)):aC 16 #[pt a 0,i6 ya] w (λv i=>∃T V,v=.returned (yt T (L1.length+R.length) V)∧ah i x.lb 65 26 T (L1.length+R.length) V (aJ h.Ar (L1++R))∧ib i v8 a x1 z∧au (be [141] v8 x.lb a x.cb w) w i):=by
 obtain⟨an,bg,b9⟩:=ca;have cr:=aw bg;refine cH (S:=(λp=>p=a)) (n:=50) func16 (ab.D1 bg) ?_;refine z6 21 (dz 8 5016911872) [0,1,4,12] [fF] [(a,43,1)] [.ops (Ac 14) [1,2],y6 15] [bh a {x with busy:=true,ak:=an}] [] w.z ?_;refine DV (i6 (af ya)) _ _ (some 13) [] tI rfl (λe b=>mU ya e) λcl df=>?_;refine Aq 10 (dz 3 0) [0,1,4,15,16] [] [] [.ops (Ac 60) [2,3,4,5,6,7],y6 61,y6 31] ⟨[(0,pt a 0),(1,i6 (af ya)),(4,z7),(15,pt a 0),(16,i6 (af ya))],[bh a {x with busy:=true,ak:=an}],[],cl⟩ ?_;refine fh (w:=w) (S':=bL [141] v8 x a w) (Y:=Value) (λk=>.tuple #[i6 K,bO_ B]) (λk=>o0 x a k) (λk a0=>bq a0 v8 x.lb x.cb c L k) (λk=>[(17,.tuple #[i6 K,bO_ B]),(0,pt a 0),(1,i6 (af ya)),(4,z7),(15,pt a 0),(16,i6 (af ya))]) (v7:_=some (34,[pt a 0,i6 (af ya)],some 17,[])) tI (λ_=>rfl) (λe b=>?_) (λk aV cB G=>?_)
 ·have H:=(b.wide (S':=bL [141] v8 x a w) (λ_ o=>.inl o));have a7:=(b9.y4 (es:=[98]) b.x2 (λp C=>by subst C;exact⟨98,z1,cr⟩) rfl rfl rfl);have D:aP e v8 a ({x with busy:=true,ak:=an}) c L:=⟨_,b.at_ 0 rfl,a7⟩;refine(c0 e D).mono λv i bb=>?_;obtain⟨a9,⟨a4,a6,ak⟩,a5⟩:=bb;have a8:=D.T' (es:=[]);exact⟨a4,a9,ak,H.HS a5 (bv H.x2 rfl) a6 (bQ b a8 rfl)⟩
 have X:=cB;suffices aR:∀(q:World)(m:Value),bq q v8 x.lb x.cb h L1 m->ab w (bL [141] v8 x a w) (oZ a m x1) [] q.z q->aF [] prog (al f16) 50 q (ao (oZ a m x1)) (Ti x a v8 w x1 h z L1 R) [y6 62,y6 63] ⟨[(0,pt a 0),(1,i6 (af ya)),(4,z7)],oZ a m x1,[],q.z⟩by
  rcases c2 with⟨Z,cR,cO,cp,de⟩|⟨Z,c1⟩
  ·skip;subst cR cO cp;rcases fZ x.lg with N|N
   ·skip;refine z6 26 (dz 17 0x10209111001320800000000000) [0,1,4,30,34] ([oE (B=false) Z]++rE 4 (oE (x.lg=true) N)) [(a,50,1),(a,2,1)] [.ops (Ac 494) [10,11,12],y6 495,y6 31] (o0 x a k) [] aV.z ?_;refine DV (i6 (c.zL.length:Int)) _ _ (some 35) [x.lg=true] ⟨N,tI⟩ rfl (λe b=>i5 (X.kT b G).1) λcm ds=>?_;refine Aq 9 (dz 3 49) [0,1,4] (rE 2 (oE (x.lg=true) N)++[oE (((c.zL.length:Int)==0)=false) (by rw[cw];omega)]) [] [y6 62,y6 63] ⟨[(0,pt a 0),(1,i6 (af ya)),(4,z7)],o0 x a k,[],cm⟩ ?_;refine dH (Ex:=o0 x a k) [true] rfl (λr b O=>?_);have M:bq r v8 x.lb x.cb c L k:=(X.kT b G);have u:=ab.A0 G O;exact aR r k M u
   ·skip;refine Aq 33 (dz 21 0x4000000001320800000000000) [0,1,4] ([oE (B=false) Z]++rE 7 (oE (x.lg=false) N)++[fF]) [(a,50,1)] [y6 62,y6 63] ⟨[(0,pt a 0),(1,i6 (af ya)),(4,z7)],o0 x a k,[],aV.z⟩ ?_;refine dH (Ex:=o0 x a k) [true] rfl (λr b O=>?_);have M:bq r v8 x.lb x.cb c L k:=(X.kT b G);have u:=ab.A0 G O;exact aR r k M u
  ·skip;refine z6 18 (dz 10 16777216) [0,1,4,21,22,23] [oE (B=true) Z] [] [.ops (Ac 246) [3],y6 31] (o0 x a k) [] aV.z ?_;refine Ip (w:=w) (S':=bL [141] v8 x a w) (Y:=Value) (λA=>.tuple #[]) (λA=>[bh a {x1 with ak:=A}]) (λA a0=>bq a0 v8 x.lb x.cb h L1 A) (v7:_=some (35,[pt a 0,i6 (af ya),i6 K],some 24,[])) tI (λe b=>?_) (λA b5 cC b1=>?_)
   ·have H:=(ab.A0 G b);have b0:v8<=e.z:=az bt H.x2.size;have a7:=(X.kT b G);have D:aP e v8 a ({x with busy:=true,ak:=k}) c L:=⟨_,b.at_ 0 rfl,a7⟩;have a8:=D.T' (es:=[141]);refine(c1 e D b0).mono λv i bb=>?_;obtain⟨a9,⟨a4,a6,ak⟩,a5⟩:=bb;rw[ac,Q]at ak;exact⟨a4,a9,ak,H.HS a5 (bv H.x2 rfl) a6 (bQ b a8 rfl)⟩
   refine Aq 5 [] [0,1,4] [] [] [y6 62,y6 63] ⟨[(0,pt a 0),(1,i6 (af ya)),(4,z7)],[bh a {x1 with ak:=A}],[],b5.z⟩ ?_;refine dH (Ex:=[bh a {x1 with ak:=A}]) [true] rfl (λr b O=>?_);have M:bq r v8 x.lb x.cb h L1 A:=(cC.kT b b1);have u:=ab.A0 b1 O;exact aR r A M u
 intro q m cA ad;have c5:eh q (λp=>(ao (oZ a m x1)) p∨(bL [141] v8 x a q) p) (wj a m x1) (wk x v8 m h z L1 R):=by
  intro bd d e i a1 j b g y
  match bd,j,g with
  |0,j,g=>
   obtain rfl:=ap j;exact g.kU y b
  |1,j,g=>
   obtain rfl:=ap j;exact⟨⟨g.1.1.y4 y (ag b) rfl rfl,az g.1.2 y.size⟩,g.2.kU y b⟩
  |2,j,g=>
   obtain rfl:=ap j;exact⟨⟨g.1.1.y4 y (ag b) rfl rfl,az g.1.2 y.size⟩,g.2.1.kU y b,g.2.2.kU y b⟩
  |3,j,g=>
   obtain rfl:=ap j;exact⟨⟨g.1.1.y4 y (ag b) rfl rfl,az g.1.2 y.size⟩,g.2.kU y b⟩
  |bd+4,j,g=>exact trivial
 have c6:m5 x a v8 ya w q m x1 h z L1 R 1:=WO (s:=0) (f:=37) (args:=λd=>[pt a 0]) (ob:=λd=>[]) (λ(d:(aO)×(aO)×(aO))(E:(aO)×(aO)×(aO))=>E) (λd=>yt d.1.1 L1.length d.1.2) (λd=>trivial) (λd e a1 j b g b2=>by
  obtain rfl:=ap j;have D:aP e v8 a x1 h L1:=⟨m,b.at_ 0 rfl,by rw[ac,Q];exact g⟩;have cU:=g;obtain⟨_,_,_,_,_,cP⟩:=cU;refine(LX x1 h L1 a v8 e D).mono λv i a3=>?_;obtain⟨T,V,I,F,⟨b8,bk⟩,t⟩:=a3;rw[ac]at F;rw[Q]at bk;have bs:=D.T' (es:=[]);rw[ac,Q]at bs t;exact⟨((T,V),(none,0),(none,0)),I,rfl,⟨⟨bk,az cP t.size⟩,F⟩,b.HS t (vk (λ_ o=>.inr o) b.x2 rfl) b8 (bQ b bs rfl),t.size⟩)
 have c7:m5 x a v8 ya w q m x1 h z L1 R 7:=WO (s:=1) (f:=38) (args:=λd=>[pt x1.cb 0,i6 (af ya)]) (ob:=λd=>[]) (λ(d:(aO)×(aO)×(aO))(E:aO)=>(d.1,E,d.2.2)) (λd=>yt d.2.1.1 R.length d.2.1.2) (λd=>trivial) (λd e a1 j b g b2=>by
  obtain rfl:=ap j;refine(cL e g.1.1).mono λv i a3=>?_;obtain⟨U,W,I,F,co,t⟩:=a3;have J:=D9 g.1.1;exact⟨(U,W),I,rfl,⟨⟨F,az g.1.2 t.size⟩,g.2.y4 t J rfl,co.below g.1.2⟩,b.A3 (λ_ o=>o) t (λp C=>by
   rcases C with rfl|⟨b6,b7⟩
   ·exact .inl (.inr (.inr (.inl rfl)))
   ·exact vj (λ_ o=>.inr o) b.x2 b6 b7 rfl) (bI b J rfl),t.size⟩)
 have c9:m5 x a v8 ya w q m x1 h z L1 R 8:=Xa (s:=2) (x:=λd=>Builtin.append_ #[50,50] 50 #[yt d.1.1 L1.length d.1.2,yt d.2.1.1 R.length d.2.1.2]) (λ(d:(aO)×(aO)×(aO))(E:aO)=>(d.1,d.2.1,E)) (λd=>yt d.2.2.1 (L1.length+R.length) d.2.2.2) (λd e a1 j b g b2=>by
  obtain rfl:=ap j;obtain⟨b4,cn,i,I,F,t⟩:=mu (P:=prog) e _ _ 50 50 65 (.agg #[i6 0,i6 0,i6 0,bO_ false,i6 0,i6 0,i6 0,i6 0,i6 0,i6 0,i6 0,i6 0,sT ⟨#[]⟩,i6 0,i6 0,i6 0,bO_ false,i6 0,i6 0,i6 0,sT ⟨#[]⟩,bO_ false,i6 0,i6 0,i6 0,sT ⟨#[]⟩]) 26 232 _ L1.length _ _ _ R.length _ _ v7 v7 v7 (by decide) g.2.1 g.2.2 (py h.Ar R) yq (by decide) g.1.2;rw[show aJ h.Ar L1++aJ h.Ar R=aJ h.Ar (L1++R)by simp[aJ]]at F;have J:=bW g.2.1;exact⟨(b4,cn),i,I,rfl,⟨⟨g.1.1.y4 t J rfl rfl,az g.1.2 t.size⟩,F⟩,b.A3 (λ_ o=>o) t (λp C=>Dr (es:=[141]) (λ_ o=>.inr o) b.x2 (g.2.1.own p C).1 (g.2.1.ty p C)) (bI b J rfl),t.size⟩)
 have c4:∀E∈(f5 3 [0,2,3,4,6,9]++[rY 5 3 0 2 1 a]:List (fG ((aO)×(aO)×(aO)))),m5 x a v8 ya w q m x1 h z L1 R E.i:=bp _ c5 (λd=>v7) v7 (λd dd=>v7);have c3:∀bl,bl<10->m5 x a v8 ya w q m x1 h z L1 R bl:=f6 (l:=[1,7,8]) v7 c4 ⟨c6,c7,c9,trivial⟩;refine bD (Δ:=(aO)×(aO)×(aO)) (λp=>(ao (oZ a m x1)) p∨(be [141] v8 x.lb a x.cb q) p) (Ea a ya x1 L1 R) Eb (wj a m x1) (wk x v8 m h z L1 R) [4] (λd=>[(4,yt d.2.2.1 (L1.length+R.length) d.2.2.2)]) (λd=>m4 a x1) ((none,0),(none,0),(none,0)) (λ_ o=>.inl o) v7 v7 v7 (λe b=>cA.y4 b.x2.drew (ag ad) rfl rfl rfl) v7 c3 (λd=>v7) (λd=>v7) (λd r du cK dt u=>?_);replace u:=ad.Wb u (λp C=>C.elim (λ⟨b3,j,cf,cb⟩=>cb▸ad.own b3 j cf) (λo=>bv ad.x2 rfl p o));obtain⟨da,db,aq,a2⟩:=d;obtain⟨⟨cs,_⟩,cq⟩:=cK;replace u:ab w (be [141] v8 x.lb a x.cb w) (m4 a x1) [] r.z r:=u;change aF _ _ _ _ r (ao (m4 a x1)) _ [y6 63] ⟨[(4,yt aq (L1.length+R.length) a2)],m4 a x1,[],r.z⟩;refine z6 3 [] [4] [] [] [y6 63] (m4 a x1) [] r.z ?_;refine B1 [] [yt aq (L1.length+R.length) a2] [] ?_;intro e b;exact⟨aq,a2,rfl,cq.kT b u,⟨b.at_ 0 rfl,by rw[Q];exact cs.y4 b.x2 (ag u) rfl rfl⟩,(ab.A0 u b).x2⟩
variable (ya:Int)
theorem j9:af (af ya)=af ya:=eH (jz ya)
theorem DD{w:World}{v8 b:Nat}{x:am}{c:CM}{L:List ar}(m:aP w v8 b x c L)(t:x.busy=true)(r:v8<=w.z)(s:v8<=x.lb)(u:c.zL.length≠0)(hlen:L.length+(fd (af ya) c.zL).length<=1000)(o:∀e∈c.zL,af ya-e.asked<8):aC 16 #[pt b 0,i6 ya] w (λk g=>∃h i,k=.returned (yt h (L.length+(fd (af ya) c.zL).length) i)∧ah g x.lb 65 26 h (L.length+(fd (af ya) c.zL).length) i (aJ c.Ar (L++fd (af ya) c.zL))∧ib g v8 b x {c with zL:=fP (af ya) c.zL}∧au (be [141] v8 x.lb b x.cb w) w g):=by
 have f:({x with busy:=true}:am)=x:=by rw[<-t]
 have n:∀d,aP d v8 b x c L->v8<=d.z:=λd ⟨_,_,l⟩=>by
  obtain⟨_,_,_,_,_,a⟩:=l;exact az s a
 have q:=wl x c L b v8 x c {c with zL:=fP (af ya) c.zL} L (fd (af ya) c.zL) ya 0 false rfl rfl hlen w (by rw[f];exact m) r
  (λd a=>by rw[f]at a ⊢;exact Bs x c L b v8 (af ya) (λe p=>by rw[j9];exact o e p) d a (n d a))
  (.inl ⟨rfl,f,rfl,rfl,u⟩)
  (λd a=>by have j:=yc (af ya) a;rw[j9]at j;exact j)
 exact q
theorem Lx{w:World}{v8 b:Nat}{x x1:am}{c c1:CM}{o:ar}{L L1:List ar}(q:aP w v8 b x c L)(y:x.busy=true)(u:v8<=w.z)(v:v8<=x.lb)(B:c.zL=[o])(s:af ya-o.asked>=8)(n:o.to<x.N)(A:x1.lb=x.lb)(WD:x1.cb=x.cb)(hlen:L1.length<=1000)(k:∀o∈c1.zL,af ya-o.ES<2)(z:∀a,aP a v8 b x c L->v8<=a.z->aC 35 #[pt b 0,i6 (af ya),i6 o.to] a (λf e=>f=Jx∧aP e v8 b x1 c1 L1∧au (be [141] v8 x.lb b x.cb a) a e)):aC 16 #[pt b 0,i6 ya] w (λf e=>∃h i,f=.returned (yt h L1.length i)∧ah e x.lb 65 26 h L1.length i (aJ c1.Ar L1)∧ib e v8 b x1 c1∧au (be [141] v8 x.lb b x.cb w) w e):=by
 have g:({x with busy:=true}:am)=x:=by rw[<-y]
 have r:∀a,aP a v8 b x c L->v8<=a.z:=λa ⟨_,_,p⟩=>by
  obtain⟨_,_,_,_,_,d⟩:=p;exact az v d
 have l:fd (af ya) c1.zL=[]:=si k;have m:fP (af ya) c1.zL=c1.zL:=sj k;have t:=wl x c L b v8 x1 c1 c1 L1 [] ya o.to true A WD (by simpa using hlen) w (by rw[g];exact q) u
  (λa d=>by rw[g]at d ⊢;exact Bt x c L b v8 o (af ya) B (by rw[j9];exact s) n a d (r a d))
  (.inr ⟨rfl,λa d=>by rw[g]at d;exact z a d⟩)
  (λa d=>by have j:=yc (af ya) d;rw[j9,l,m]at j;rw[WD];exact j)
 simpa only[List.length_nil,Nat.add_zero,dD]using t
def XJ(n:Int):Bool:=decide (0<=n)&&decide (n<=16777215)
def xh(s:ByteArray)(u:Bool):Bool:=bif u then(s.size:Int)==16 else(s.size:Int)==0
def Ob(a b:Int):Bool:=((a:Int)==0)&&(((b:Int)==0)&&true)
def okB(r:aZ):Bool:=
 (XJ r.Bf&&XJ r.de&&XJ r.ds&&XJ r.ie&&XJ r.is)&&(!decide (r.mask<0)&&!decide (r.mask>63))&&(xh r.block r.used&&xh r.A9 r.op)
  && (r.op||(Ob r.ie r.is&&r.mask==0))&&(r.used||(!r.op&&Ob r.de r.ds))
theorem SP(n:Int):XJ n=true↔0<=n∧n<=16777215:=by simp[XJ]
theorem nZ{s:ByteArray}:s.size=0↔s=QB:=by
 constructor
 ·intro a;apply ByteArray.ext;exact Array.size_eq_zero_iff.1 a
 ·rintro rfl;rfl
def gm:Nat->Nat
 |0=>1
 |1=>2
 |2=>3
 |3=>6
 |_=>7
def NV(pre:aH):Prop:=∃a,a<5∧pre=List.range (a+1)
theorem fD{c:Type}{B:Nat}{J:c->aI}(h:AbidesFrom B J){s:c}{W b:World}(hs:J s W)(a:au z8 W b):J s b:=
 h s W b none hs ⟨a.os,a.tape,a.output,a.size,λe f _=>a.block e f id⟩ (λ_ d=>by cases d)
theorem FC(m Bn a:Nat)(w:World)(x:A2 w Bn 190 [pt a 0]) :
  SeqStopsK Fence.wide m prog 138 #[pt Bn 0] (λD:Nat=>#[pt a (gm D)]) (λk F=>au (λE=>E≠Bn) k F) (λQ=>Q=[0,1,2,3,4]) NV 5 w:=by
 intro l an aq k K h j i v;have X:A2 k Bn 190 [pt a 0]:=(K.block Bn x.lt).trans x;refine pP (S:=z8) (l:=[.func (.yield l) #[] #[],pt Bn 0]) (n:=40) (bk:=[⟨Bn,190,false,[pt a 0]⟩]) (wn:=[]) (λ_=>trivial) rfl func138 (lh v7) rfl z1 (ab.start (by simpa using X) z1 z1 z1) ?_;refine dQ (λ_=>trivial) (f:=8) (hs:=[y2,oA 0 0 1,y2,y2]) [0,1,3,6] [] (v7:_=some (Res.mk [] (aX [(Bn,0,1)]) [.ops [] [4,5,6,7,8,9,10,11,12,13,14,15,16,17,18,19,20,21,22,23,24,25,26,27,28,29,30,31,32,33,34,35,36]] ⟨[(0,.func (.yield l) #[] #[]),(1,pt Bn 0),(3,.func (.yield l) #[] #[]),(6,pt a 1)],[⟨Bn,190,false,[pt a 0]⟩],[],k.z⟩)) trivial ?_;refine gE (l:=[5,6,7,8,9,10,11,12,13,14,15,16,17,18,19,20,21,22,23,24,25,26,27,28,29,30,31,32,33,34,35,36]) (dst:=some 7) (lp:=l) (args:=#[pt a 1]) (c:=true) (gd:=none) (λ_=>trivial) rfl v7 v7 (by intro p g;cases g) (λ_=>rfl) (λd b=>?_);have v:=fD h v b.x2;refine YieldAt.mono (i [] 0 d v z1) (λo y e=>?_);have R:=b.at_ 0 rfl;rcases e with⟨rfl,q,L⟩|⟨rfl,q⟩
 ·skip;have Y:=R.x2 L z1;refine⟨.bool true,[(7,.bool true),(0,.func (.yield l) #[] #[]),(1,pt Bn 0),(3,.func (.yield l) #[] #[]),(6,pt a 1)],rfl,rfl,[⟨Bn,190,false,[pt a 0]⟩],[],z8,ab.start (by simpa using Y) z1 z1 z1,?_⟩;refine dQ (λ_=>trivial) (f:=9) (hs:=[y2,FN,⟨true,0,[⟨false,0,0,1⟩]⟩,FN,FN,FN]) [0,1,8,9,13] [] (v7:_=some (Res.mk [true=true,true=true,true=true,true=true,true=true] (aX [(Bn,0,1)]) [.ops [] [11,12,13,14,15,16,17,18,19,20,21,22,23,24,25,26,27,28,29,30,31,32,33,34,35,36]] ⟨[(0,.func (.yield l) #[] #[]),(1,pt Bn 0),(8,.bool true),(9,.func (.yield l) #[] #[]),(13,pt a 2)],[⟨Bn,190,false,[pt a 0]⟩],[],y.z⟩)) ⟨rfl,rfl,rfl,rfl,rfl,trivial⟩ ?_;refine gE (l:=[12,13,14,15,16,17,18,19,20,21,22,23,24,25,26,27,28,29,30,31,32,33,34,35,36]) (dst:=some 14) (lp:=l) (args:=#[pt a 2]) (c:=true) (gd:=some 5) (λ_=>trivial) rfl v7 v7 (by intro p g;cases g;kernel_rfl) (λ_=>rfl) (λd b=>?_);have G:=fD h q b.x2;refine YieldAt.mono (i [0] 1 d G z1) (λo z e=>?_);have T:=b.at_ 0 rfl;rcases e with⟨rfl,r,M⟩|⟨rfl,r⟩
  ·skip;have Z:=T.x2 M z1;refine⟨.bool true,[(14,.bool true),(0,.func (.yield l) #[] #[]),(1,pt Bn 0),(8,.bool true),(9,.func (.yield l) #[] #[]),(13,pt a 2)],rfl,rfl,[⟨Bn,190,false,[pt a 0]⟩],[],z8,ab.start (by simpa using Z) z1 z1 z1,?_⟩;refine dQ (λ_=>trivial) (f:=10) (hs:=[⟨false,2,[]⟩,y2,FN,⟨true,0,[⟨false,0,0,1⟩]⟩,FN,FN,FN]) [0,1,16,17,21] [] (v7:_=some (Res.mk [true=true,true=true,true=true,true=true,true=true,true=true] (aX [(Bn,0,1)]) [.ops [] [19,20,21,22,23,24,25,26,27,28,29,30,31,32,33,34,35,36]] ⟨[(0,.func (.yield l) #[] #[]),(1,pt Bn 0),(16,.bool true),(17,.func (.yield l) #[] #[]),(21,pt a 3)],[⟨Bn,190,false,[pt a 0]⟩],[],z.z⟩)) ⟨rfl,rfl,rfl,rfl,rfl,rfl,trivial⟩ ?_;refine gE (l:=[20,21,22,23,24,25,26,27,28,29,30,31,32,33,34,35,36]) (dst:=some 22) (lp:=l) (args:=#[pt a 3]) (c:=true) (gd:=some 13) (λ_=>trivial) rfl v7 v7 (by intro p g;cases g;kernel_rfl) (λ_=>rfl) (λd b=>?_);have H:=fD h r b.x2;refine YieldAt.mono (i [0,1] 2 d H z1) (λo A e=>?_);have U:=b.at_ 0 rfl;rcases e with⟨rfl,s,N⟩|⟨rfl,s⟩
   ·skip;have ac:=U.x2 N z1;refine⟨.bool true,[(22,.bool true),(0,.func (.yield l) #[] #[]),(1,pt Bn 0),(16,.bool true),(17,.func (.yield l) #[] #[]),(21,pt a 3)],rfl,rfl,[⟨Bn,190,false,[pt a 0]⟩],[],z8,ab.start (by simpa using ac) z1 z1 z1,?_⟩;refine dQ (λ_=>trivial) (f:=10) (hs:=[⟨false,2,[]⟩,y2,FN,⟨true,0,[⟨false,0,0,1⟩]⟩,FN,FN,FN]) [0,1,24,25,29] [] (v7:_=some (Res.mk [true=true,true=true,true=true,true=true,true=true,true=true] (aX [(Bn,0,1)]) [.ops [] [27,28,29,30,31,32,33,34,35,36]] ⟨[(0,.func (.yield l) #[] #[]),(1,pt Bn 0),(24,.bool true),(25,.func (.yield l) #[] #[]),(29,pt a 6)],[⟨Bn,190,false,[pt a 0]⟩],[],A.z⟩)) ⟨rfl,rfl,rfl,rfl,rfl,rfl,trivial⟩ ?_;refine gE (l:=[28,29,30,31,32,33,34,35,36]) (dst:=some 30) (lp:=l) (args:=#[pt a 6]) (c:=true) (gd:=some 21) (λ_=>trivial) rfl v7 v7 (by intro p g;cases g;kernel_rfl) (λ_=>rfl) (λd b=>?_);have I:=fD h s b.x2;refine YieldAt.mono (i [0,1,2] 3 d I z1) (λo B e=>?_);have V:=b.at_ 0 rfl;rcases e with⟨rfl,t,O⟩|⟨rfl,t⟩
    ·skip;have ad:=V.x2 O z1;refine⟨.bool true,[(30,.bool true),(0,.func (.yield l) #[] #[]),(1,pt Bn 0),(24,.bool true),(25,.func (.yield l) #[] #[]),(29,pt a 6)],rfl,rfl,[⟨Bn,190,false,[pt a 0]⟩],[],z8,ab.start (by simpa using ad) z1 z1 z1,?_⟩;refine dQ (λ_=>trivial) (f:=10) (hs:=[⟨false,2,[]⟩,y2,FN,⟨true,0,[⟨false,0,0,1⟩]⟩,FN,FN,FN]) [32,33,37] [] (v7:_=some (Res.mk [true=true,true=true,true=true,true=true,true=true,true=true] (aX [(Bn,0,1)]) [.ops [] [35,36]] ⟨[(32,.bool true),(33,.func (.yield l) #[] #[]),(37,pt a 7)],[⟨Bn,190,false,[pt a 0]⟩],[],B.z⟩)) ⟨rfl,rfl,rfl,rfl,rfl,rfl,trivial⟩ ?_;refine gE (l:=[36]) (dst:=some 38) (lp:=l) (args:=#[pt a 7]) (c:=true) (gd:=some 29) (λ_=>trivial) rfl v7 v7 (by intro p g;cases g;kernel_rfl) (λ_=>rfl) (λd b=>?_);have J:=fD h t b.x2;refine YieldAt.mono (i [0,1,2,3] 4 d J z1) (λo C e=>?_);have W:=b.at_ 0 rfl;rcases e with⟨rfl,u,P⟩|⟨rfl,u⟩
     ·skip;have ak:=W.x2 P z1;refine⟨bO_ true,[(38,bO_ true),(32,bO_ true),(33,.func (.yield l) #[] #[]),(37,pt a 7)],rfl,rfl,[⟨Bn,190,false,[pt a 0]⟩],[],z8,ab.start (by simpa using ak) z1 z1 z1,?_⟩;refine dQ (λ_=>trivial) (f:=5) (hs:=[⟨false,2,[]⟩]) [] [] (v7:_=some (Res.mk [true=true] (aX []) [] ⟨[],[⟨Bn,190,false,[pt a 0]⟩],[],C.z⟩)) ⟨rfl,trivial⟩ ?_;refine iL rfl (λd b=>⟨⟨_,rfl⟩,.inl ⟨_,rfl,fD h u b.x2⟩⟩)
     ·skip;refine⟨bO_ false,[(38,bO_ false),(32,bO_ true),(33,.func (.yield l) #[] #[]),(37,pt a 7)],rfl,rfl,[],[],z8,ab.none _ _,?_⟩;refine dQ (λ_=>trivial) (f:=5) (hs:=[⟨false,2,[]⟩]) [] [] (v7:_=some (Res.mk [true=true] (aX []) [] ⟨[],[],[],C.z⟩)) ⟨rfl,trivial⟩ ?_;refine iL rfl (λd b=>⟨⟨_,rfl⟩,.inr ⟨_,⟨4,yq,rfl⟩,fD j u b.x2⟩⟩)
    ·skip;refine⟨bO_ false,[(30,bO_ false),(0,.func (.yield l) #[] #[]),(1,pt Bn 0),(24,bO_ true),(25,.func (.yield l) #[] #[]),(29,pt a 6)],rfl,rfl,[],[],z8,ab.none _ _,?_⟩;refine dQ (λ_=>trivial) (f:=13) (hs:=[⟨false,2,[]⟩,y2,y2,y2,y2,y2,y2,y2,⟨false,3,[]⟩]) [] [] (v7:_=some (Res.mk [true=true,false=false,false=false,false=false,false=false,false=false,false=false,false=false] (aX []) [] ⟨[],[],[],B.z⟩)) ⟨rfl,rfl,rfl,rfl,rfl,rfl,rfl,rfl,trivial⟩ ?_;refine iL rfl (λd b=>⟨⟨_,rfl⟩,.inr ⟨_,⟨3,yq,rfl⟩,fD j t b.x2⟩⟩)
   ·skip;refine⟨bO_ false,[(22,bO_ false),(0,.func (.yield l) #[] #[]),(1,pt Bn 0),(16,bO_ true),(17,.func (.yield l) #[] #[]),(21,pt a 3)],rfl,rfl,[],[],z8,ab.none _ _,?_⟩;refine dQ (λ_=>trivial) (f:=21) (hs:=[⟨false,2,[]⟩,y2,y2,y2,y2,y2,y2,y2,⟨false,3,[]⟩,y2,y2,y2,y2,y2,y2,y2,⟨false,3,[]⟩]) [] [] (v7:_=some (Res.mk [true=true,false=false,false=false,false=false,false=false,false=false,false=false,false=false,false=false,false=false,false=false,false=false,false=false,false=false,false=false] (aX []) [] ⟨[],[],[],A.z⟩)) ⟨rfl,rfl,rfl,rfl,rfl,rfl,rfl,rfl,rfl,rfl,rfl,rfl,rfl,rfl,rfl,trivial⟩ ?_;refine iL rfl (λd b=>⟨⟨_,rfl⟩,.inr ⟨_,⟨2,yq,rfl⟩,fD j s b.x2⟩⟩)
  ·skip;refine⟨bO_ false,[(14,bO_ false),(0,.func (.yield l) #[] #[]),(1,pt Bn 0),(8,bO_ true),(9,.func (.yield l) #[] #[]),(13,pt a 2)],rfl,rfl,[],[],z8,ab.none _ _,?_⟩;refine dQ (λ_=>trivial) (f:=29) (hs:=[⟨false,2,[]⟩,y2,y2,y2,y2,y2,y2,y2,⟨false,3,[]⟩,y2,y2,y2,y2,y2,y2,y2,⟨false,3,[]⟩,y2,y2,y2,y2,y2,y2,y2,⟨false,3,[]⟩]) [] [] (v7:_=some (Res.mk [true=true,false=false,false=false,false=false,false=false,false=false,false=false,false=false,false=false,false=false,false=false,false=false,false=false,false=false,false=false,false=false,false=false,false=false,false=false,false=false,false=false,false=false] (aX []) [] ⟨[],[],[],z.z⟩)) ⟨rfl,rfl,rfl,rfl,rfl,rfl,rfl,rfl,rfl,rfl,rfl,rfl,rfl,rfl,rfl,rfl,rfl,rfl,rfl,rfl,rfl,rfl,trivial⟩ ?_;refine iL rfl (λd b=>⟨⟨_,rfl⟩,.inr ⟨_,⟨1,yq,rfl⟩,fD j r b.x2⟩⟩)
 ·skip;refine⟨bO_ false,[(7,bO_ false),(0,.func (.yield l) #[] #[]),(1,pt Bn 0),(3,.func (.yield l) #[] #[]),(6,pt a 1)],rfl,rfl,[],[],z8,ab.none _ _,?_⟩;refine dQ (λ_=>trivial) (f:=36) (hs:=[y2,y2,y2,y2,y2,y2,y2,⟨false,3,[]⟩,y2,y2,y2,y2,y2,y2,y2,⟨false,3,[]⟩,y2,y2,y2,y2,y2,y2,y2,⟨false,3,[]⟩,y2,y2,y2,y2,y2,y2,y2,⟨false,3,[]⟩]) [] [] (v7:_=some (Res.mk (MA 28) (aX []) [] ⟨[],[],[],y.z⟩)) ⟨rfl,rfl,rfl,rfl,rfl,rfl,rfl,rfl,rfl,rfl,rfl,rfl,rfl,rfl,rfl,rfl,rfl,rfl,rfl,rfl,rfl,rfl,rfl,rfl,rfl,rfl,rfl,rfl,trivial⟩ ?_;refine iL rfl (λd b=>⟨⟨_,rfl⟩,.inr ⟨_,⟨0,yq,rfl⟩,fD j q b.x2⟩⟩)
theorem NW(a:Nat)(w:World):aC 117 #[pt a 0] w (λd c=>d=.returned (.func (.func 138) #[] #[pt w.z 0])∧A2 c w.z 190 [pt a 0]∧au z8 w c):=by
 refine cH (S:=z8) (n:=4) func117 (ab.none w _) ?_;refine z6 13 (dz 4 0) [2] [] [] [.code [1,1]] [⟨w.z,190,true,[pt a 0]⟩] [] (w.z+1) ?_;refine B1 [] [.func (.func 138) #[] #[pt w.z 0]] [] ?_;intro e b;exact⟨rfl,b.at_ 0 rfl,b.x2⟩
variable {w:World}{S:br}{bk:ax}{wn:List Wn}
theorem Hi{W:World}{z D:Nat}{c:List Deferred}(hm:ab w S bk wn z W)(d:W.heap[D]?=some (.deferred (some c))):¬ao bk D:=by
 rintro⟨b,e,_,f⟩;have a:=hm.zq b e;unfold A2 at a;rw[f,d]at a;cases a
theorem wS{W b:World}{S':br}{z:Nat}(hm:ab w S bk wn z W)(c:au S' W b)(hs:∀a,a<w.z->S' a->S a):au S w b:=hm.x2.trans c hs
theorem ab.here{w0:World}{b:Nat}(hm:ab w0 S bk wn b w):ab w0 S bk wn w.z w:=by
 have a:=hm.size;subst a;exact hm
theorem SO(x:Nat):gm x=1∨gm x=2∨gm x=3∨gm x=6∨gm x=7:=by
 match x with
 |0=>exact .inl rfl
 |1=>exact .inr (.inl rfl)
 |2=>exact .inr (.inr (.inl rfl))
 |3=>exact .inr (.inr (.inr (.inl rfl)))
 |_+4=>exact .inr (.inr (.inr (.inr rfl)))
theorem Hj{r:aZ}(h:okB r=true)(k:r.op=false):∃c F a b B,r=⟨c,F,a,b,B,false,0,0,0,⟨#[]⟩⟩∧(0<=F∧F<=16777215)∧(0<=a∧a<=16777215)∧(0<=b∧b<=16777215)∧((c=true∧B.size=16)∨(c=false∧B=⟨#[]⟩∧a=0∧b=0)):=by
 obtain⟨c,F,a,b,B,f,n,is,l,g⟩:=r;obtain rfl:f=false:=k;simp only[okB,Ob,ch,ej,SP,Bool.false_eq_true,false_or,Bool.not_false,true_and,and_true,dC,Bool.not_eq_true',decide_eq_false_iff_not,xh,cond_false]at h;obtain⟨⟨⟨⟨d,_⟩,e,m⟩,⟨rfl,rfl⟩,rfl⟩,j⟩:=h;obtain rfl:g=⟨#[]⟩:=nZ.1 yq;refine⟨c,F,a,b,B,rfl,d.1.1.1.1,d.1.1.1.2,d.1.1.2,?_⟩
 cases c with
 |true=>
  have i:(B.size:Int)=16:=by simpa using e
  exact .inl ⟨rfl,yq⟩
 |false=>
  have i:(B.size:Int)=0:=by simpa using e
  exact .inr ⟨rfl,nZ.1 yq,by simpa using j⟩
theorem qx:(⟨#[]⟩:ByteArray).toList=[]:=by rw[ByteArray.toList_eq]
theorem Hk(s:ByteArray):(s.toList==(⟨#[]⟩:ByteArray).toList)=(bif false then(s.size:Int)==16 else(s.size:Int)==0):=by
 rw[cond_false,qx];by_cases b:s.size=0
 ·obtain rfl:=nZ.1 b;rw[show QB.toList=[]from qx];rfl
 ·have a:(s.toList==[])=false:=cw.2 (λa=>b (nZ.2 ((toList_nil_iff_emptyBytes s).1 a)));rw[a,cw.2 yq]
theorem qy(s:ByteArray)(c:Bool)(w:World):aC 118 #[sT s,bO_ c] w (bf (bO_ (xh s c)) w):=by
 refine cH (S:=z8) (n:=11) func118 (ab.none w _) ?_;refine Aq 12 (dz 2 0) [0,4,5] [] [] [y6 13,.code [1,1]] ⟨[(0,sT s),(4,.bool false),(5,.bool c)],[],[],w.z⟩ ?_;rcases fZ (c)with a|a
 ·skip;refine z6 11 (dz 5 1) [0,4] [eD a] [] [y6 53,.code [1,1]] [] [] w.z ?_;refine B1 [] [bO_ ((s.size:Int)==16)] [] ?_;intro d b;refine⟨dk ?_,b.x2⟩;unfold xh;rw[a];rfl
 ·skip;refine z6 11 (dz 4 0) [4] [eD a] [] [y6 15] [] [] w.z ?_;refine B1 [] [bO_ (ByteArray.toList s==ByteArray.toList ⟨#[]⟩)] [] ?_;intro d b;refine⟨dk ?_,b.x2⟩;unfold xh;rw[a];exact Hk s
section
variable (c:Bool)(F a b:Int)(B:ByteArray)(w:World)
def Tm:av:=[bO_ c,i6 F,i6 a,i6 b,sT B,bO_ false,i6 0,i6 0,i6 0,sT ⟨#[]⟩]
def Tn:av:=[bO_ true,i6 F,i6 a,i6 b,sT B,bO_ false,i6 0,i6 0,i6 0,sT ⟨#[]⟩]
def To:av:=[bO_ false,i6 F,i6 0,i6 0,sT ⟨#[]⟩,bO_ false,i6 0,i6 0,i6 0,sT ⟨#[]⟩]
def Tp:List OH:=[y2,y2,y2,oA 0 9 1,y2,oA 0 5 1]
def Tq:List OH:=[y2,oA 0 8 1,y2,y2,y2,oA 0 8 1,y2,⟨false,3,[]⟩,y2,y2,oA 0 4 1,y2,oA 0 0 1]
@[simp] def oh:ax:=[⟨w.z,61,true,Tm c F a b B⟩,⟨w.z+1,4,true,[bO_ false]⟩,⟨w.z+2,190,false,[pt w.z 0]⟩]
@[simp] def Tr:ax:=[⟨w.z,61,true,Tn F a b B⟩,⟨w.z+1,4,true,[bO_ false]⟩,⟨w.z+2,190,false,[pt w.z 0]⟩]
@[simp] def Ts:ax:=[⟨w.z,61,true,To F⟩,⟨w.z+1,4,true,[bO_ false]⟩,⟨w.z+2,190,false,[pt w.z 0]⟩]
end
theorem QC(c:Bool)(F a b:Int)(B:ByteArray)(T:0<=F∧F<=16777215)(W:0<=a∧a<=16777215)(g:0<=b∧b<=16777215)(hu:(c=true∧B.size=16)∨(c=false∧B=⟨#[]⟩∧a=0∧b=0))(w:World):aC 101 #[.agg #[bO_ c,i6 F,i6 a,i6 b,sT B,bO_ false,i6 0,i6 0,i6 0,sT ⟨#[]⟩]] w (bf (bO_ true) w):=by
 refine ma (m:=5) (S:=z8) (n:=67) func101 (lh v7) rfl z1 (ab.none w _) ?_;refine Aq 11 (dz 2 0) [1,2] [] [] [.ops (Ac 12) [0],y6 13,.code [1,1]] ⟨[(1,pt w.z 0),(2,pt (w.z+1) 0)],[⟨w.z,61,true,Tm c F a b B⟩,⟨w.z+1,4,true,[bO_ false]⟩],[],w.z+2⟩ ?_;refine C6 (.func (.func 138) #[] #[pt (w.z+2) 0]) (oh c F a b B w) (v7:_=some (117,[pt w.z 0],some 5,[])) tI rfl (λe d=>?_) λz C=>?_
 ·refine(NW _ e).mono λQ X h=>?_;obtain⟨v,x,K⟩:=h;rw[d.size]at v x;exact⟨v,d.add K [⟨w.z+2,190,false,[pt w.z 0]⟩] ⟨x,trivial⟩ z1 z1⟩
 replace C:w.z+2<=z:=C;refine Aq 5 [] [1,2,5] [] [] [y6 26,.zq 0,.code [1,1]] ⟨[(1,pt w.z 0),(2,pt (w.z+1) 0),(5,.func (.func 138) #[] #[pt (w.z+2) 0])],oh c F a b B w,[],z⟩ ?_;refine Dk (α:=Nat) (wn:=[]) (Bn:=w.z+2) (N:=5) (enc:=λH=>pt w.z (gm H)) (Sq:=λy=>y=[0,1,2,3,4]) (X7:=NV) rfl rfl (enters_of func138 v7 rfl) (λe d=>d.size▸(d.at_ 2 rfl).lt) (by rintro⟨b,g,p,h⟩;simp at g;rcases g with rfl|rfl|rfl<;>simp at h p) (λe d=>FC _ _ _ e (d.at_ 2 rfl))
  (λ_=>True) z8 (λ_=>oh c F a b B w) (λ_=>oh c F a b B w) rfl trivial (λ_=>rfl) (λ_=>rfl) (λf=>[(3,pt w.z (gm f)),(6,pt w.z (gm f)),(1,pt w.z 0),(2,pt (w.z+1) 0),(5,.func (.func 138) #[] #[pt (w.z+2) 0])]) (λf=>[(6,pt w.z (gm f)),(1,pt w.z 0),(2,pt (w.z+1) 0),(5,.func (.func 138) #[] #[pt (w.z+2) 0])]) (λ_=>rfl) ?_ ?_ ?_ ?_
 ·intro f J j;refine mj (λ_=>tI) 6 [y2] [3,6,1,2,5] [] [] [] ⟨[(3,pt w.z (gm f)),(6,pt w.z (gm f)),(1,pt w.z 0),(2,pt (w.z+1) 0),(5,.func (.func 138) #[] #[pt (w.z+2) 0])],[],[],j.z⟩ ?_;exact eM (λa e k d=>⟨rfl,d.x2,k⟩)
 ·intro J Y f j l V M _;have i:gm f=1∨gm f=2∨gm f=3∨gm f=6∨gm f=7:=SO f;rcases i with i|i|i|i|i<;>rw[i]
  ·skip;refine mj (λ_=>tI) 20 [y2,y2,oA 0 1 1,y2,y2,y2,y2,oA 0 1 1,y2,⟨false,3,[]⟩,y2] [2] [dF ((F:Int)<0),dF ((F:Int)<0),dF ((F:Int)<0),dF ((F:Int)<0),dF ((F:Int)<0),dF ((F:Int)>16777215)] [(w.z,1,1),(w.z,1,1)] [] ⟨[(2,pt (w.z+1) 0)],oh c F a b B w,[],l⟩ ?_;exact eM (λa e k d=>.inl ⟨rfl,trivial,d.here⟩)
  ·skip;refine mj (λ_=>tI) 20 [y2,y2,oA 0 2 1,y2,y2,y2,y2,oA 0 2 1,y2,⟨false,3,[]⟩,y2] [2] [dF ((a:Int)<0),dF ((a:Int)<0),dF ((a:Int)<0),dF ((a:Int)<0),dF ((a:Int)<0),dF ((a:Int)>16777215)] [(w.z,2,1),(w.z,2,1)] [] ⟨[(2,pt (w.z+1) 0)],oh c F a b B w,[],l⟩ ?_;exact eM (λa e k d=>.inl ⟨rfl,trivial,d.here⟩)
  ·skip;refine mj (λ_=>tI) 20 [y2,y2,oA 0 3 1,y2,y2,y2,y2,oA 0 3 1,y2,⟨false,3,[]⟩,y2] [2] [dF ((b:Int)<0),dF ((b:Int)<0),dF ((b:Int)<0),dF ((b:Int)<0),dF ((b:Int)<0),dF ((b:Int)>16777215)] [(w.z,3,1),(w.z,3,1)] [] ⟨[(2,pt (w.z+1) 0)],oh c F a b B w,[],l⟩ ?_;exact eM (λa e k d=>.inl ⟨rfl,trivial,d.here⟩)
  ·skip;refine mj (λ_=>tI) 20 [y2,y2,oA 0 6 1,y2,y2,y2,y2,oA 0 6 1,y2,⟨false,3,[]⟩,y2] [2] [fF,fF,fF,fF,fF,fF] [(w.z,6,1),(w.z,6,1)] [] ⟨[(2,pt (w.z+1) 0)],oh c F a b B w,[],l⟩ ?_;exact eM (λa e k d=>.inl ⟨rfl,trivial,d.here⟩)
  ·skip;refine mj (λ_=>tI) 20 [y2,y2,oA 0 7 1,y2,y2,y2,y2,oA 0 7 1,y2,⟨false,3,[]⟩,y2] [2] [fF,fF,fF,fF,fF,fF] [(w.z,7,1),(w.z,7,1)] [] ⟨[(2,pt (w.z+1) 0)],oh c F a b B w,[],l⟩ ?_;exact eM (λa e k d=>.inl ⟨rfl,trivial,d.here⟩)
 ·rintro G y j rfl M u R U o;have A:¬ao (oh c F a b B w) G:=Hi u o;rcases hu with⟨rfl,L⟩|⟨rfl,rfl,rfl,rfl⟩
  ·skip;refine z6 25 Tq [1,2,26,28] [fF,fF,fF,fF,fF] [(w.z,8,1),(w.z,8,1),(w.z,4,1),(w.z,0,1)] [.ops (Ac 60) [4,5,6,7,8,9,10,11,12,13],y6 61,y6 31] (Tr F a b B w) [] j.z ?_;refine W3 (bO_ true) 118 [sT B,bO_ true] (some 29) [] tI rfl (λe d=>by
     have r:=qy B true e;rw[show xh B true=true by simp[xh,L]]at r;exact r) λD E=>?_
   replace E:j.z<=D:=E;refine z6 9 Tp [1,2,31,33,35] [fF,fF,fF,fF] [(w.z,9,1),(w.z,5,1)] [.ops (Ac 60) [11,12,13],y6 61,y6 31] (Tr F a b B w) [] D ?_;refine DV (.bool true) _ _ (some 36) [false=false] ⟨rfl,tI⟩ rfl (λe d=>qy ⟨#[]⟩ false e) λs Z=>?_;refine Aq 51 (dz 35 0x100183100001111001000800370010808015020039020609100010508002003800040) [2] [fF,fF,fF,tT,tT,tT,tT,vV,tT,fF,fF,fF,tT,fF,tT,fF,tT,tT,tT,tT,tT,tT] [(s,0,2),(w.z,5,1),(w.z,6,2),(s,0,2),(w.z,8,1),(w.z,0,1),(w.z+1,0,1)] [y6 255] ⟨[(2,pt (w.z+1) 0)],[⟨w.z,61,true,Tn F a b B⟩,⟨w.z+1,4,true,[.bool true]⟩,⟨w.z+2,190,false,[pt w.z 0]⟩,⟨s,57,true,[i6 0,i6 0]⟩],[],s+1⟩ ?_;refine u0 [[⟨false,1,0,1⟩]] (dp.1 o).1 o A v7 (v7:_=some ([.bool true],aX [(w.z+1,0,1)])) (λe d=>?_);refine⟨dk rfl,wS u d.x2 (λI O t=>?_)⟩;rcases t with⟨b,g,p,h⟩|rfl
   ·simp at g;rcases g with rfl|rfl|rfl<;>simp at h p<;>omega
   ·omega
  ·skip;refine z6 25 Tq [1,2,26,28] [fF,fF,fF,fF,fF] [(w.z,8,1),(w.z,8,1),(w.z,4,1),(w.z,0,1)] [.ops (Ac 60) [4,5,6,7,8,9,10,11,12,13],y6 61,y6 31] (Ts F w) [] j.z ?_;refine DV (.bool true) _ _ (some 29) [] tI rfl (λe d=>qy ⟨#[]⟩ false e) λP ac=>?_;refine z6 9 Tp [1,2,31,33,35] [fF,fF,fF,fF] [(w.z,9,1),(w.z,5,1)] [.ops (Ac 60) [11,12,13],y6 61,y6 31] (Ts F w) [] P ?_;refine DV (.bool true) _ _ (some 36) [false=false] ⟨rfl,tI⟩ rfl (λe d=>qy ⟨#[]⟩ false e) λq ad=>?_;refine Aq 51 (dz 35 0x100184350200390202091000105080001000800370010808015020039020609100010508002003800040) [2] [fF,fF,fF,tT,tT,tT,tT,vV,tT,fF,fF,fF,tT,fF,tT,fF,fF,fF,fF,fF,tT,tT,tT,tT,vV,fF,tT,fF] [(q,0,2),(w.z,5,1),(w.z,6,2),(q,0,2),(w.z,8,1),(w.z,0,1),(w.z,5,1),(w.z,2,2),(q,0,2),(w.z+1,0,1)] [y6 255] ⟨[(2,pt (w.z+1) 0)],[⟨w.z,61,true,To F⟩,⟨w.z+1,4,true,[.bool true]⟩,⟨w.z+2,190,false,[pt w.z 0]⟩,⟨q,57,true,[i6 0,i6 0]⟩],[],q+1⟩ ?_;refine u0 [[⟨false,1,0,1⟩]] (dp.1 o).1 o A v7 (v7:_=some ([.bool true],aX [(w.z+1,0,1)])) (λe d=>?_);refine⟨dk rfl,wS u d.x2 (λI O t=>?_)⟩;rcases t with⟨b,g,p,h⟩|rfl
   ·simp at g;rcases g with rfl|rfl|rfl<;>simp at h p<;>omega
   ·omega
 ·exact λ_ _ _ _ r=>r.elim
theorem OT(r:aZ)(h:okB r=true)(g:r.op=false)(w:World):aC 101 #[.agg #[bO_ r.used,i6 r.Bf,i6 r.de,i6 r.ds,sT r.block,bO_ r.op,i6 r.ie,i6 r.is,i6 r.mask,sT r.A9]] w (bf (bO_ true) w):=by
 obtain⟨c,F,a,b,B,rfl,d,e,f,i⟩:=Hj h g;exact QC c F a b B d e f i w
theorem Gi(n:Int)(b:0<=n∧n<6)(w:World):aC 69 #[i6 n] w (bf (bO_ true) w):=by
 refine cH (S:=z8) (n:=19) func69 (ab.none w _) ?_;refine z6 24 (dz 10 4346413056) [0,2] (rE 3 (dT ((n:Int)>=0))++[dT ((n:Int)<6)]) [] [y6 101,.zq 0,.code [1,1]] [] [] w.z ?_;refine B1 [] [bO_ true] [] ?_;intro c a;exact⟨rfl,a.x2⟩
theorem DZ(n:Int)(b:200<=n∧n<202)(w:World):aC 69 #[i6 n] w (bf (bO_ true) w):=by
 refine cH (S:=z8) (n:=19) func69 (ab.none w _) ?_;refine z6 35 (dz 18 0x10311000003110000) [0,2] (rE 3 (dT ((n:Int)>=0))++[dF ((n:Int)<6)]++rE 3 (dT ((n:Int)>=200))++[dT ((n:Int)<202)]) [] [y6 413,.zq 0,.code [1,1]] [] [] w.z ?_;refine B1 [] [bO_ true] [] ?_;intro c a;exact⟨rfl,a.x2⟩
theorem Ag  (w:World):aC 69 #[i6 100] w (bf (bO_ true) w):=by
 refine cH (S:=z8) (n:=19) func69 (ab.none w _) ?_;refine z6 39 (dz 20 0x400000003110000) [2] [tT,tT,tT,fF,fF,fF,fF,fF] [] [y6 15] [] [] w.z ?_;refine B1 [] [bO_ true] [] ?_;intro b a;exact⟨rfl,a.x2⟩
theorem D0(n:Int)(a:(0<=n∧n<6)∨n=100∨(200<=n∧n<202))(w:World):aC 69 #[i6 n] w (bf (bO_ true) w):=by
 rcases a with a|rfl|a
 ·exact Gi n a w
 ·exact Ag w
 ·exact DZ n a w
def jJ(sy:dw):Prop:=(1<=sy.st∧sy.st<=7)∧(0<=sy.ep∧sy.ep<=16777215)∧(-1<=sy.ou∧sy.ou<6)∧okB sy.rc=true∧sy.rc.op=false
def Gj(sy:dw):av:=([i6 sy.st,i6 sy.ep,i6 sy.ou]++sy.rc.cells)
def V0(sy:dw):av:=(sy.rc.cells)
theorem D2(sy:dw)(f:jJ sy)(w:World):aC 70 #[.agg #[i6 sy.st,i6 sy.ep,i6 sy.ou,bO_ sy.rc.used,i6 sy.rc.Bf,i6 sy.rc.de,i6 sy.rc.ds,sT sy.rc.block,bO_ sy.rc.op,i6 sy.rc.ie,i6 sy.rc.is,i6 sy.rc.mask,sT sy.rc.A9]] w (bf (bO_ true) w):=by
 refine cH (S:=z8) (n:=32) func70 (ab.none w _) ?_;obtain⟨g,h,i,c,d⟩:=f;refine z6 49 (dz 31 0xa0309103101020910001020800400101080000101080040010008000010008000) [2,27,29] (rE 4 (dF ((sy.st:Int)<1))++[dF ((sy.st:Int)>7)]++rE 4 (dF ((sy.ep:Int)<0))++[dF ((sy.ep:Int)>16777215)]++rE 4 (dT ((sy.ou:Int)>=(-1)))++rE 2 (dT ((sy.ou:Int)<6))) [(w.z,0,1),(w.z,0,1),(w.z,1,1),(w.z,1,1),(w.z,2,1),(w.z,2,1),(w.z,3,10)] [.ops (Ac 30) [11,12,13],y6 31] [⟨w.z,63,true,Gj sy⟩] [] (w.z+1) ?_;refine DV (bO_ true) _ _ (some 30) [(decide ((sy.ou:Int)<6))=true] ⟨dc yq,tI⟩ rfl (λb a=>OT sy.rc c d b) λe j=>?_;refine z6 6 (dz 2 3) [2] [dT ((sy.ou:Int)<6)] [] [y6 31] [⟨w.z,63,true,Gj sy⟩] [] e ?_;refine B1 [] [bO_ true] [] ?_;intro b a;exact⟨rfl,a.x2⟩
def Ah(a:Int)(dst:Int)(id:Int)(sy:dw):av:=[i6 a,i6 dst,i6 id,bO_ true]++rp 8 (i6 0)++([sT ⟨#[]⟩,i6 sy.st,i6 sy.ep,i6 sy.ou]++sy.rc.cells)
def V1(sy:dw):av:=(Gj sy)
theorem qf(a dst b:Int)(sy:dw)(h:(0<=a∧a<6)∨a=100∨(200<=a∧a<202))(j:(0<=dst∧dst<6)∨dst=100∨(200<=dst∧dst<202))(k:1<=b∧b<=1099511627776)(i:jJ sy)(w:World):aC 41 #[.agg #[i6 a,i6 dst,i6 b,bO_ true,i6 0,i6 0,i6 0,i6 0,i6 0,i6 0,i6 0,i6 0,sT ⟨#[]⟩,i6 sy.st,i6 sy.ep,i6 sy.ou,bO_ sy.rc.used,i6 sy.rc.Bf,i6 sy.rc.de,i6 sy.rc.ds,sT sy.rc.block,bO_ sy.rc.op,i6 sy.rc.ie,i6 sy.rc.is,i6 sy.rc.mask,sT sy.rc.A9]] w (bf (bO_ true) w):=by
 refine cH (S:=z8) (n:=43) func41 (ab.none w _) ?_;refine z6 13 (dz 4 268468224) [1,2,4] [] [(w.z,0,1)] [.ops (Ac 12) [2,3,4,5,6,7,8,9,10,11,12,13,14,15,16,17,18,19],y6 13,.code [1,1]] [⟨w.z,65,true,Ah a dst b sy⟩] [] (w.z+1) ?_;refine DV (bO_ true) _ _ (some 5) [] tI rfl (λc d=>D0 a h c) λe l=>?_;refine z6 7 (dz 4 269516800) [1,2,7,9] [fF,fF] [(w.z,1,1)] [.ops (Ac 12) [7,8,9,10,11,12,13,14,15,16,17,18,19],y6 13,.code [1,1]] [⟨w.z,65,true,Ah a dst b sy⟩] [] e ?_;refine DV (bO_ true) _ _ (some 10) [false=false] ⟨rfl,tI⟩ rfl (λc d=>D0 dst j c) λf m=>?_;refine z6 34 (dz 23 0xd0d09102009040801010308004001020800400102080040) [1,2,29,31] ([fF,fF,fF,fF,fF,fF]++rE 4 (dF ((b:Int)<1))++[dF ((b:Int)>1099511627776),tT,vV,tT,tT]) [(w.z,2,1),(w.z,2,1),(w.z,3,1),(w.z,4,9),(w.z,13,13)] [.ops (Ac 116) [7,8,9],y6 117,y6 15] [⟨w.z,65,true,Ah a dst b sy⟩] [] f ?_;refine DV (bO_ true) _ _ (some 32) [true=true] ⟨rfl,tI⟩ rfl (λc d=>D2 sy i c) λg o=>?_;refine z6 6 (dz 2 3) [1,2] [tT] [] [y6 117,y6 15] [⟨w.z,65,true,Ah a dst b sy⟩] [] g ?_;refine B1 [] [bO_ true] [] ?_;intro c d;exact⟨rfl,d.x2⟩
theorem OU{sy:dw}{w:World}{v8 lb a:Nat}{c:CM}{L:List ar}{v:Value}{b R:List ar}{o:ar}(h:bq w v8 lb a c L v)(r:c.zL=b++o::R)(q:∀x∈b,x.id≠o.id):aC 42 #[pt a 0,.agg #[i6 o.to,i6 c.Ar,i6 o.id,bO_ true,i6 0,i6 0,i6 0,i6 0,i6 0,i6 0,i6 0,i6 0,sT ⟨#[]⟩,i6 sy.st,i6 sy.ep,i6 sy.ou,bO_ sy.rc.used,i6 sy.rc.Bf,i6 sy.rc.de,i6 sy.rc.ds,sT sy.rc.block,bO_ sy.rc.op,i6 sy.rc.ie,i6 sy.rc.is,i6 sy.rc.mask,sT sy.rc.A9]] w (λi g=>i=.returned (.tuple #[.agg #[i6 o.q.kind,i6 o.q.Al,i6 o.q.BV,i6 o.q.seq,i6 o.q.mask,i6 o.q.node,i6 o.q.oe,i6 o.q.os,sT o.q.block],bO_ true])∧bq g v8 lb a {c with zL:=b++R} L v∧au (lE 141 v8 a w) w g):=by
 obtain⟨j,l,m,u,e,s⟩:=h;refine(FJ (sy:=sy) j r q).mono λi g t=>?_;obtain⟨n,p,d⟩:=t;refine⟨n,⟨p,l,m,u,e.x2 d (λy k f=>?_),az s d.size⟩,d⟩;rcases f with rfl|⟨_,f⟩
 ·exact absurd (bS (e.ty _ k) j.zq) (by decide)
 ·exact aN rfl (e.ty _ k) f
theorem vX{es:List TypeId}{v8 lb c b:Nat}{w d:World}(f:au (be es v8 lb c b w) w d):∀a,be es v8 lb c b d a->be es v8 lb c b w a∨w.z<=a:=vk (λ_ e=>e) f (by simp)
section
variable (x:am)(c:CM)(pb v8:Nat)(ya:Int)(w:World)(v:Value)(b:aY->Nat->Nat->aI)(a:Nat)(o:ar)(sy:dw)(g:Nat)(es:List TypeId)
def oX:av:=[i6 o.to,i6 c.Ar,i6 o.id,bO_ true]++rp 8 (i6 0)++([sT ⟨#[]⟩,i6 sy.st,i6 sy.ep,i6 sy.ou]++sy.rc.cells)
def jO:av:=(o.q.cells)
def Gk:av:=rp 8 (i6 0)++[sT ⟨#[]⟩]
def Gl:av:=([i6 sy.st,i6 sy.ep,i6 sy.ou]++sy.rc.cells)
@[simp] def lP:ax:=[bh pb {x with busy:=true,nx:=.func (.func a) #[pt pb 0] #[],ak:=v},⟨w.z,65,false,oX c o sy⟩]
@[simp] def OW(d:bi):ax:=[bh pb {x with busy:=true,nx:=.func (.func a) #[pt pb 0] #[],ak:=v},⟨w.z,65,false,oX c o sy⟩,⟨d.getD 0,59,true,jO o⟩]
@[simp] def lQ:ax:=[bh pb {x with busy:=true,nx:=.func (.func a) #[pt pb 0] #[],ak:=v},⟨w.z,65,false,oX c o sy⟩,⟨g,59,true,jO o⟩]
def Vu:Exit->Act->aI:=bodyPost prog f19 (λf e=>∃a d c,f=.returned (yt a d c)∧b a d c e∧au (be es v8 x.lb pb x.cb w) w e)
def Sr:bu:=[(0,pt pb 0),(1,i6 ya),(5,pt w.z 0),(6,z7)]
def I'(d:bi):List (Option Value):=[some (pt pb 0),some (pt pb 0),some (pt pb 2),some (pt x.cb 0),some (aE (oX c o sy)),some (.tuple #[aE (jO o),bO_ true]),some (.tuple #[aE (jO o),bO_ true]),some (aE (jO o)),some (bO_ true),some (pt (d.getD 0) 0),some (.tuple #[]),some (bO_ true)]
def Ja(d:bi)(k:Nat):Bool:=(fL 12 [(9,d.isSome)])[k]?.getD true
def Ai(d:bi):List (ax):=[lP x c pb w v a o sy,lP x c pb w v a o sy,OW x c pb w v a o sy d]
abbrev Aj(x:am)(c:CM)(v8:Nat)(v:Value)(L:List ar)(H:aI)(e:List ar)(R:List ar)(z3:Nat)(f:Nat)(d:bi)(a:World):Prop:=match f with|0=>(bq a v8 x.lb x.cb c L v∧H a)∧(∀b,d=some b->z3<=b∧A2 a b 59 (Gk))|1=>(bq a v8 x.lb x.cb {c with zL:=e++R} L v∧H a)∧(∀b,d=some b->z3<=b∧A2 a b 59 (Gk))|2=>((bq a v8 x.lb x.cb {c with zL:=e++R} L v∧H a)∧z3<=d.getD 0)∧True|_=>True
def qg(e:World)(v:Value)(L:List ar)(b:aY->Nat->Nat->aI)(H:aI)(a:Nat)(f:List ar)(R:List ar)(o:ar)(sy:dw)(es:List TypeId)(z3:Nat)(g:Nat):Prop:=cY prog f19 [1,1,0] 45 [] (Vu x pb v8 w b es) [y6 15] (Sr pb ya w) (V7 12 [5,10]) 2 (I' x c pb o sy) Ja e (λd=>(ao (lP x c pb w v a o sy)) d∨(be es v8 x.lb pb x.cb e) d) (Ai x c pb w v a o sy) z3 (Aj x c v8 v L H f R z3) g
theorem Uq(b:World)(v:Value)(a:Nat)(o:ar)(sy:dw)(g:Nat):Out.prune [0,6,34,36,38,39,41] (fp prog 45 b (ao (lQ x c pb w v a o sy g)) ((aj (aa (al f19) (Ac 62))).toList.take 12) ⟨[(0,pt pb 0),(1,i6 ya),(5,pt w.z 0),(6,z7),(7,pt g 0)],lQ x c pb w v a o sy g,[],b.z⟩ [.op y2,.op y2,.op y2,.op y2,.op (oA 0 49 1),.op y2,.call (i6 (af ya)),.op y2,.op (oA 1 0 1),.op (oA 2 0 9),.op y2,.op (oA 1 13 13)])=some ⟨[∀d,fU b (ao (lQ x c pb w v a o sy g)) (lQ x c pb w v a o sy g) [] b.z d->aC 31 #[i6 ya] d (bf (i6 (af ya)) d)],aX [(pb,49,1),(w.z,0,1),(g,0,9),(w.z,13,13)],⟨[(0,pt pb 0),(6,z7),(34,.func (.func a) #[pt pb 0] #[]),(36,i6 (af ya)),(38,i6 o.to),(39,aE (jO o)),(41,aE (Gl sy))],lQ x c pb w v a o sy g,[],b.z⟩⟩:=v7
end
theorem zM(x:am)(c:CM)(L:List ar)(a:Nat)(v8:Nat)(es:List TypeId)(c5:es.contains 141=true)(E:aI)(ca:∀w p,E w->au z8 w p->E p)(J:aY->Nat->Nat->aI)(cA:∀M n N w p,J M n N w->au z8 w p->J M n N p)(H:aI)(Q:∀w p a8 bd,H w->au a8 w p->(∀u,a8 u->cI bd w u)->bd.all (λA=>[98,124,141,65,59].contains A)=true->H p)(h:Nat)(cC:h=54∨h=114∨h=84∨h=112∨h=95∨h=80∨h=120∨h=149)(G R:List ar)(o:ar)(sy:dw)(ya:Int)(cm:c.zL=G++o::R)(cb:∀co∈G,co.id≠o.id)(c6:(0<=o.to∧o.to<6)∨o.to=100∨(200<=o.to∧o.to<202))(ds:200<=c.Ar∧c.Ar<202)(c7:1<=o.id∧o.id<=1099511627776)(db:jJ sy)(w:World)(cl:aP w v8 a ({x with busy:=true,nx:=(.func (.func h) #[pt a 0] #[])}) c L)(c3:v8<=w.z)(cK:H w)(dt:∀j,aP j v8 a ({x with busy:=true,nx:=(.func (.func h) #[pt a 0] #[])}) {c with zL:=G++R} L->H j->v8<=j.z->aC h #[pt a 0,i6 (af ya),i6 o.to,.agg #[i6 o.q.kind,i6 o.q.Al,i6 o.q.BV,i6 o.q.seq,i6 o.q.mask,i6 o.q.node,i6 o.q.oe,i6 o.q.os,sT o.q.block],.agg #[i6 sy.st,i6 sy.ep,i6 sy.ou,bO_ sy.rc.used,i6 sy.rc.Bf,i6 sy.rc.de,i6 sy.rc.ds,sT sy.rc.block,bO_ sy.rc.op,i6 sy.rc.ie,i6 sy.rc.is,i6 sy.rc.mask,sT sy.rc.A9]] j (λA p=>A=Jx∧E p∧au (be es v8 x.lb a x.cb j) j p))(du:∀j,E j->aC 37 #[pt a 0] j (λA p=>∃M n N,A=.returned (yt M n N)∧J M n N p∧au (be es v8 x.lb a x.cb j) j p)):aC 19 #[pt a 0,i6 ya,.agg #[i6 o.to,i6 c.Ar,i6 o.id,bO_ true,i6 0,i6 0,i6 0,i6 0,i6 0,i6 0,i6 0,i6 0,sT ⟨#[]⟩,i6 sy.st,i6 sy.ep,i6 sy.ou,bO_ sy.rc.used,i6 sy.rc.Bf,i6 sy.rc.de,i6 sy.rc.ds,sT sy.rc.block,bO_ sy.rc.op,i6 sy.rc.ie,i6 sy.rc.is,i6 sy.rc.mask,sT sy.rc.A9]] w (λA p=>∃ak aR I,A=.returned (yt ak aR I)∧J ak aR I p∧au (be es v8 x.lb a x.cb w) w p):=by
 obtain⟨v,a3,cf⟩:=cl;have bk:=aw a3;refine cH (S:=(λu=>u=a)) (n:=45) func19 (ab.D1 a3) ?_;refine Aq 18 (dz 9 0x1a001800012b0800000) [0,1,5,6,14,15] [fF] [(a,43,1),(w.z,0,26)] [.ops (Ac 12) [7,8,9],y6 13,.code [1,1]] ⟨[(0,pt a 0),(1,i6 ya),(5,pt w.z 0),(6,z7),(14,bO_ false),(15,aE (oX c o sy))],[bh a {x with busy:=true,nx:=.func (.func h) #[pt a 0] #[],ak:=v},⟨w.z,65,true,oX c o sy⟩],[],w.z+1⟩ ?_;refine dH (Ex:=lP x c a w v h o sy) [true,false] rfl (λC e bt=>?_);have cP:bq C v8 x.lb x.cb c L v:=(cf.y4 (es:=[98]) e.x2 (λu z=>by subst z;exact⟨98,z1,bk⟩) rfl rfl rfl);have cL:H C:=Q _ _ _ [98] cK e.x2 (λu z=>by subst z;exact⟨98,z1,bk⟩) rfl;have X:ab w (be es v8 x.lb a x.cb w) (lP x c a w v h o sy) [] C.z C:=bt.wide (λ_ q=>.inl q);clear e bt;refine z6 3 [] [0,1,5,6,14,15] [] [] [.ops (Ac 12) [7,8,9],y6 13,.code [1,1]] (lP x c a w v h o sy) [] C.z ?_;refine DV (bO_ true) _ _ (some 16) [false=false] ⟨rfl,tI⟩ rfl (λj e=>qf o.to c.Ar o.id sy c6 (.inr (.inr ds)) c7 db j) λO ed=>?_;refine Aq 9 (dz 3 64) [0,1,5,6] [fF,fF,fF] [] [y6 14,y6 15] ⟨[(0,pt a 0),(1,i6 ya),(5,pt w.z 0),(6,z7)],lP x c a w v h o sy,[],O⟩ ?_;have eb:a<w.z:=a3.lt;have ec:=X.x2.size;have b2:eh C (λu=>(ao (lP x c a w v h o sy)) u∨(be es v8 x.lb a x.cb C) u) (Ai x c a w v h o sy) (Aj x c v8 v L H G R O):=by
  intro I m j p an b e d K
  match I,b,d with
  |0,b,d=>
   obtain rfl:=ap b;refine⟨⟨d.1.1.kU K e,Q _ _ _ _ d.1.2 K (ag e) rfl⟩,λr y=>⟨(d.2 r y).1,(d.2 r y).2.x2 K (λ⟨F,b,ac,D⟩=>?_)⟩⟩;have b9:=(d.2 r y).1;simp at b;rcases b with rfl|rfl
   ·dsimp only at D;omega
   ·cases ac
  |1,b,d=>
   obtain rfl:=ap b;refine⟨⟨d.1.1.kU K e,Q _ _ _ _ d.1.2 K (ag e) rfl⟩,λr y=>⟨(d.2 r y).1,(d.2 r y).2.x2 K (λ⟨F,b,ac,D⟩=>?_)⟩⟩;have b9:=(d.2 r y).1;simp at b;rcases b with rfl|rfl
   ·dsimp only at D;omega
   ·cases ac
  |2,b,d=>
   obtain rfl:=ap b;exact⟨⟨⟨d.1.1.1.kU K e,Q _ _ _ _ d.1.1.2 K (ag e) rfl⟩,d.1.2⟩,trivial⟩
  |I+3,b,d=>exact trivial
 have d1:qg x c a v8 ya w C v L J H h G R o sy es O 5:=WO (s:=0) (f:=42) (args:=λm=>[pt x.cb 0,aE (oX c o sy)]) (ob:=λm=>[]) (λ(m:bi)(_:Unit)=>m) (λm=>.tuple #[aE (jO o),bO_ true]) (λm=>trivial) (λm j an b e d b1=>by
  obtain rfl:=ap b;refine(OU (sy:=sy) d.1.1 cm cb).mono λA p cn=>?_;obtain⟨a2,b5,aq⟩:=cn;refine⟨(),a2,rfl,⟨⟨b5,Q _ _ _ [124,141] d.1.2 aq (λu z=>?_) rfl⟩,λr y=>⟨(d.2 r y).1,(d.2 r y).2.x2 aq (λU=>?_)⟩⟩,e.A3 (λ_ q=>q) aq (λu z=>?_) (λF b z=>?_),aq.size⟩
  ·rcases z with rfl|⟨_,A,D,U⟩
   ·exact⟨124,z1,d.1.1.1.zq⟩
   ·exact⟨A,by simp at D ⊢;exact .inr D,U⟩
  ·rcases U with D|⟨_,U⟩
   ·exact absurd (bS (aw (d.2 r y).2) (D▸d.1.1.1.zq)) (by decide)
   ·exact aN rfl (aw (d.2 r y).2) U
  ·rcases z with rfl|⟨b6,b7⟩
   ·exact .inl (.inr (.inr (.inl rfl)))
   ·exact vj (λ_ q=>.inr q) e.x2 b6 b7 (by simpa using c5)
  ·have bl:=aw (e.zq F b);rcases z with D|⟨_,U⟩
   ·exact absurd (bS (D▸bl) d.1.1.1.zq) (by simp at b;rcases b with rfl|rfl<;>simp)
   ·exact aN (by simp at b;rcases b with rfl|rfl<;>rfl) bl U)
 have d2:qg x c a v8 ya w C v L J H h G R o sy es O 9:=W1 1 59 (Gk) (λ_ g=>some g) (λg=>pt g 0) (λI m j p an ad b e d K a9 bg=>by
  have W:=b2 I m j p an b e d K
  match I,b,d,W,ad with
  |0,b,d,W,ad=>exact⟨W.1,(λr y=>by obtain rfl:=ap y;exact⟨a9,bg⟩)⟩
  |1,b,d,W,ad=>exact⟨W.1,(λr y=>by obtain rfl:=ap y;exact⟨a9,bg⟩)⟩
  |I+2,b,d,W,ad=>exact absurd ad yq)
 have d3:qg x c a v8 ya w C v L J H h G R o sy es O 10:=V8 (s:=1) (x:=λm=>Instr.storeAt 59 (pt (m.getD 0) 0) (aE (jO o))) (λ(m:bi)(_:Unit)=>m) (λm j an b e d b1=>by
  obtain rfl:=ap b;obtain⟨r,rfl⟩:∃r,m=some r:=cV.1 (b1 9 (aS (i:=0) v7) (d9 (k:=7) v7));obtain⟨de,aV⟩:=d.2 r rfl;obtain⟨p,a2,cr,a6,dd⟩:=cG (P:=prog) (t:=59) (v:=aE (jO o)) v7 aV rfl (by show 0+9<=9;omega) (aU rfl) rfl;refine⟨(),p,a2,rfl,⟨⟨⟨d.1.1.y4 (es:=[59]) a6 (λu z=>by subst z;exact⟨59,z1,aw aV⟩) rfl rfl rfl,Q _ _ _ [59] d.1.2 a6 (λu z=>by subst z;exact⟨59,z1,aw aV⟩) rfl⟩,de⟩,trivial⟩,e.Wc (g:=r) a6 cr yq (λF b A=>?_),bC dd.symm⟩;have b8:=aw (e.zq F b);simp at b;rcases b with rfl|rfl<;>exact eo (aw aV) A b8 rfl)
 have d0:∀b4∈(f5 2 [0,1,2,6,7,8,11]++[rY 3 2 0 2 1 a,rY 4 2 1 0 26 w.z]:List (fG (bi))),qg x c a v8 ya w C v L J H h G R o sy es O b4.i:=bp _ b2 (λm=>v7) v7 (λm d4=>v7);have dv:∀bb,bb<12->qg x c a v8 ya w C v L J H h G R o sy es O bb:=f6 (l:=[5,9,10]) v7 d0 ⟨d1,d2,d3,trivial⟩;refine bD (Δ:=bi) (λu=>(ao (lP x c a w v h o sy)) u∨(be es v8 x.lb a x.cb C) u) (I' x c a o sy) Ja (Ai x c a w v h o sy) (Aj x c v8 v L H G R O) [0,1,5,6,7,8] (λm=>[(0,pt a 0),(1,i6 ya),(5,pt w.z 0),(6,z7),(7,pt (m.getD 0) 0),(8,.bool true)]) (λm=>OW x c a w v h o sy m) none (λ_ q=>.inl q) v7 v7 v7 (λj e=>⟨⟨cP.y4 e.x2.drew (ag X) rfl rfl rfl,Q _ _ _ _ cL e.x2.drew (ag X) rfl⟩,λ_ q=>by cases q⟩) v7 dv (λm=>v7) (λm=>v7) (λm T df c2 eg V=>?_);obtain⟨g,rfl⟩:∃g,m=some g:=cV.1 (df 9 (Nat.le_of_ble_eq_true v7) (d9 (k:=7) v7));obtain⟨⟨⟨cR,cO⟩,bs⟩,_⟩:=c2;replace bs:O<=g:=bs;replace V:=X.Wb V (λu z=>z.elim (λ⟨F,b,ac,D⟩=>D▸X.own F b ac) (λq=>vX X.x2 u q));replace V:ab w (be es v8 x.lb a x.cb w) (lQ x c a w v h o sy g) [] T.z T:=V;change aF _ _ _ _ T (ao (lQ x c a w v h o sy g)) _ [y6 15] ⟨[(0,pt a 0),(1,i6 ya),(5,pt w.z 0),(6,z7),(7,pt g 0),(8,.bool true)],lQ x c a w v h o sy g,[],T.z⟩;refine Aq 12 (dz 3 0) [0,1,5,6,7] [fF] [] [y6 62,y6 63] ⟨[(0,pt a 0),(1,i6 ya),(5,pt w.z 0),(6,z7),(7,pt g 0)],lQ x c a w v h o sy g,[],T.z⟩ ?_;refine eT (f:=1) (ls:=bA 13 4095) 12 _ _ v7 v7 v7 v7 (Uq x c a ya w T v h o sy g) ⟨(λj e=>mU ya j),trivial⟩ λcp b0=>?_;replace b0:T.z<=cp:=b0;refine em (i:=12) (ls':=bA 13 8191) (w:=w) (S':=be es v8 x.lb a x.cb w) (Y:=Unit) (λ_=>.tuple #[]) (λ_=>[]) (λ_ a1=>E a1) (λ_=>[(42,.tuple #[]),(0,pt a 0),(6,z7),(34,.func (.func h) #[pt a 0] #[]),(36,i6 (af ya)),(38,i6 o.to),(39,aE (jO o)),(41,aE (Gl sy))]) v7 v7 (show _=some (h,[pt a 0,i6 (af ya),i6 o.to,aE (jO o),aE (Gl sy)],some 42,[])by rcases cC with rfl|rfl|rfl|rfl|rfl|rfl|rfl|rfl<;>kernel_rfl) tI (λ_=>rfl) (λj e=>?_) (λea b3 cs c9=>?_)
 ·have Z:=(ab.A0 V e);have c4:v8<=j.z:=az c3 Z.x2.size;have cU:=(cR.kT e V);have c0:aP j v8 a ({x with busy:=true,nx:=.func (.func h) #[pt a 0] #[],ak:=v}) ({c with zL:=G++R}) L:=⟨_,e.at_ 0 rfl,cU⟩;refine(dt j c0 (Q _ _ _ _ cO e.x2 (ag V) rfl) c4).mono λA p a7=>?_;obtain⟨a5,cB,a4⟩:=a7;exact⟨(),a5,cB,Z.none_.A3 (λ_ q=>q) a4 (vX Z.x2) (λF b=>by cases b)⟩
 refine cd v7 ?_;refine Aq 6 [y2] [6,43] [] [] [.ops (Ac 126) [1,2],y6 127] ⟨[(6,z7),(43,pt a 0)],[],[],b3.z⟩ ?_;refine fh (w:=w) (S':=be es v8 x.lb a x.cb w) (Y:=Option Addr×Nat×Nat) (λB=>yt B.1 B.2.1 B.2.2) (λB=>[]) (λB a1=>J B.1 B.2.1 B.2.2 a1) (λB=>[(44,yt B.1 B.2.1 B.2.2),(6,z7),(43,pt a 0)]) (v7:_=some (37,[pt a 0],some 44,[])) tI (λ_=>rfl) (λj e=>?_) (λB a0 c1 da=>?_)
 ·have Z:=(ab.A0 c9 e);refine(du j (ca _ _ cs (e.x2.mono (λk _ q=>by obtain⟨F,b,_⟩:=q;cases b)))).mono λA p a7=>?_;obtain⟨ak,aR,I,a5,cq,a4⟩:=a7;exact⟨(ak,aR,I),a5,cq,Z.A3 (λ_ q=>q) a4 (vX Z.x2) (λF b=>by cases b)⟩
 obtain⟨M,n,N⟩:=B;change aF _ _ _ _ a0 (ao []) _ [.ops (Ac 126) [2],y6 127] ⟨[(44,yt M n N),(6,z7),(43,pt a 0)],[],[],a0.z⟩;refine z6 5 [y2] [6] [] [] [y6 127] [] [] a0.z ?_;refine B1 [] [yt M n N] [] ?_;intro j e;exact⟨M,n,N,rfl,cA _ _ _ _ _ c1 (e.x2.mono (λk _ q=>by obtain⟨F,b,_⟩:=q;cases b)),(ab.A0 da e).x2⟩
variable {w a:World}{v8 pb:Nat}{x:am}{c:CM}
theorem aP.J7{L:List ar}(h:aP w v8 pb x c L)(b:au z8 w a):aP a v8 pb x c L:=by
 obtain⟨d,e,f⟩:=h;exact⟨d,e.x2 b (λh=>h),f.y4 (es:=[]) b (λ_ h=>h.elim) rfl rfl rfl⟩
theorem ib.J7(h:ib w v8 pb x c)(b:au z8 w a):ib a v8 pb x c:=h.y4 (es:=[]) b (λ_ h=>h.elim) rfl rfl rfl
theorem ib.law{lb:Nat}{es:List TypeId}(h:ib w v8 pb x c)(g:au (be es v8 lb pb x.cb w) w a)(l:w.z<=lb)(he:es.all (λb=>fw.contains b)=true):au (DA w) w a:=
 g.mono λk j i=>by
  rcases i with rfl|rfl|⟨_,b,d,e⟩|⟨d,_⟩
  ·exact⟨98,rfl,aw h.1⟩
  ·exact⟨124,rfl,h.2.zq⟩
  ·exact⟨b,by have f:=bE.1 he b (by simpa using d);simpa using f,e⟩
  ·exact absurd j yq
def Vq(F:aI):Prop:=∀w a (T:br) (es:List TypeId),F w->au T w a->(∀b,T b->cI es w b)->es.all (λc=>[98,124,141,65,59].contains c)=true->F a
def RV(F:aI):Prop:=∀w a (T:br),F w->au T w a->(∀b,T b->cI [98] w b)->F a
theorem RV.J7{F:aI}(h:RV F)(b:F w)(c:au z8 w a):F a:=h w a _ b c (λ_ h=>h.elim)
theorem Oe{d:Nat}{α:Type}(X:α->am)(C:α->CM)(h:α->List ar)(G:α->aI)(es:List TypeId)(b3:es.contains 141=true)(b8:es.all (λj=>fw.contains j)=true)(H:aI)(an:Vq H)(z:∀b,RV (G b))(WD:∀b,(X b).cb=x.cb)(e:Nat)(bt:e=54∨e=114∨e=84∨e=112∨e=95∨e=80∨e=120∨e=149)(q R:List ar)(o:ar)(sy:dw)(ya:Int)(D:ib w d pb x c)(E:x.busy=true)(F:x.nx=.func (.func e) #[pt pb 0] #[])(aR:c.zL=q++o::R)(b1:∀a4∈q,a4.id≠o.id)(b4:(0<=o.to∧o.to<6)∨o.to=100∨(200<=o.to∧o.to<202))(b9:200<=c.Ar∧c.Ar<202)(b5:1<=o.id∧o.id<=1099511627776)(b6:jJ sy)(b2:d<=w.z)(b0:H w)(I:∀f,aP f d pb {x with lb:=w.z} {c with zL:=q++R} []->H f->d<=f.z->aC e #[pt pb 0,i6 (af ya),i6 o.to,.agg #[i6 o.q.kind,i6 o.q.Al,i6 o.q.BV,i6 o.q.seq,i6 o.q.mask,i6 o.q.node,i6 o.q.oe,i6 o.q.os,sT o.q.block],.agg #[i6 sy.st,i6 sy.ep,i6 sy.ou,bO_ sy.rc.used,i6 sy.rc.Bf,i6 sy.rc.de,i6 sy.rc.ds,sT sy.rc.block,bO_ sy.rc.op,i6 sy.rc.ie,i6 sy.rc.is,i6 sy.rc.mask,sT sy.rc.A9]] f (λj a=>j=Jx∧(∃b,aP a d pb { X b with lb:=w.z} (C b) (h b)∧G b a)∧au (be es d w.z pb x.cb f) f a)):aC 19 #[pt pb 0,i6 ya,.agg #[i6 o.to,i6 c.Ar,i6 o.id,bO_ true,i6 0,i6 0,i6 0,i6 0,i6 0,i6 0,i6 0,i6 0,sT ⟨#[]⟩,i6 sy.st,i6 sy.ep,i6 sy.ou,bO_ sy.rc.used,i6 sy.rc.Bf,i6 sy.rc.de,i6 sy.rc.ds,sT sy.rc.block,bO_ sy.rc.op,i6 sy.rc.ie,i6 sy.rc.is,i6 sy.rc.mask,sT sy.rc.A9]] w (λj a=>∃b g i,j=.returned (yt g (h b).length i)∧ah a w.z 65 26 g (h b).length i (aJ (C b).Ar (h b))∧ib a d pb (X b) (C b)∧G b a∧au (be es d w.z pb x.cb w) w a∧au (DA w) w a):=by
 obtain⟨cb,J,K,O,a3,cl,a0,bs,Q,a8,P,cf,a2,W,Y,a5,S,a9,bb,a1,a6,b7,a7,bl,N,bd,M,Z,T,V⟩:=x;dsimp only at E F I WD ⊢;subst E F;have aq:=D.XM (lb':=w.z) (bT _);refine(zM (⟨w.z,J,K,O,a3,true,a0,bs,Q,a8,P,.func (.func e) #[pt pb 0] #[],a2,W,Y,a5,S,a9,bb,a1,a6,b7,a7,bl,N,bd,M,Z,T,V⟩:am) c [] pb d es b3
  (λa=>∃b,aP a d pb { X b with lb:=w.z} (C b) (h b)∧G b a) (by rintro bg bk ⟨b,l,k⟩ m;exact⟨b,l.J7 m,(z _).J7 k m⟩)
  (λg p i a=>∃b,p=(h b).length∧ah a w.z 65 26 g p i (aJ (C b).Ar (h b))∧ib a d pb (X b) (C b)∧G b a) (by rintro g p i bg bk ⟨b,v,y,k,ac⟩ m;exact⟨b,v,y.x2 m (λ_ _ s=>s),k.J7 m,(z _).J7 ac m⟩)
  H an e bt q R o sy ya aR b1 b4 b9 b5 b6 w aq b2 b0 (λf v y l=>by have k:=I f v y l;exact k) (λf ak=>?_)).mono λj a A=>?_
 ·obtain⟨b,l,k⟩:=ak;refine(vL { X b with lb:=w.z} (C b) (h b) pb d f l).mono λj a A=>?_;obtain⟨g,i,t,r,U,n,u⟩:=A;obtain⟨ca,ad,_⟩:=l;dsimp only at r n;rw[WD b]at n;exact⟨g,(h b).length,i,t,⟨b,rfl,r,U,z _ _ _ _ k u (λL aV=>by subst aV;exact⟨98,z1,aw ad⟩)⟩,n.mono λL _ s=>s.mono rfl⟩
 ·obtain⟨g,p,i,t,⟨b,rfl,r,n,u⟩,B⟩:=A;exact⟨b,g,i,t,r,n,u,B,D.law B (bT _) b8⟩
def N1(lo:Nat)(W:World)(s:bK)(P:List bz):Prop:=∃a b,s.pd=yt a P.length b∧ah W lo 65 26 a P.length b (ai bz.cells P)
theorem cy.We{w e:World}{b:Nat}{s:bK}{v:Value}(h:cy w b s)(c:au (λd=>d=s.sb) w e)(g:A2 e s.sb 54 {s with pd:=v}.cells):cy e b {s with pd:=v}:=by
 have a:∀d,d=s.sb->cI [54] w d:=λd k=>by subst k;exact⟨54,z1,aw h.KS⟩
 exact⟨g,h.Xf.x2 c (λj=>aN rfl (aw h.Xf) (a _ j)),h.rws.y4 c a rfl,λf i=>(h.Wz f i).y4 c a rfl,h.one,h.NN.y4 c a rfl,h.ids.y4 c a rfl,h.say.y4 c a rfl,h.low⟩
theorem N2{W:World}{b lo k:Nat}{s:bK}{P:List bz}{x:bz}(j:cy W b s)(w:N1 lo W s P)(A:lo<=W.z)(z:P.length<=100000)(n:P[k]?=some x):aC 17 #[pt s.sb 0,i6 (k:Int)] W (λe c=>e=.returned (.agg x.cells.toArray)∧(∃f,cy c b {s with pd:=f}∧N1 lo c {s with pd:=f} (P.eraseIdx k))∧au (λq=>q=s.sb) W c):=by
 obtain⟨p,r,B,l⟩:=w;have y:=(cF.1 n).1;have d:=j.KS;unfold bK.cells at d;rw[B]at d;obtain⟨a,rfl⟩:∃a,p=some ⟨a,0,none⟩:=by
  rcases l.zq with⟨_,h,_⟩|⟨a,_,h,_⟩
  ·omega
  ·exact⟨a,h⟩
 refine(N3 s.sb s.N s.S s.gO s.cO s.kb a P.length r k lo P x rfl z n W d l).mono λe c ⟨t,g,o,u,v,i⟩=>?_;have m:(P.eraseIdx k).length=P.length-1:=by rw[List.length_eraseIdx,aA y]
 exact⟨t,⟨yt g (P.length-1) o,j.We i u,g,o,by rw[m],by rw[m];exact v.below A⟩,i⟩
def iB(a:Int)(sy:ar->dw)(o:ar):bz:=⟨o.to,a,o.id,true,⟨0,0,0,0,0,0,0,0,⟨#[]⟩⟩,sy o⟩
theorem Ll{P Q:List bz}(h:P.Perm Q){k:Nat}{x:bz}(b:P[k]?=some x):x∈Q∧∀a,Q.Perm (x::a)->(P.eraseIdx k).Perm a:=by
 obtain⟨c,d⟩:=mK b;have e:P.Perm (x::P.eraseIdx k):=by
  rw[d]
  conv=>lhs;rw[c]
  rw[eA];exact List.perm_middle
 exact⟨h.subset (aS b),λa f=>List.Perm.cons_inv ((e.symm.trans h).trans f)⟩
def fO(a:Int)(sy:ar->dw)(A B:List ar)(ST:List bz):List bz:=A.map (eV a)++(B.map (iB a sy)++ST)
theorem FK{c:Int}{sy:ar->dw}{A B:List ar}{g P:List bz}(h:P.Perm (fO c sy A B g)){k:Nat}{x:bz}(p:P[k]?=some x) :
  (∃b l,x=eV c b∧A.Perm (b::l)∧(P.eraseIdx k).Perm (fO c sy l B g))∨(∃b m,x=iB c sy b∧B.Perm (b::m)∧(P.eraseIdx k).Perm (fO c sy A m g))∨(∃n,g.Perm (x::n)∧(P.eraseIdx k).Perm (fO c sy A B n)):=by
 obtain⟨o,i⟩:=Ll h p;rcases dG.1 o with f|f
 ·obtain⟨b,j,rfl⟩:=aT.1 f;obtain⟨d,e,rfl⟩:=List.append_of_mem j;refine .inl ⟨b,d++e,rfl,List.perm_middle,i _ ?_⟩;unfold fO;exact(List.Perm.append_right _ ((List.perm_middle (a:=b) (l₁:=d) (l₂:=e)).map (eV c)))
 ·rcases dG.1 f with f|f
  ·obtain⟨b,j,rfl⟩:=aT.1 f;obtain⟨d,e,rfl⟩:=List.append_of_mem j;refine .inr (.inl ⟨b,d++e,rfl,List.perm_middle,i _ ?_⟩);unfold fO;refine(List.Perm.append_left _ (List.Perm.append_right _ ((List.perm_middle (a:=b) (l₁:=d) (l₂:=e)).map (iB c sy)))).trans ?_;exact List.perm_middle
  ·obtain⟨d,e,rfl⟩:=List.append_of_mem f;refine .inr (.inr ⟨d++e,List.perm_middle,i _ ?_⟩);unfold fO;refine(List.Perm.append_left _ (List.Perm.append_left _ List.perm_middle)).trans ?_;refine(List.Perm.append_left _ List.perm_middle).trans ?_;exact List.perm_middle
theorem Ds{a:Int}{sy:ar->dw}{A B:List ar}{b P:List bz}{o:ar}(h:P.Perm (fO a sy A B b)):(P++[iB a sy o]).Perm (fO a sy A (o::B) b):=by
 refine(h.append_right _).trans ?_;unfold fO;refine List.perm_append_comm.trans ?_;exact(List.perm_middle (l₁:=A.map (eV a)) (l₂:=B.map (iB a sy)++b)).symm
def oN(s:bK)(i:Nat)(ya k h f d e2 g j o2:Int):Prop:=∀a,A2 a s.kb 119 [yt (ae s.gL) s.S s.cL,yt (ae s.gI) 2 2,yt (ae s.gS) 2 2]->ah a 0 73 4 (ae s.gL) s.S s.cL (ai cQ.cells s.T1)->aC 62 #[pt s.kb 0,i6 ya,i6 k,.agg #[i6 h,i6 (i:Int),i6 f,i6 0,i6 0,i6 d,i6 0,i6 0,sT ⟨#[]⟩]] a (λe b=>e=.returned (.agg #[i6 1,i6 e2,i6 o2,bO_ false,i6 0,i6 0,i6 0,sT ⟨#[]⟩,bO_ false,i6 0,i6 0,i6 0,sT ⟨#[]⟩])∧ah b 0 73 4 (ae s.gL) s.S s.cL (ai cQ.cells (s.T1.set (Int.toNat (i:Int)) ⟨e2,g,j,o2⟩))∧au (λc=>c=s.gL) a b)
section
variable (s:bK)(b:Nat)(ya c a:Int)(i:Nat)(h f e e2 j l o2:Int)(w:World)
def QK:av:=[i6 h,i6 (i:Int),i6 f,i6 0,i6 0,i6 e,i6 0,i6 0,sT ⟨#[]⟩]
def lU:av:=([i6 1,i6 e2,i6 o2]++ka)
def Cj:av:=([i6 c,i6 100,i6 a,bO_ false,i6 h,i6 (i:Int),i6 f,i6 0,i6 0,i6 e,i6 0,i6 0,sT ⟨#[]⟩,i6 0,i6 0,i6 0]++ka)
def Hq:av:=rp 3 (i6 0)++[bO_ false]++rp 8 (i6 0)++[sT ⟨#[]⟩]++rp 3 (i6 0)++[bO_ false]++rp 3 (i6 0)++[sT ⟨#[]⟩,bO_ false]++rp 3 (i6 0)++[sT ⟨#[]⟩]
def Ck:av:=[i6 100,i6 c,i6 a,bO_ true]++rp 8 (i6 0)++([sT ⟨#[]⟩,i6 0,i6 0,i6 0]++ka)
def Hr:av:=rp 3 (i6 0)++[bO_ false]++rp 3 (i6 0)++[sT ⟨#[]⟩,bO_ false]++rp 3 (i6 0)++[sT ⟨#[]⟩]
def Cl:av:=((((Ck c a).set 13 (i6 1)).set 14 (i6 e2)).set 15 (i6 o2))
@[simp] def Hs:ax:=[⟨s.sb,54,false,s.cells⟩,⟨w.z,65,true,Cj c a i h f e⟩,⟨w.z+1,65,true,Hq⟩,⟨w.z+2,65,true,Ck c a⟩]
@[simp] def QL(d:bi):ax:=[⟨s.sb,54,false,s.cells⟩,⟨w.z,65,true,Cj c a i h f e⟩,⟨w.z+1,65,true,Hq⟩,⟨w.z+2,65,true,Ck c a⟩,⟨d.getD 0,63,true,lU e2 o2⟩]
@[simp] def Ht(g:Nat)(w:World):ax:=[⟨s.sb,54,false,s.cells⟩,⟨w.z,65,true,Cj c a i h f e⟩,⟨w.z+1,65,true,Hq⟩,⟨w.z+2,65,true,Ck c a⟩,⟨g,63,true,lU e2 o2⟩]
def VI:Exit->Act->aI:=bodyPost prog f18 (λf e=>f=.returned (.tuple #[aE (Cl c a e2 o2),bO_ true])∧cy e b (s.WL i ⟨e2,j,l,o2⟩ (Int.toNat (c-200)) a ⟨1,e2,o2,⟨false,0,0,0,⟨#[]⟩,false,0,0,0,⟨#[]⟩⟩⟩)∧au (λd=>d=s.gL∨d=s.gI∨d=s.gS) w e)
def SW:bu:=[(0,pt s.sb 0),(1,i6 ya),(5,pt w.z 0),(6,pt (w.z+1) 0),(7,bO_ false),(8,pt (w.z+2) 0)]
def Kh(d:bi):List (Option Value):=[some (pt s.sb 0),some (pt s.sb 0),some (pt s.sb 3),some (pt s.kb 0),some (i6 ya),some (pt w.z 0),some (i6 c),some (pt w.z 2),some (i6 a),some (pt w.z 4),some (aE (QK i h f e)),some (.tuple #[aE (lU e2 o2),bO_ true]),some (.tuple #[aE (lU e2 o2),bO_ true]),some (aE (lU e2 o2)),some (bO_ true),some (pt (d.getD 0) 0),some (.tuple #[]),some (bO_ true)]
def Ki(d:bi)(k:Nat):Bool:=(fL 18 [(15,d.isSome)])[k]?.getD true
def Cm(d:bi):List (ax):=[Hs s c a i h f e w,Hs s c a i h f e w,QL s c a i h f e e2 o2 w d]
abbrev Cn(s:bK)(b:Nat)(c:Int)(a:Int)(i:Nat)(e2:Int)(j:Int)(l:Int)(o2:Int)(w:World)(g:Nat)(d:bi)(f:World):Prop:=match g with|0=>(cy f b s)∧(∀e,d=some e->(w.z+3)<=e∧A2 f e 63 (Hr))|1=>(cy f b (s.WL i ⟨e2,j,l,o2⟩ (Int.toNat (c-200)) a ⟨1,e2,o2,⟨false,0,0,0,⟨#[]⟩,false,0,0,0,⟨#[]⟩⟩⟩))∧(∀e,d=some e->(w.z+3)<=e∧A2 f e 63 (Hr))|2=>((cy f b (s.WL i ⟨e2,j,l,o2⟩ (Int.toNat (c-200)) a ⟨1,e2,o2,⟨false,0,0,0,⟨#[]⟩,false,0,0,0,⟨#[]⟩⟩⟩))∧w.z+3<=d.getD 0)∧True|_=>True
def qz(g:Nat):Prop:=cY prog f18 [1,1,1,0,1,0,0] 107 [] (VI s b c a i e2 j l o2 w) [y6 245,y6 31] (SW s ya w) (V7 18 [11,16]) 2 (Kh s ya c a i h f e e2 o2 w) Ki w (λd=>d=s.gL∨d=s.gI∨d=s.gS) (Cm s c a i h f e e2 o2 w) (w.z+3) (Cn s b c a i e2 j l o2 w) g
end
theorem FL(s:bK)(b i:Nat)(ya d e q o m e2 y D o2 v:Int)(bl:oN s i ya d q o m e2 y D o2)(bt:0<=ya∧ya<=1099511627776)(a7:200<=d∧d<202)(a8:1<=e∧e<=1099511627776∧v<e)(a3:s.ids[Int.toNat (d-200)]?=some v)(a9:s.ids.length=2)(bb:s.says.length=2)(w:World)(M:cy w b s)(b6:b<=w.z):aC 18 #[pt s.sb 0,i6 ya,.agg #[i6 d,i6 100,i6 e,bO_ false,i6 q,i6 (i:Int),i6 o,i6 0,i6 0,i6 m,i6 0,i6 0,sT ⟨#[]⟩,i6 0,i6 0,i6 0,bO_ false,i6 0,i6 0,i6 0,sT ⟨#[]⟩,bO_ false,i6 0,i6 0,i6 0,sT ⟨#[]⟩]] w (λO E=>O=.returned (.tuple #[.agg #[i6 100,i6 d,i6 e,bO_ true,i6 0,i6 0,i6 0,i6 0,i6 0,i6 0,i6 0,i6 0,sT ⟨#[]⟩,i6 1,i6 e2,i6 o2,bO_ false,i6 0,i6 0,i6 0,sT ⟨#[]⟩,bO_ false,i6 0,i6 0,i6 0,sT ⟨#[]⟩],bO_ true])∧cy E b (s.WL i ⟨e2,y,D,o2⟩ (Int.toNat (d-200)) e ⟨1,e2,o2,⟨false,0,0,0,⟨#[]⟩,false,0,0,0,⟨#[]⟩⟩⟩)∧au (λj=>j=s.gL∨j=s.gI∨j=s.gS) w E):=by
 refine cH (S:=z8) (n:=107) func18 (ab.start (bk:=[⟨s.sb,54,false,s.cells⟩]) (wn:=[]) (λB a=>by obtain rfl:=aG.1 a;exact M.KS) (λB a A=>by obtain rfl:=aG.1 a;cases A) z1 z1) ?_;have bd:=M.YX;refine Aq 38 (dz 19 0x1001011801a00380001021800100180010118000103180000) [0,1,5,6,7,8] [fF,tT] [(w.z,3,1),(w.z,1,1),(w.z,0,1),(w.z,2,1),(w.z+2,0,26),(w.z,1,1)] [y6 244,y6 245,y6 31] ⟨[(0,pt s.sb 0),(1,i6 ya),(5,pt w.z 0),(6,pt (w.z+1) 0),(7,bO_ false),(8,pt (w.z+2) 0)],Hs s d e i q o m w,[],w.z+3⟩ ?_;have aq:eh w (λj=>j=s.gL∨j=s.gI∨j=s.gS) (Cm s d e i q o m e2 o2 w) (Cn s b d e i e2 y D o2 w):=by
  intro I h F E bk a z c H
  match I,a,c with
  |0,a,c=>
   obtain rfl:=ap a;refine⟨c.1.x2 H (λj ⟨B,a,A,C⟩=>by simp at a;rcases a with rfl|rfl|rfl|rfl<;>simp at A C<;>exact .inl yq),λp r=>⟨(c.2 p r).1,(c.2 p r).2.x2 H (λ⟨B,a,A,C⟩=>?_)⟩⟩;have V:=(c.2 p r).1;simp at a;rcases a with rfl|rfl|rfl|rfl<;>simp at A C<;>omega
  |1,a,c=>
   obtain rfl:=ap a;refine⟨c.1.x2 H (λj ⟨B,a,A,C⟩=>by simp at a;rcases a with rfl|rfl|rfl|rfl<;>simp at A C<;>exact .inl yq),λp r=>⟨(c.2 p r).1,(c.2 p r).2.x2 H (λ⟨B,a,A,C⟩=>?_)⟩⟩;have V:=(c.2 p r).1;simp at a;rcases a with rfl|rfl|rfl|rfl<;>simp at A C<;>omega
  |2,a,c=>
   obtain rfl:=ap a;exact⟨⟨c.1.1.x2 H (λj ⟨B,a,A,C⟩=>by have V:=c.1.2;simp at a;rcases a with rfl|rfl|rfl|rfl|rfl<;>simp at A C<;>exact .inl yq),c.1.2⟩,trivial⟩
  |I+3,a,c=>exact trivial
 have b2:qz s b ya d e i q o m e2 y D o2 w 11:=WO (s:=0) (f:=39) (args:=λh=>[pt s.kb 0,i6 ya,i6 d,i6 e,aE (QK i q o m)]) (ob:=λh=>[]) (λ(h:bi)(_:Unit)=>h) (λh=>.tuple #[aE (lU e2 o2),bO_ true]) (λh=>trivial) (λh F bk a z c an=>by
  obtain rfl:=ap a;have G:=c.1;refine(P7 (i:Int) d ya q o m e2 y D o2 s.T1 s.S s.gL s.gI s.gS s.cL s.kb 0 bt e v s.ids s.says a7 a8 a3 a9 bb bl F G.Xf G.NN G.ids G.say).mono λO E a2=>?_;obtain⟨R,y,aV,a0,Q⟩:=a2;rw[cJ]at y;exact⟨(),R,rfl,⟨G.WL Q y aV a0,λp r=>⟨(c.2 p r).1,(c.2 p r).2.x2 Q (λK=>absurd (bd _ K) (by have:=(c.2 p r).1;omega))⟩⟩,z.A3 (λ_ u=>u) Q (λj K=>.inl K) (λB a K=>by
   have T:=aw (z.zq B a);have a1:cI [73,3,63] F B.g:=by
    rcases K with u|u|u
    ·exact⟨73,z1,u▸G.NN.ty _ ⟨_,rfl,rfl⟩⟩
    ·exact⟨3,z1,u▸G.ids.ty _ ⟨_,rfl,rfl⟩⟩
    ·exact⟨63,z1,u▸G.say.ty _ ⟨_,rfl,rfl⟩⟩
   exact aN (by simp at a;rcases a with rfl|rfl|rfl|rfl<;>rfl) T a1),Q.size⟩)
 have b3:qz s b ya d e i q o m e2 y D o2 w 15:=W1 1 63 (Hr) (λ_ g=>some g) (λg=>pt g 0) (λI h F E bk N a z c H W Z=>by
  have J:=aq I h F E bk a z c H
  match I,a,c,J,N with
  |0,a,c,J,N=>exact⟨J.1,(λp r=>by obtain rfl:=ap r;exact⟨W,Z⟩)⟩
  |1,a,c,J,N=>exact⟨J.1,(λp r=>by obtain rfl:=ap r;exact⟨W,Z⟩)⟩
  |I+2,a,c,J,N=>exact absurd N yq)
 have b4:qz s b ya d e i q o m e2 y D o2 w 16:=V8 (s:=1) (x:=λh=>Instr.storeAt 63 (pt (h.getD 0) 0) (aE (lU e2 o2))) (λ(h:bi)(_:Unit)=>h) (λh F bk a z c an=>by
  obtain rfl:=ap a;obtain⟨p,rfl⟩:∃p,h=some p:=cV.1 (an 15 (aS (i:=0) v7) (d9 (k:=9) v7));obtain⟨bg,Y⟩:=c.2 p rfl;obtain⟨E,R,a5,ad,ak⟩:=cG (P:=prog) (t:=63) (v:=aE (lU e2 o2)) v7 Y rfl (by show 0+13<=13;omega) (aU rfl) rfl;refine⟨(),E,R,rfl,⟨⟨c.1.x2 ad (λj K=>.inl yq),bg⟩,trivial⟩,z.Wc (g:=p) ad a5 yq (λB a O=>?_),bC ak.symm⟩;have T:=aw (z.zq B a);simp at a;rcases a with rfl|rfl|rfl|rfl<;>exact eo (aw Y) O T rfl)
 have b1:∀aR∈(f5 2 [0,1,2,4,5,7,9,12,13,14,17]++[rY 3 2 0 3 1 s.sb,rY 6 2 1 0 1 w.z,rY 8 2 1 2 1 w.z,rY 10 2 1 4 9 w.z]:List (fG (bi))),qz s b ya d e i q o m e2 y D o2 w aR.i:=bp _ aq (λh=>v7) v7 (λh b5=>v7);have b0:∀X,X<18->qz s b ya d e i q o m e2 y D o2 w X:=f6 (l:=[11,15,16]) v7 b1 ⟨b2,b3,b4,trivial⟩;refine bD (Δ:=bi) (λj=>j=s.gL∨j=s.gI∨j=s.gS) (Kh s ya d e i q o m e2 o2 w) Ki (Cm s d e i q o m e2 o2 w) (Cn s b d e i e2 y D o2 w) [0,5,6,7,8,9,10] (λh=>[(0,pt s.sb 0),(5,pt w.z 0),(6,pt (w.z+1) 0),(7,.bool false),(8,pt (w.z+2) 0),(9,pt (h.getD 0) 0),(10,.bool true)]) (λh=>QL s d e i q o m e2 o2 w h) none (λ_ u=>u.elim) v7 v7 v7 (λF z=>⟨M.x2 z.x2.drew (λ_ u=>u.elim),λ_ u=>by cases u⟩) v7 b0 (λh=>v7) (λh=>v7) (λh L bs a6 ak U=>?_);obtain⟨g,rfl⟩:∃g,h=some g:=cV.1 (bs 15 (Nat.le_of_ble_eq_true v7) (d9 (k:=9) v7));obtain⟨⟨a4,ac⟩,_⟩:=a6;replace ac:w.z+3<=g:=ac;replace U:ab w (λj=>j=s.gL∨j=s.gI∨j=s.gS) (Ht s d e i q o m e2 o2 g w) [] L.z L:=U;change aF _ _ _ _ L (ao (Ht s d e i q o m e2 o2 g w)) _ [y6 245,y6 31] ⟨[(0,pt s.sb 0),(5,pt w.z 0),(6,pt (w.z+1) 0),(7,.bool false),(8,pt (w.z+2) 0),(9,pt g 0),(10,.bool true)],Ht s d e i q o m e2 o2 g w,[],L.z⟩;refine z6 16 (dz 7 0x1a002801a00380d0d3800d0048) [0,5,6,7,8] [] [(g,0,13),(w.z+2,13,13),(w.z+2,0,26),(w.z+1,0,26)] [y6 983,y6 31] [⟨s.sb,54,false,s.cells⟩,⟨w.z,65,true,Cj d e i q o m⟩,⟨w.z+1,65,true,Cl d e e2 o2⟩,⟨w.z+2,65,true,Cl d e e2 o2⟩,⟨g,63,true,lU e2 o2⟩] [] L.z ?_;refine B1 [[⟨false,2,0,26⟩]] [aE (Cl d e e2 o2),.bool true] [(w.z+1,0,26)] ?_;intro F z;exact⟨rfl,a4.x2 z.x2 (λj ⟨B,a,A,C⟩=>by simp at a;rcases a with rfl|rfl|rfl|rfl|rfl<;>simp at A C<;>exact .inl yq),(ab.A0 U z).x2⟩
section
variable (s:bK)(i:Nat)
theorem LC(ya c a b d O:Int)(j:i<s.S)(m:s.S<=8)(k:s.NN i=⟨a,b,d,O⟩)(g:0<=a∧a<16777215)(n:0<=ya∧ya<=1099511627776)(h:b=0∨b=c):oN s i ya c 8 0 0 (a+1) c (ya+30) O:=λl e f=>BH (i:Int) c ya a b d O s.T1 s.S s.gL s.gI s.gS s.cL s.kb 0 ⟨by omega,by omega⟩ m (by simp[bK.T1]) g n (by rw[cJ,bK.T1,ew,ek j];exact congrArg some k) h l e f
theorem RY(ya c a d b:Int)(h:i<s.S)(m:s.S<=8)(j:s.NN i=⟨a,c,d,-1⟩)(g:1<=a∧a<16777215)(n:0<=ya∧ya<=1099511627776)(l:0<=b∧b<=5):oN s i ya c 9 a b (a+1) c (ya+30) b:=λk e f=>sM (i:Int) c ya a d b s.T1 s.S s.gL s.gI s.gS s.cL s.kb 0 ⟨by omega,by omega⟩ m (by simp[bK.T1]) g n (by rw[cJ,bK.T1,ew,ek h];exact congrArg some j) l k e f
theorem Ua(ya b a c O:Int)(g:i<s.S)(k:s.S<=8)(h:s.NN i=⟨a,b,c,O⟩)(f:1<=a∧a<16777215):oN s i ya b 10 a 0 a b c (-1):=λj d e=>wD (i:Int) b ya a c O s.T1 s.S s.gL s.gI s.gS s.cL s.kb 0 ⟨by omega,by omega⟩ k (by simp[bK.T1]) f (by rw[cJ,bK.T1,ew,ek g];exact congrArg some h) j d e
end
end Go.Proofs.YtcmpkkapkdlfhaaGreat
