import Derived.Test.YtcmpkkapkdlfhaaGreatPhP17e
namespace Go.Proofs.YtcmpkkapkdlfhaaGreat
open Go.RowKit Tryz
set_option maxHeartbeats 4000000
set_option maxRecDepth 100000
variable {N sn o:Int}(x:am)
theorem L8{i:Nat}(b:i<8)(n:Int):x.cells.take (3+i*5+2)++[i6 n]++x.cells.drop (3+i*5+2+1)=({x with lv:=λa=>if a=i then{ x.lv i with ou:=n}else x.lv a}:am).cells:=by
 match i,b with
 |0,_|1,_|2,_|3,_|4,_|5,_|6,_|7,_=>rfl
def XZ(x:am):Nat->jI:=Wo x.lv (Int.toNat x.sn) { x.lv (Int.toNat x.sn)with ou:=-1}
def ev(N sn o:Int)(i:Nat):bB:=((List.range i).map λa:Nat=>(a:Int)).filter λa=>(a+sn)%N != o
theorem Bh{n:Nat}(h:¬((n:Int)+sn)%N=o):ev N sn o (n+1)=ev N sn o n++[(n:Int)]:=by
 simp[ev,List.range_succ,h]
theorem Bi{n:Nat}(h:((n:Int)+sn)%N=o):ev N sn o (n+1)=ev N sn o n:=by
 simp[ev,List.range_succ,h]
theorem SH(N sn o:Int)(n:Nat):(ev N sn o n).length<=n:=by
 have b:=List.length_filter_le (λa=>(a+sn)%N != o) ((List.range n).map λa:Nat=>(a:Int));rwa [ey,List.length_range]at b
def fK(N sn e o:Int)(R:bB):List (Int×ck):=(o,eC sn e)::aQ 2 N sn e R
theorem yb{e:Int}{R:bB}{k:Int}:fK N sn e o (R++[k])=fK N sn e o R++[((k+sn)%N,dV 2 sn e)]:=by simp[fK,aQ]
theorem vD{e:Int}{R:bB}:(fK N sn e o R).length=R.length+1:=by simp[fK,eJ]
section
variable (x:am)(c:CM)(pb v8:Nat)(w:World)(v:Value)(L:List ar)(b d:Int)(q:ck)(r:aZ)(_:Unit)
def GL:av:=(q.cells)
def GM:av:=([i6 1,i6 b,i6 d]++r.cells)
@[simp] def PJ:ax:=[bh pb {x with ak:=v},⟨w.z,59,true,GL q⟩,⟨w.z+1,63,true,GM b d r⟩]
@[simp] def rD:ax:=[bh pb {x with lv:=XZ x,ak:=v},⟨w.z,59,true,GL q⟩,⟨w.z+1,63,true,GM b d r⟩]
@[simp] def PK(v2:Value)(b:Int)(d:Int)(q:ck)(r:aZ):ax:=[⟨pb,98,true,am.cells {x with lv:=XZ x,busy:=false,kd:=0,at_:=0,da:=⟨#[]⟩,sn:=0,cn:=0,nx:=.nilFunc,lg:=false,en:=0,ep:=0,ou:=0,db:=false,te:=0,ts:=0,kn:=z7,rc:=z7,Wh:=false,rd:=z7,wr:=z7,bl:=WC,ud:=.pointer none,ak:=v2,er:=0,dt:=⟨#[]⟩,ed:=(x.ed+1)}⟩,⟨w.z,59,true,GL q⟩,⟨w.z+1,63,true,GM b d r⟩]
def VB:Exit->Act->aI:=bodyPost prog f149 (λb a=>b=Jx∧aP a v8 pb (({x with lv:=XZ x}:am).ended 0 ⟨#[]⟩) {c with zL:=[]} L∧(∀d,bO 124 141 a d x.cb {c with zL:=[]})∧au (be [141] v8 x.lb pb x.cb w) w a)
def SI:bu:=[(0,pt pb 0)]
def JF(_:Unit):List (Option Value):=[some (pt pb 0),some (pt pb 0),some (pt pb 0),some (pt pb 44),some (pt pb 47),some (i6 x.sn),some (pt pb 0),some (pt pb 3),some (pt pb (3+(Int.toNat x.sn)*5)),some (pt pb (3+(Int.toNat x.sn)*5+2)),some (.tuple #[])]
def JG(_:Unit)(k:Nat):Bool:=(fL 11 [])[k]?.getD true
def Bj(_:Unit):List (ax):=[PJ x pb w v b d q r,rD x pb w v b d q r]
abbrev Bl(x:am)(c:CM)(v8:Nat)(v:Value)(L:List ar)(b:Nat)(_:Unit)(a:World):Prop:=match b with|0=>bq a v8 x.lb x.cb c L v|1=>bq a v8 x.lb x.cb c L v|_=>True
def Bm(a:Nat):Prop:=cY prog f149 [1,1,0] 28 [] (VB x c pb v8 w L) [y6 15] (SI pb) (V7 11 [10]) 1 (JF x pb) JG w (be [141] v8 x.lb pb x.cb w) (Bj x pb w v b d q r) (w.z+2) (Bl x c v8 v L) a
end
theorem LM(c:CM)(L:List ar)(pb:Nat)(v8:Nat)(ya Q b d:Int)(q:ck)(r:aZ)(bd:3<=x.N∧x.N<=6∧1<=x.S∧x.S<=8)(hs:0<=x.sn∧x.sn<x.S)(a2:0<=x.ed∧x.ed<1099511627776)(w:World)(U:aP w v8 pb x c L)(a0:v8<=w.z):aC 149 #[pt pb 0,i6 ya,i6 Q,.agg #[i6 q.kind,i6 q.Al,i6 q.BV,i6 q.seq,i6 q.mask,i6 q.node,i6 q.oe,i6 q.os,sT q.block],.agg #[i6 1,i6 b,i6 d,bO_ r.used,i6 r.Bf,i6 r.de,i6 r.ds,sT r.block,bO_ r.op,i6 r.ie,i6 r.is,i6 r.mask,sT r.A9]] w (λC h=>C=Jx∧aP h v8 pb (({x with lv:=XZ x}:am).ended 0 ⟨#[]⟩) {c with zL:=[]} L∧(∀o,bO 124 141 h o x.cb {c with zL:=[]})∧au (be [141] v8 x.lb pb x.cb w) w h):=by
 obtain⟨v,F,T⟩:=U;have ad:=aw F;refine cH (S:=(λu=>u=pb)) (n:=28) func149 (ab.D1 F) ?_;refine Aq 18 (dz 6 268599296) [0] [fF] [(w.z+1,0,1)] [y6 14,y6 15] ⟨[(0,pt pb 0)],PJ x pb w v b d q r,[],w.z+2⟩ ?_;have a9:eh w (bL [141] v8 x pb w) (Bj x pb w v b d q r) (Bl x c v8 v L):=by
  intro E e j h N f a g G
  match E,f,g with
  |0,f,g=>
   obtain rfl:=ap f;exact(g.kU G a)
  |1,f,g=>
   obtain rfl:=ap f;exact(g.kU G a)
  |E+2,f,g=>exact trivial
 have bb:Bm x c pb v8 w v L b d q r 10:=V8 (s:=0) (x:=λe=>Instr.storeAt 3 (pt pb (3+(Int.toNat x.sn)*5+2)) (i6 (-1))) (λ(e:Unit)(_:Unit)=>e) (λe j N f a g bt=>by
  obtain rfl:=ap f;obtain⟨h,R,X,J,a4⟩:=cG (P:=prog) (t:=3) (v:=i6 (-1)) (cs':=am.cells {x with lv:=XZ x,ak:=v}) v7 (a.at_ 0 rfl) rfl (by show(3+(Int.toNat x.sn)*5+2)+1<=73;omega) (aU rfl) (L8 ({x with ak:=v}) (i:=Int.toNat x.sn) yq (-1));exact⟨(),h,R,rfl,(g.y4 (es:=[98]) J (λu y=>by subst y;exact⟨98,z1,aw (a.at_ 0 rfl)⟩) rfl rfl rfl),(a.PA 0 rfl rfl J X).2,bC a4.symm⟩)
 have a8:∀O∈(f5 1 [0,1,2,3,4,6,7,9]++[rY 5 1 0 47 1 pb,⟨8,1,HA,λ_=>[oE ((0:Int)<=x.sn∧x.sn<((8:Nat):Int))],λ_=>[]⟩]:List (fG (Unit))),Bm x c pb v8 w v L b d q r O.i:=bp _ a9 (λe=>v7) v7 (λe bg=>v7);have a7:∀H,H<11->Bm x c pb v8 w v L b d q r H:=f6 (l:=[10]) v7 a8 ⟨bb,trivial⟩;refine bD (Δ:=Unit) (bL [141] v8 x pb w) (JF x pb) JG (Bj x pb w v b d q r) (Bl x c v8 v L) [0] (λe=>[(0,pt pb 0)]) (λe=>rD x pb w v b d q r) () (λ_ K=>.inl K) v7 v7 v7 (λj a=>(T.y4 (es:=[98]) a.x2.drew (λu y=>by subst y;exact⟨98,z1,ad⟩) rfl rfl rfl)) v7 a7 (λe=>v7) (λe=>v7) (λe k bl aR bs p=>?_);have z:=aR;replace z:bq k v8 x.lb x.cb c L v:=z;replace p:ab w (bL [141] v8 x pb w) (rD x pb w v b d q r) [] k.z k:=p;change aF _ _ _ _ k (ao (rD x pb w v b d q r)) _ [y6 15] ⟨[(0,pt pb 0)],rD x pb w v b d q r,[],k.z⟩;refine z6 5 [y2] [26] [] [] [.ops (Ac 15) [1]] (rD x pb w v b d q r) [] k.z ?_;refine Ip (w:=w) (S':=bL [141] v8 x pb w) (Y:=Value) (λm=>.tuple #[]) (λm=>PK x pb w m b d q r) (λm D=>bq D v8 x.lb x.cb ({c with zL:=[]}) L m∧(∀o,bO 124 141 D o x.cb {c with zL:=[]})) (v7:_=some (47,[pt pb 0,i6 0,sT ⟨#[]⟩],some 27,[])) tI (λj a=>?_) (λm M aV A=>?_)
 ·have B:=(ab.A0 p a);have bk:v8<=j.z:=az a0 B.x2.size;have an:=(z.kT a p);have I:aP j v8 pb ({x with lv:=XZ x,ak:=v}) c L:=⟨_,a.at_ 0 rfl,an⟩;refine(qd ({x with lv:=XZ x,ak:=v}) c L pb v8 0 ⟨#[]⟩ a2 j I).mono λC h a3=>?_;obtain⟨a1,⟨V,Z,a5⟩,a6,W⟩:=a3;have aq:=I.T' (es:=[]);exact⟨V,a1,⟨a5,a6⟩,B.HS W (bv B.x2 rfl) Z (bQ a aq rfl)⟩
 obtain⟨ak,ac⟩:=aV;refine Aq 4 [] [] [] [] [] ⟨[],PK x pb w m b d q r,[],M.z⟩ ?_;refine bN [] (v7:_=some ([],aX [])) ?_;intro j a;exact⟨rfl,⟨_,a.at_ 0 rfl,ak.kT a A⟩,λo=>(ac o).y4 a.x2 (ag A) rfl rfl,(ab.A0 A a).x2⟩
section
variable (x:am)(pb a:Nat)(ya:Int)(f:Value)
def Bo:av:=[i6 1,i6 0,i6 x.ep]++rp 5 (i6 0)++[sT ⟨#[]⟩]
def UB:av:=((Bo x).set 0 (i6 2))
def GN:aH:=[1,1,1,1,1,0,0,1,1,1]
@[simp] def wt:ax:=[bh pb {x with nx:=.func (.func 80) #[pt pb 0] #[],lg:=false,ak:=f}]
@[simp] def o7(v0:Value)(b:aY)(c:Nat)(a:Nat):ax:=[bh pb {x with nx:=.func (.func 80) #[pt pb 0] #[],lg:=false,rd:=yt b a c,ak:=v0}]
@[simp] def PL(b:Value)(a:Nat)(c:aY)(d:Nat):ax:=[bh pb {x with nx:=.func (.func 80) #[pt pb 0] #[],lg:=false,rd:=yt c (a+1) d,ak:=b}]
theorem UC(a:World)(f:Value):Out.prune [0,1,4,14,15,19,24] (fp prog 66 a (ao (wt x pb f)) ((aj (aa (al f48) (Ac 14))).toList.take 11) ⟨[(0,pt pb 0),(1,i6 ya),(4,pt pb 44)],wt x pb f,[],a.z⟩ [.op y2,.op y2,.op y2,.op y2,.op y2,.op (oA 0 53 1),.op y2,.op y2,.op y2,.op (oA 0 52 1),.op y2])=some ⟨[],aX [(pb,53,1),(pb,52,1)],⟨[(0,pt pb 0),(1,i6 ya),(4,pt pb 44),(14,pt pb 0),(15,i6 ya),(19,i6 x.ou),(24,aE (Bo x))],wt x pb f,[],a.z⟩⟩:=v7
def VC(c:CM)(pb:Nat)(v8:Nat)(ya:Int)(w:World)(L:List ar)(n:Nat)(m:Nat)(st:St)(b:World):Prop:=
 ∃(i:Nat)(a:Nat)(d:aY)(e:Nat)(v0:Value)(z:Nat),m+i=n∧i<=n∧a=(ev x.N x.sn x.ou i).length∧bq b v8 x.lb x.cb (HX c ya (fK x.N x.sn x.ep x.ou (ev x.N x.sn x.ou i))) (L++bc ya c.last (fK x.N x.sn x.ep x.ou (ev x.N x.sn x.ou i))) v0∧ah b w.z 3 1 d a e (ai bo (ev x.N x.sn x.ou i))∧st=⟨[(0,pt pb 0),(1,i6 ya),(4,pt pb 44),(33,i6 x.N),(34,i6 (i:Int))],o7 x pb v0 d e a,[],z⟩
end
theorem vG(c:CM)(L:List ar)(pb:Nat)(v8:Nat)(n:Nat)(ya:Int)(cK:x.N=(n:Int))(b2:3<=x.N∧x.N<=6∧1<=x.S∧x.S<=8)(hs:0<=x.sn∧x.sn<x.S)(cq:0<=x.ou∧x.ou<6)(V:0<=ya∧ya<=1099511627776)(cP:0<=c.last∧c.last+8<1099511627776)(cL:L.length<=20)(w:World)(b1:aP w v8 pb x c L)(T:v8<=w.z):aC 48 #[pt pb 0,i6 ya] w (λe t=>∃a3 a6,e=Jx∧aP t v8 pb ({x with nx:=.func (.func 80) #[pt pb 0] #[],lg:=false,rd:=yt a3 (ev x.N x.sn x.ou n).length a6}) (HX c ya (fK x.N x.sn x.ep x.ou (ev x.N x.sn x.ou n))) (L++bc ya c.last (fK x.N x.sn x.ep x.ou (ev x.N x.sn x.ou n)))∧ah t v8 3 1 a3 (ev x.N x.sn x.ou n).length a6 (ai bo (ev x.N x.sn x.ou n))∧au (be [141] v8 x.lb pb x.cb w) w t):=by
 obtain⟨v,bd,b0⟩:=b1;have b6:=aw bd;refine cH (S:=(λQ=>Q=pb)) (n:=66) func48 (ab.D1 bd) ?_;have cO:3<=n∧n<=6:=by omega
 refine z6 8 (dz 3 0) [0,1,7,9] [] [] [.ops [0] [3],.code [1]] [bh pb {x with ak:=v}] [] w.z ?_;refine Ip (w:=w) (S':=bL [141] v8 x pb w) (Y:=Value) (λf=>.tuple #[]) (λf=>wt x pb f) (λf p=>bq p v8 x.lb x.cb ({c with zL:=[]}) L f) (v7:_=some (53,[pt pb 0,.func (.func 80) #[pt pb 0] #[]],some 10,[])) tI (λh b=>?_) (λf X cm bg=>?_)
 ·have d:=(b.wide (S':=bL [141] v8 x pb w) (λ_ W=>.inl W));have y:=(b0.y4 (es:=[98]) b.x2 (λQ ak=>by subst ak;exact⟨98,z1,b6⟩) rfl rfl rfl);have u:aP h v8 pb ({x with ak:=v}) c L:=⟨_,b.at_ 0 rfl,y⟩;refine(fR (.func 80) #[pt pb 0] #[] u).mono λe t M=>?_;obtain⟨K,⟨G,H,O⟩,C⟩:=M;have D:=u.T' (es:=[]);exact⟨G,K,O,d.HS C (bv d.x2 rfl) H (bQ b D rfl)⟩
 have b7:=cm;refine Aq 12 (dz 4 0) [0,1,4] [] [] [y6 14,y6 15] ⟨[(0,pt pb 0),(1,i6 ya),(4,pt pb 44)],wt x pb f,[],X.z⟩ ?_;refine eT (f:=1) (ls:=bA 12 2047) 11 _ _ v7 v7 v7 v7 (UC x pb ya X f) trivial λb4 bl=>?_;replace bl:X.z<=b4:=bl;refine em (i:=11) (ls':=bA 12 4095) (w:=w) (S':=bL [141] v8 x pb w) (Y:=Value) (λq=>.tuple #[]) (λq=>[bh pb {x with nx:=.func (.func 80) #[pt pb 0] #[],lg:=false,ak:=q}]) (λq p=>bq p v8 x.lb x.cb (d6 {c with zL:=[]} ya x.ou (eC x.sn x.ep)) (L++[⟨x.ou,c.last+1,eC x.sn x.ep,af ya,af ya⟩]) q) (λq=>[(25,.tuple #[]),(0,pt pb 0),(1,i6 ya),(4,pt pb 44),(14,pt pb 0),(15,i6 ya),(19,i6 x.ou),(24,aE (Bo x))]) v7 v7 (v7:_=some (55,[pt pb 0,i6 ya,i6 x.ou,aE (Bo x)],some 25,[])) tI (λ_=>rfl) (λh b=>?_) (λq a4 cn bk=>?_)
 ·have d:=(ab.A0 bg b);have U:v8<=h.z:=az T d.x2.size;have y:=(b7.kT b bg);have u:aP h v8 pb ({x with nx:=.func (.func 80) #[pt pb 0] #[],lg:=false,ak:=f}) ({c with zL:=[]}) L:=⟨_,b.at_ 0 rfl,y⟩;refine(gT ya x.ou (eC 0 x.ep) u ⟨z1,(by show c.last<_;omega),cq.1,yq⟩ yq U).mono λe t M=>?_;obtain⟨K,⟨G,H,O⟩,C⟩:=M;have D:=u.T' (es:=[141]);exact⟨G,K,O,d.HS C (bv d.x2 rfl) H (bQ b D rfl)⟩
 have b8:=cn;refine cd v7 ?_;have b9:bq a4 v8 x.lb x.cb (HX c ya (fK x.N x.sn x.ep x.ou (ev x.N x.sn x.ou 0))) (L++bc ya c.last (fK x.N x.sn x.ep x.ou (ev x.N x.sn x.ou 0))) q:=by
  have J:(d6 {c with zL:=[]} ya x.ou (eC x.sn x.ep):CM)=HX c ya (fK x.N x.sn x.ep x.ou (ev x.N x.sn x.ou 0)):=by rw[Aa c ya,kZ c _ _ _ V];rfl
  have I:(L++[⟨x.ou,c.last+1,eC x.sn x.ep,af ya,af ya⟩]:List ar)=L++bc ya c.last (fK x.N x.sn x.ep x.ou (ev x.N x.sn x.ou 0)):=by rw[eH V];rfl
  rw[<-J,<-I];exact b8
 refine Aq 20 (dz 10 0x100080000013c08000) [0,1,4,33,34] [] [(pb,60,1),(pb,0,1)] [y6 126,.zq 0] ⟨[(0,pt pb 0),(1,i6 ya),(4,pt pb 44),(33,i6 x.N),(34,i6 0)],[bh pb {x with nx:=.func (.func 80) #[pt pb 0] #[],lg:=false,rd:=z7,ak:=q}],[],a4.z⟩ ?_;refine bm (w:=w) (S':=bL [141] v8 x pb w) (VC x c pb v8 ya w L n) n v7 (λcC b=>⟨⟨0,0,none,0,q,_,yq,yq,rfl,b9.kT b bk,ah.nil _ _ _ _,rfl⟩,ab.A0 bk b⟩) ?_;rintro a2 _ Z ⟨i,a,j,k,g,cB,c1,c2,a1,aq,a0,rfl⟩ r F bb;have cR:=SH x.N x.sn x.ou i;have cU:=vD (N:=x.N) (sn:=x.sn) (e:=x.ep) (o:=x.ou) (R:=ev x.N x.sn x.ou i);by_cases a7:i<n
 rotate_left
 ·skip;refine Aq 10 (dz 2 0) [] [dF (((i:Int):Int)<x.N)] [] [] ⟨[],o7 x pb g j k a,[],Z.z⟩ ?_;obtain rfl:i=n:=by omega
  refine bN [] (v7:_=some ([],aX [])) ?_;intro h b;rw[<-a1];exact⟨j,k,rfl,⟨_,b.at_ 0 rfl,aq.kT b r⟩,(a0.kT b r).below T,(ab.A0 r b).x2⟩
 refine Aq 21 (dz 6 16) [0,1,4,5,33,34,37,38] [dT (((i:Int):Int)<x.N)] [] [.ops (Ac 16178) [2,3],y6 16179,.zq 1,.code GN,.inv F,.zq 0] ⟨[(0,pt pb 0),(1,i6 ya),(4,pt pb 44),(5,i6 (i:Int)),(33,i6 x.N),(34,i6 (i:Int)),(37,pt pb 0),(38,i6 (i:Int))],o7 x pb g j k a,[],Z.z⟩ ?_;refine DV (i6 (((i:Int)+x.sn)%x.N)) _ _ (some 39) [] tI rfl (λh b=>qa ({x with nx:=.func (.func 80) #[pt pb 0] #[],lg:=false,rd:=yt j a k,ak:=g}) pb (i:Int) b2 hs (show 0<=(i:Int)∧(i:Int)<x.N by omega) h (b.at_ 0 rfl)) λz c0=>?_;by_cases m:((i:Int)+x.sn)%x.N=x.ou
 ·skip;refine Aq 21 (dz 10 0x20001350800000) [0,1,4,33,34] [oE (((((i:Int)+x.sn)%x.N)!=x.ou)=false) (c8.2 m),JL ((i:Int)+1)] [(pb,53,1)] [.inv F,.zq 0] ⟨[(0,pt pb 0),(1,i6 ya),(4,pt pb 44),(33,i6 x.N),(34,i6 ((i:Int)+1))],o7 x pb g j k a,[],z⟩ ?_;have ca:bq Z v8 x.lb x.cb (HX c ya (fK x.N x.sn x.ep x.ou (ev x.N x.sn x.ou (i+1)))) (L++bc ya c.last (fK x.N x.sn x.ep x.ou (ev x.N x.sn x.ou (i+1)))) g:=by
   have J:(HX c ya (fK x.N x.sn x.ep x.ou (ev x.N x.sn x.ou i)):CM)=HX c ya (fK x.N x.sn x.ep x.ou (ev x.N x.sn x.ou (i+1))):=by rw[Bi m]
   have I:(L++bc ya c.last (fK x.N x.sn x.ep x.ou (ev x.N x.sn x.ou i)):List ar)=L++bc ya c.last (fK x.N x.sn x.ep x.ou (ev x.N x.sn x.ou (i+1))):=by rw[Bi m]
   rw[<-J,<-I];exact aq
  rw[<-aW i];intro ac an ad b;exact bb (a2-1) _ ac an yq ⟨i+1,a,j,k,g,_,yq,yq,by rw[Bi m];exact a1,ca.kT b r,by rw[Bi m];exact(a0.kT b r),rfl⟩ ad (ab.A0 r b)
 refine Aq 24 (dz 15 0x13c0800001001350800000) [0,1,4,6,33,34,46,50,52] [oE (((((i:Int)+x.sn)%x.N)!=x.ou)=true) (bne_iff_ne.2 m)] [(pb,53,1),(pb,60,1)] [.ops (Ac 129436) [7,8,9,10],y6 129437,.zq 1,.code GN,.inv F,.zq 0] ⟨[(0,pt pb 0),(1,i6 ya),(4,pt pb 44),(6,i6 (((i:Int)+x.sn)%x.N)),(33,i6 x.N),(34,i6 (i:Int)),(46,pt pb 44),(50,yt j a k),(52,yt (ae z) 1 1)],[bh pb {x with nx:=.func (.func 80) #[pt pb 0] #[],lg:=false,rd:=yt j a k,ak:=g},⟨z,3,true,[i6 (i:Int)]⟩],[],z+1⟩ ?_;refine dE (w:=w) (S':=bL [141] v8 x pb w) (Y:=aO) (dst:=some 53) (x:=Builtin.append_ #[25,25] 25 #[yt j a k,yt (ae z) 1 1]) (λl=>yt l.1 (a+1) l.2) (o7 x pb g j k a) (λl p=>bq p v8 x.lb x.cb (HX c ya (fK x.N x.sn x.ep x.ou (ev x.N x.sn x.ou i))) (L++bc ya c.last (fK x.N x.sn x.ep x.ou (ev x.N x.sn x.ou i))) g∧ah p w.z 3 1 l.1 (a+1) l.2 (ai bo (ev x.N x.sn x.ou (i+1)))) (λl=>[(53,yt l.1 (a+1) l.2),(0,pt pb 0),(1,i6 ya),(4,pt pb 44),(6,i6 (((i:Int)+x.sn)%x.N)),(33,i6 x.N),(34,i6 (i:Int)),(46,pt pb 44),(50,yt j a k),(52,yt (ae z) 1 1)]) v7 v7 (λ_=>rfl) (λh b=>?_) (λl bt co aR=>?_)
 ·have d:=(ab.A0 r b);have y:=(aq.kT b r);have E:=(a0.kT b r);obtain⟨bs,b5,t,a7,a8,a9,_⟩:=ce (P:=prog) h w.z 25 25 3 (i6 0) 1 8 _ _ _ _ ⟨z,0,none⟩ 1 1 [i6 (i:Int)] v7 v7 v7 (by decide) E rfl (λcA x b3=>by rw[bY,bG];exact(b.at_ 1 rfl).at_ b3) (aU rfl) yq (by decide) d.x2.size;rw[show([i6 (i:Int)]:av)=bo (i:Int)from rfl,eU,<-Bh m]at a8;exact⟨(bs,b5),t,a7,⟨y.y4 a9 (bW E) rfl rfl rfl,a8⟩,(d.sub (Ex:=o7 x pb g j k a) z1).A3 (λ_ W=>W) a9 (λQ ak=>.inr (E.own Q ak).1) (bI (b.sub (Ex:=o7 x pb g j k a) z1) (bW E) rfl)⟩
 obtain⟨A,B⟩:=l;obtain⟨cb,cr⟩:=co;refine z6 16 (dz 11 0x13408000000013c0800) [0,1,4,33,34,56,57,58,63] [] [(pb,60,1),(pb,52,1)] [.ops (Ac 129437) [8],.zq 1,.code GN,.inv F,.zq 0] [bh pb {x with nx:=.func (.func 80) #[pt pb 0] #[],lg:=false,rd:=yt A (a+1) B,ak:=g}] [] bt.z ?_;refine Ip (w:=w) (S':=bL [141] v8 x pb w) (Y:=Value) (λs=>.tuple #[]) (λs=>PL x pb s a A B) (λs p=>bq p v8 x.lb x.cb (d6 (HX c ya (fK x.N x.sn x.ep x.ou (ev x.N x.sn x.ou i))) ya (((i:Int)+x.sn)%x.N) (dV 2 x.sn x.ep)) ((L++bc ya c.last (fK x.N x.sn x.ep x.ou (ev x.N x.sn x.ou i)))++[⟨((i:Int)+x.sn)%x.N,(HX c ya (fK x.N x.sn x.ep x.ou (ev x.N x.sn x.ou i))).last+1,dV 2 x.sn x.ep,af ya,af ya⟩]) s∧ah p w.z 3 1 A (a+1) B (ai bo (ev x.N x.sn x.ou (i+1)))) (v7:_=some (55,[pt pb 0,i6 ya,i6 (((i:Int)+x.sn)%x.N),aE (UB x)],some 64,[])) tI (λh b=>?_) (λs a5 cp aV=>?_)
 ·have d:=(ab.A0 aR b);have U:v8<=h.z:=az T d.x2.size;have y:=(cb.kT b aR);have E:=(cr.kT b aR);have u:aP h v8 pb ({x with nx:=.func (.func 80) #[pt pb 0] #[],lg:=false,rd:=yt A (a+1) B,ak:=g}) (HX c ya (fK x.N x.sn x.ep x.ou (ev x.N x.sn x.ou i))) (L++bc ya c.last (fK x.N x.sn x.ep x.ou (ev x.N x.sn x.ou i))):=⟨_,b.at_ 0 rfl,y⟩;refine(gT ya (((i:Int)+x.sn)%x.N) (dV 2 0 x.ep) u ⟨by simp only[HX,dL];omega,by simp only[HX];omega,eY _ yq,Int.lt_trans (gy _ yq) yq⟩ (by simp only[bM,dL];omega) U).mono λe t M=>?_;obtain⟨K,⟨G,H,O⟩,C⟩:=M;have D:=u.T' (es:=[141]);exact⟨G,K,⟨O,E.y4 C D rfl⟩,d.HS C (bv d.x2 rfl) H (bQ b D rfl)⟩
 obtain⟨cf,cs⟩:=cp;have cl:bq a5 v8 x.lb x.cb (HX c ya (fK x.N x.sn x.ep x.ou (ev x.N x.sn x.ou (i+1)))) (L++bc ya c.last (fK x.N x.sn x.ep x.ou (ev x.N x.sn x.ou (i+1)))) s:=by
  have J:(d6 (HX c ya (fK x.N x.sn x.ep x.ou (ev x.N x.sn x.ou i))) ya (((i:Int)+x.sn)%x.N) (dV 2 x.sn x.ep):CM)=HX c ya (fK x.N x.sn x.ep x.ou (ev x.N x.sn x.ou (i+1))):=by rw[kZ c _ _ _ V,Bh m,yb]
  have I:((L++bc ya c.last (fK x.N x.sn x.ep x.ou (ev x.N x.sn x.ou i)))++[⟨((i:Int)+x.sn)%x.N,(HX c ya (fK x.N x.sn x.ep x.ou (ev x.N x.sn x.ou i))).last+1,dV 2 x.sn x.ep,af ya,af ya⟩]:List ar)=L++bc ya c.last (fK x.N x.sn x.ep x.ou (ev x.N x.sn x.ou (i+1))):=by rw[k7 c _ _ _ L V,Bh m,yb]
  rw[<-J,<-I];exact cf
 refine Aq 9 (dz 2 2) [0,1,4,33,34] [JL ((i:Int)+1)] [] [.inv F,.zq 0] ⟨[(0,pt pb 0),(1,i6 ya),(4,pt pb 44),(33,i6 x.N),(34,i6 ((i:Int)+1))],PL x pb s a A B,[],a5.z⟩ ?_;rw[<-aW i];intro ac an ad b;exact bb (a2-1) _ ac an yq ⟨i+1,a+1,A,B,s,_,yq,yq,by rw[Bh m,bM,<-a1];rfl,cl.kT b aV,cs.kT b aV,rfl⟩ ad (ab.A0 aV b)
def XE(sn e:Int):ck:=⟨10,sn,e,0,0,0,0,0,⟨#[]⟩⟩
def F6(sn e s:Int)(b:ByteArray):ck:=⟨7,sn,e,s,0,0,0,0,b⟩
def Uy(x:am):av:=[i6 10,i6 0,i6 x.ep]++rp 5 (i6 0)++[sT ⟨#[]⟩]
@[simp] def Pw(x:am)(a:Nat)(v1:Value):ax:=[bh a {x with nx:=.func (.func 149) #[pt a 0] #[],lg:=false,ak:=v1}]
@[simp] def Px(x:am)(a:Nat)(v2:Value):ax:=[bh a {x with nx:=.func (.func 149) #[pt a 0] #[],lg:=false,ak:=v2}]
variable (x:am)(c:CM)(L:List ar)(pb v8:Nat)(ya:Int)
theorem Bd(O:c.last<1099511627776)(E:L.length<=50)(w:World)(G:aP w v8 pb x c L)(y:v8<=w.z):aC 139 #[pt pb 0,i6 ya] w (λk h=>k=Jx∧aP h v8 pb ({x with nx:=.func (.func 149) #[pt pb 0] #[],lg:=false}) (d6 {c with zL:=[]} ya 100 (XE x.sn x.ep)) (L++[⟨100,c.last+1,XE x.sn x.ep,af ya,af ya⟩])∧au (be [141] v8 x.lb pb x.cb w) w h):=by
 obtain⟨t,v,F⟩:=G;have I:=aw v;refine cH (S:=(λu=>u=pb)) (n:=17) func139 (ab.D1 v) ?_;refine z6 8 (dz 3 0) [0,1,4,6] [] [] [.ops [0] [3],.code [1]] [bh pb {x with ak:=t}] [] w.z ?_;refine Ip (w:=w) (S':=bL [141] v8 x pb w) (Y:=Value) (λb=>.tuple #[]) (λb=>Pw x pb b) (λb i=>bq i v8 x.lb x.cb ({c with zL:=[]}) L b) (v7:_=some (53,[pt pb 0,.func (.func 149) #[pt pb 0] #[]],some 7,[])) tI (λf a=>?_) (λb C M A=>?_)
 ·have d:=(a.wide (S':=bL [141] v8 x pb w) (λ_ P=>.inl P));have o:=(F.y4 (es:=[98]) a.x2 (λu H=>by subst H;exact⟨98,z1,I⟩) rfl rfl rfl);have g:aP f v8 pb ({x with ak:=t}) c L:=⟨_,a.at_ 0 rfl,o⟩;refine(fR (.func 149) #[pt pb 0] #[] g).mono λk h r=>?_;obtain⟨q,⟨j,m,s⟩,l⟩:=r;have p:=g.T' (es:=[]);exact⟨j,q,s,d.HS l (bv d.x2 rfl) m (bQ a p rfl)⟩
 have J:=M;refine z6 13 (dz 8 0x13408000000) [8,9,15] [] [(pb,52,1)] [.ops [1] [8]] (Pw x pb b) [] C.z ?_;refine Ip (w:=w) (S':=bL [141] v8 x pb w) (Y:=Value) (λe=>.tuple #[]) (λe=>Px x pb e) (λe i=>bq i v8 x.lb x.cb (d6 {c with zL:=[]} ya 100 (XE x.sn x.ep)) (L++[⟨100,c.last+1,XE x.sn x.ep,af ya,af ya⟩]) e) (v7:_=some (55,[pt pb 0,i6 ya,i6 100,aE (Uy x)],some 16,[])) tI (λf a=>?_) (λe D N B=>?_)
 ·have d:=(ab.A0 A a);have z:v8<=f.z:=az y d.x2.size;have o:=(J.kT a A);have g:aP f v8 pb ({x with nx:=.func (.func 149) #[pt pb 0] #[],lg:=false,ak:=b}) ({c with zL:=[]}) L:=⟨_,a.at_ 0 rfl,o⟩;refine(gT ya 100 (XE 0 x.ep) g ⟨z1,O,by decide,by decide⟩ E z).mono λk h r=>?_;obtain⟨q,⟨j,m,s⟩,l⟩:=r;have p:=g.T' (es:=[141]);exact⟨j,q,s,d.HS l (bv d.x2 rfl) m (bQ a p rfl)⟩
 have K:=N;refine Aq 4 [] [] [] [] [] ⟨[],Px x pb e,[],D.z⟩ ?_;refine bN [] (v7:_=some ([],aX [])) ?_;intro f a;exact⟨rfl,⟨_,a.at_ 0 rfl,K.kT a B⟩,(ab.A0 B a).x2⟩
section
variable (x:am)(pb:Nat)(w:World)(f h:Int)(q:ck)(r:aZ)
def GC:av:=(q.cells)
def GD:av:=([i6 1,i6 f,i6 h]++r.cells)
@[simp] def Py(v:Value)(f:Int)(h:Int)(q:ck)(r:aZ):ax:=[bh pb {x with ak:=v},⟨w.z,59,true,GC q⟩,⟨w.z+1,63,true,GD f h r⟩]
@[simp] def Pz(b:Value)(f:Int)(h:Int)(q:ck)(r:aZ):ax:=[bh pb {x with nx:=.func (.func 149) #[pt pb 0] #[],lg:=false,ak:=b},⟨w.z,59,true,GC q⟩,⟨w.z+1,63,true,GD f h r⟩]
end
theorem F8(k f h:Int)(q:ck)(r:aZ)(M:c.last<1099511627776)(u:L.length<=50)(w:World)(y:aP w v8 pb x c L)(J:v8<=w.z):aC 120 #[pt pb 0,i6 ya,i6 k,.agg #[i6 q.kind,i6 q.Al,i6 q.BV,i6 q.seq,i6 q.mask,i6 q.node,i6 q.oe,i6 q.os,sT q.block],.agg #[i6 1,i6 f,i6 h,bO_ r.used,i6 r.Bf,i6 r.de,i6 r.ds,sT r.block,bO_ r.op,i6 r.ie,i6 r.is,i6 r.mask,sT r.A9]] w (λm g=>m=Jx∧aP g v8 pb ({x with nx:=.func (.func 149) #[pt pb 0] #[],lg:=false}) (d6 {c with zL:=[]} ya 100 (XE x.sn x.ep)) (L++[⟨100,c.last+1,XE x.sn x.ep,af ya,af ya⟩])∧au (be [141] v8 x.lb pb x.cb w) w g):=by
 obtain⟨e,l,v⟩:=y;have E:=aw l;refine cH (S:=(λj=>j=pb)) (n:=19) func120 (ab.D1 l) ?_;refine z6 14 (dz 6 0xd002800000) [0,1,10,11,12,13] [] [(w.z+1,0,13)] [.ops [1,0] [4,5],.code [1,1]] (Py x pb w e f h q r) [] (w.z+2) ?_;refine DV (bO_ false) _ _ (some 14) [] tI rfl (λd a=>lO pb ya k f h r d) λB R=>?_;refine z6 9 (dz 4 16) [16,17] [tT] [] [.ops (Ac 14) [2]] (Py x pb w e f h q r) [] B ?_;refine Ip (w:=w) (S':=bL [141] v8 x pb w) (Y:=Value) (λb=>.tuple #[]) (λb=>Pz x pb w b f h q r) (λb t=>bq t v8 x.lb x.cb (d6 {c with zL:=[]} ya 100 (XE x.sn x.ep)) (L++[⟨100,c.last+1,XE x.sn x.ep,af ya,af ya⟩]) b) (v7:_=some (139,[pt pb 0,i6 ya],some 18,[])) tI (λd a=>?_) (λb s I p=>?_)
 ·have i:=(a.wide (S':=bL [141] v8 x pb w) (λ_ P=>.inl P));have K:v8<=d.z:=az J i.x2.size;have G:=(v.y4 (es:=[98]) a.x2 (λj z=>by subst z;exact⟨98,z1,E⟩) rfl rfl rfl);have o:aP d v8 pb ({x with ak:=e}) c L:=⟨_,a.at_ 0 rfl,G⟩;refine(Bd ({x with ak:=e}) c L pb v8 ya M u d o K).mono λm g O=>?_;obtain⟨N,⟨A,D,Q⟩,C⟩:=O;have H:=o.T' (es:=[141]);exact⟨A,N,Q,i.HS C (bv i.x2 rfl) D (bQ a H rfl)⟩
 have F:=I;refine Aq 4 [] [] [] [] [] ⟨[],Pz x pb w b f h q r,[],s.z⟩ ?_;refine bN [] (v7:_=some ([],aX [])) ?_;intro d a;exact⟨rfl,⟨_,a.at_ 0 rfl,F.kT a p⟩,(ab.A0 p a).x2⟩
section
variable (x:am)(pb:Nat)(b:Value)(d:aY)(e:Nat)(a:bB)(sq:Int)(k:ByteArray)
def GE:av:=[i6 7,i6 0,i6 x.ep,i6 sq,i6 0,i6 0,i6 0,i6 0,sT k]
@[simp] def na:ax:=[bh pb {x with nx:=.func (.func 120) #[pt pb 0] #[],lg:=false,rd:=yt d a.length e,ak:=b}]
@[simp] def PB(v3:Value)(d:aY)(e:Nat)(a:bB):ax:=[bh pb {x with nx:=.func (.func 120) #[pt pb 0] #[],lg:=false,rd:=yt d a.length e,ak:=v3}]
theorem Uz(ya:Int)(f:World)(b:Value)(d:aY)(e:Nat)(a:bB)(sq:Int)(k:ByteArray)(c:Nat):Out.prune [18,19,24,32] (fp prog 34 f (ao (na x pb b d e a)) ((aj (aa (al f106) [1,1])).toList.take 15) ⟨[(0,pt pb 0),(1,i6 ya),(2,i6 sq),(6,sT k)],na x pb b d e a,[],c⟩ [.op y2,.op y2,.op y2,.op y2,.op y2,.op y2,.op (oA 0 53 1),.op y2,.op y2,.op y2,.op y2,.op (oA 0 52 1),.op y2,.op y2,.op y2])=some ⟨[],aX [(pb,53,1),(pb,52,1)],⟨[(18,pt pb 0),(19,i6 ya),(24,i6 x.ou),(32,aE (GE x sq k))],na x pb b d e a,[],c⟩⟩:=v7
end
theorem xm(a:bB)(d:aY)(e:Nat)(sq:Int)(k:ByteArray)(ya:Int)(bt:a.length<=6)(a9:∀P∈a,0<=P∧P<6)(b1:∀h R V aq,ah h aq 9 1 R a.length V (ba (a.map λG:Int=>x.bl (Int.toNat G)))->aC 121 #[yt R a.length V] h (bf (.tuple #[sT k,i6 0]) h))(bl:0<=x.ou∧x.ou<6)(bk:c.last<1099511627776)(a1:L.length<=50)(w:World)(a3:aP w v8 pb ({x with rd:=(yt d a.length e)}) c L)(b0:ah w v8 3 1 d a.length e (ai bo a))(N:v8<=w.z):aC 106 #[pt pb 0,i6 ya,i6 sq] w (λB v=>B=Jx∧aP v v8 pb ({x with nx:=.func (.func 120) #[pt pb 0] #[],lg:=false,rd:=yt d a.length e}) (d6 {c with zL:=[]} ya x.ou (F6 x.sn x.ep sq k)) (L++[⟨x.ou,c.last+1,F6 x.sn x.ep sq k,af ya,af ya⟩])∧au (be [141] v8 x.lb pb x.cb w) w v):=by
 obtain⟨T,W,a2⟩:=a3;have X:=aw W;refine cH (S:=(λE=>E=pb)) (n:=34) func106 (ab.D1 W) ?_;refine z6 8 (dz 3 0) [0,1,2,8,10] [] [] [.ops [0] [3],.code [1]] [bh pb {x with rd:=yt d a.length e,ak:=T}] [] w.z ?_;refine Ip (w:=w) (S':=bL [141] v8 x pb w) (Y:=Value) (λb=>.tuple #[]) (λb=>na x pb b d e a) (λb o=>bq o v8 x.lb x.cb ({c with zL:=[]}) L b∧ah o v8 3 1 d a.length e (ai bo a)) (v7:_=some (53,[pt pb 0,.func (.func 120) #[pt pb 0] #[]],some 11,[])) tI (λh g=>?_) (λb ak bb O=>?_)
 ·have m:=(g.wide (S':=bL [141] v8 x pb w) (λ_ l=>.inl l));have s:=(a2.y4 (es:=[98]) g.x2 (λE F=>by subst F;exact⟨98,z1,X⟩) rfl rfl rfl);have u:=(b0.y4 (es:=[98]) g.x2 (λE F=>by subst F;exact⟨98,z1,X⟩) rfl);have t:aP h v8 pb ({x with rd:=yt d a.length e,ak:=T}) c L:=⟨_,g.at_ 0 rfl,s⟩;refine(fR (.func 120) #[pt pb 0] #[] t).mono λB v A=>?_;obtain⟨z,⟨H,M,Q⟩,p⟩:=A;have y:=t.T' (es:=[]);exact⟨H,z,⟨Q,u.y4 p y rfl⟩,m.HS p (bv m.x2 rfl) M (bQ g y rfl)⟩
 obtain⟨a6,b2⟩:=bb;refine z6 7 [y2] [0,1,2,13] [] [] [.ops [1,0] [1,2,3,4,5,6,7],.code [1,1]] (na x pb b d e a) [] ak.z ?_;refine Ip (w:=w) (S':=bL [141] v8 x pb w) (Y:=aO) (λq=>yt q.1 a.length q.2) (λq=>na x pb b d e a) (λq o=>bq o v8 x.lb x.cb ({c with zL:=[]}) L b∧ah o v8 3 1 d a.length e (ai bo a)∧ah o v8 9 1 q.1 a.length q.2 (ba (a.map λG:Int=>x.bl (Int.toNat G)))) (v7:_=some (87,[pt pb 0],some 14,[])) tI (λh g=>?_) (λq U bd D=>?_)
 ·have m:=(ab.A0 O g);have C:v8<=h.z:=az N m.x2.size;have s:=(a6.kT g O);have u:=(b2.kT g O);refine(rl ({x with nx:=.func (.func 120) #[pt pb 0] #[],lg:=false,rd:=yt d a.length e,ak:=b}) pb a d e bt a9 h (g.at_ 0 rfl) (λbs P a4=>by obtain⟨ad,aR,_,aV,a0⟩:=u.cell (j:=bs*1+0) (ff (f:=bo) (λ_=>rfl) a4 (by decide));exact⟨ad,aR,aV,by rw[bG];exact a0⟩)).mono λB v A=>?_;obtain⟨J,K,z,b5,p⟩:=A;exact⟨(J,K),z,⟨(s.y4 (es:=[]) p (λ_ l=>l.elim) rfl rfl rfl),(u.x2 p (λ_ _ l=>l)),b5.below C⟩,m.A3 (λ_ l=>l) p (λ_ l=>l.elim) (λ_ _ l=>l)⟩
 obtain⟨J,K⟩:=q;obtain⟨a7,b3,b4⟩:=bd;refine z6 3 [] [0,1,2,14] [] [] [.ops [1,0] [2,3,4,5,6,7],.code [1,1]] (na x pb b d e a) [] U.z ?_;refine DV (.tuple #[sT k,i6 0]) 121 [yt J a.length K] (some 15) [] tI rfl (λh g=>b1 h _ _ _ (b4.kT g D)) λI b6=>?_;refine Aq 9 (dz 5 0) [0,1,2,6] [] [] [.code [1,1]] ⟨[(0,pt pb 0),(1,i6 ya),(2,i6 sq),(6,sT k)],na x pb b d e a,[],I⟩ ?_;refine eT (f:=1) (ls:=bA 16 32767) 15 _ _ v7 v7 v7 v7 (Uz x pb ya U b d e a sq k I) trivial λa5 ac=>?_;replace ac:I<=a5:=ac;refine em (i:=15) (ls':=bA 16 65535) (w:=w) (S':=bL [141] v8 x pb w) (Y:=Value) (λr=>.tuple #[]) (λr=>PB x pb r d e a) (λr o=>bq o v8 x.lb x.cb (d6 {c with zL:=[]} ya x.ou (F6 x.sn x.ep sq k)) (L++[⟨x.ou,c.last+1,F6 x.sn x.ep sq k,af ya,af ya⟩]) r∧ah o v8 3 1 d a.length e (ai bo a)) (λr=>[(33,.tuple #[]),(18,pt pb 0),(19,i6 ya),(24,i6 x.ou),(32,aE (GE x sq k))]) v7 v7 (v7:_=some (55,[pt pb 0,i6 ya,i6 x.ou,aE (GE x sq k)],some 33,[])) tI (λ_=>rfl) (λh g=>?_) (λr an bg Z=>?_)
 ·have m:=(ab.A0 D g);have C:v8<=h.z:=az N m.x2.size;have s:=(a7.kT g D);have u:=(b3.kT g D);have t:aP h v8 pb ({x with nx:=.func (.func 120) #[pt pb 0] #[],lg:=false,rd:=yt d a.length e,ak:=b}) ({c with zL:=[]}) L:=⟨_,g.at_ 0 rfl,s⟩;refine(gT ya x.ou (F6 0 x.ep sq k) t ⟨z1,bk,bl.1,yq⟩ a1 C).mono λB v A=>?_;obtain⟨z,⟨H,M,Q⟩,p⟩:=A;have y:=t.T' (es:=[141]);exact⟨H,z,⟨Q,u.y4 p y rfl⟩,m.HS p (bv m.x2 rfl) M (bQ g y rfl)⟩
 obtain⟨a8,b7⟩:=bg;refine cd v7 ?_;refine Aq 3 [] [] [] [] [] ⟨[],PB x pb r d e a,[],an.z⟩ ?_;refine bN [] (v7:_=some ([],aX [])) ?_;intro h g;exact⟨rfl,⟨_,g.at_ 0 rfl,a8.kT g Z⟩,(ab.A0 Z g).x2⟩
section
variable (x:am)(pb:Nat)(ya:Int)(w:World)(b:Value)(d:aY)(e:Nat)(a:bB)(f h:Int)(q:ck)(r:aZ)(i:Nat->ByteArray)(j:Int)
def nU:av:=(GC q)
def nV:av:=((GD f h r).set 0 (i6 j))
@[simp] def iX:ax:=[bh pb {x with bl:=i,rd:=yt d a.length e,ak:=b},⟨w.z,59,true,nU q⟩,⟨w.z+1,63,true,nV f h r j⟩]
@[simp] def Bg:ax:=[bh pb {x with lv:=Wa x,bl:=i,rd:=yt d a.length e,ak:=b},⟨w.z,59,true,nU q⟩,⟨w.z+1,63,true,nV f h r j⟩]
def PC:bu:=[(0,pt pb 0),(1,i6 ya)]
def Ec:List (Option Value):=[some (pt pb 0),some (pt pb 0),some (pt pb 0),some (pt pb 44),some (pt pb 47),some (i6 x.sn),some (pt pb 0),some (pt pb 3),some (pt pb (3+(Int.toNat x.sn)*5)),some (pt pb (3+(Int.toNat x.sn)*5))]
def Ed:List (ax):=[iX x pb w b d e a f h q r i j]
def Ee:List (bi):=[none,none,none,none,none,none,none,none,none,none]
def PD(v8:Nat)(ya:Int)(w:World)(c:World)(b:Value)(d:aY)(e:Nat)(a:bB)(f:Int)(h:Int)(q:ck)(r:aZ)(E:aI)(i:Nat->ByteArray)(j:Int)(g:Nat):Prop:=eQ (wpOp prog (aj (aa (al f80) (Ac 14))) (sem prog (al f80) (bodyPost prog f80 (λl k=>l=Jx∧E k∧au (be [141] v8 x.lb pb x.cb w) w k)) [y6 15])) [] 49 (aj (aa (al f80) (Ac 14))) (J3 (aj (aa (al f80) (Ac 14))) (PC pb ya) g) (Ee) 0 (MG c (ao (iX x pb w b d e a f h q r i j)) (Ed x pb w b d e a f h q r i j) [] c.z) (ao (iX x pb w b d e a f h q r i j)) (PvG (Ec x pb) (λ_ _ _=>False)) g
end
theorem DP(E:aI)(ak:∀w l,E w->au z8 w l->E l)(i:Nat->ByteArray)(a:bB)(d:aY)(e:Nat)(ya u j f h:Int)(q:ck)(r:aZ)(bs:3<=x.N∧x.N<=6∧1<=x.S∧x.S<=8)(hs:0<=x.sn∧x.sn<x.S)(b1:0<=(x.lv (Int.toNat x.sn)).sq∧(x.lv (Int.toNat x.sn)).sq<16777215)(a9:∀g,aP g v8 pb ({x with rd:=(yt d a.length e)}) c L->aC 105 #[pt pb 0,i6 ya,i6 u,.agg #[i6 q.kind,i6 q.Al,i6 q.BV,i6 q.seq,i6 q.mask,i6 q.node,i6 q.oe,i6 q.os,sT q.block],.agg #[i6 j,i6 f,i6 h,bO_ r.used,i6 r.Bf,i6 r.de,i6 r.ds,sT r.block,bO_ r.op,i6 r.ie,i6 r.is,i6 r.mask,sT r.A9]] g (λm l=>m=.returned (bO_ ((c.zL.length:Int)==0))∧aP l v8 pb ({x with bl:=i,rd:=(yt d a.length e)}) c L∧au (be [] v8 x.lb pb x.cb g) g l))(bk:c.zL.length≠0->∀g,aP g v8 pb ({x with bl:=i,rd:=(yt d a.length e)}) c L->ah g v8 3 1 d a.length e (ai bo a)->E g)(bg:c.zL.length=0->∀g,aP g v8 pb ({x with lv:=Wa x,bl:=i,rd:=(yt d a.length e)}) c L->ah g v8 3 1 d a.length e (ai bo a)->v8<=g.z->aC 106 #[pt pb 0,i6 ya,i6 (O0 x)] g (λm l=>m=Jx∧E l∧au (be [141] v8 x.lb pb x.cb g) g l))(w:World)(aq:aP w v8 pb ({x with rd:=(yt d a.length e)}) c L)(bd:ah w v8 3 1 d a.length e (ai bo a))(a5:v8<=w.z):aC 80 #[pt pb 0,i6 ya,i6 u,.agg #[i6 q.kind,i6 q.Al,i6 q.BV,i6 q.seq,i6 q.mask,i6 q.node,i6 q.oe,i6 q.os,sT q.block],.agg #[i6 j,i6 f,i6 h,bO_ r.used,i6 r.Bf,i6 r.de,i6 r.ds,sT r.block,bO_ r.op,i6 r.ie,i6 r.is,i6 r.mask,sT r.A9]] w (λm l=>m=Jx∧E l∧au (be [141] v8 x.lb pb x.cb w) w l):=by
 obtain⟨v,O,an⟩:=aq;have Q:=aw O;refine cH (S:=(λD=>D=pb)) (n:=49) func80 (ab.D1 O) ?_;refine Aq 16 (dz 7 0xd002809001800000) [0,1,11,12,13,14,15] [] [(w.z,0,9),(w.z+1,0,13)] [.ops (Ac 12) [5,6],y6 13,.code [1,1]] ⟨[(0,pt pb 0),(1,i6 ya),(11,pt pb 0),(12,i6 ya),(13,i6 u),(14,aE (nU q)),(15,aE (nV f h r j))],[bh pb {x with rd:=yt d a.length e,ak:=v},⟨w.z,59,true,nU q⟩,⟨w.z+1,63,true,nV f h r j⟩],[],w.z+2⟩ ?_;refine fh (w:=w) (S':=bL [141] v8 x pb w) (Y:=Value) (λb=>bO_ ((c.zL.length:Int)==0)) (λb=>iX x pb w b d e a f h q r i j) (λb A=>bq A v8 x.lb x.cb c L b∧ah A v8 3 1 d a.length e (ai bo a)) (λb=>[(16,bO_ ((c.zL.length:Int)==0)),(0,pt pb 0),(1,i6 ya),(11,pt pb 0),(12,i6 ya),(13,i6 u),(14,aE (nU q)),(15,aE (nV f h r j))]) (v7:_=some (105,[pt pb 0,i6 ya,i6 u,aE (nU q),aE (nV f h r j)],some 16,[])) tI (λ_=>rfl) (λg k=>?_) (λb z a4 p=>?_)
 ·have s:=(k.wide (S':=bL [141] v8 x pb w) (λ_ o=>.inl o));have H:=(an.y4 (es:=[98]) k.x2 (λD G=>by subst G;exact⟨98,z1,Q⟩) rfl rfl rfl);have N:=(bd.y4 (es:=[98]) k.x2 (λD G=>by subst G;exact⟨98,z1,Q⟩) rfl);have C:aP g v8 pb ({x with rd:=yt d a.length e,ak:=v}) c L:=⟨_,k.at_ 0 rfl,H⟩;have T:=C.T' (es:=[]);refine(a9 g C).mono λm l K=>?_;obtain⟨I,⟨aR,a1,bb⟩,B⟩:=K;exact⟨aR,I,⟨bb,N.y4 B T rfl⟩,s.HS B (bv s.x2 rfl) a1 (bQ k T rfl)⟩
 obtain⟨R,X⟩:=a4;by_cases U:c.zL.length=0
 rotate_left
 ·skip;refine z6 6 [y2,FN] [0,1] [oE ((!((c.zL.length:Int)==0))=true) (by rw[show((c.zL.length:Int)==0)=false from by rw[cw];omega];rfl)] [] [y6 26,.code [1,1]] (iX x pb w b d e a f h q r i j) [] z.z ?_;refine B1 [] [] [] ?_;intro g k;exact⟨rfl,bk U _ ⟨_,k.at_ 0 rfl,R.kT k p⟩ (X.kT k p),(ab.A0 p k).x2⟩
 refine Aq 8 (dz 2 0) [0,1] [oE ((!((c.zL.length:Int)==0))=false) (by rw[show((c.zL.length:Int)==0)=true from by rw[dC];omega];rfl)] [] [y6 14,y6 15] ⟨[(0,pt pb 0),(1,i6 ya)],iX x pb w b d e a f h q r i j,[],z.z⟩ ?_;have bl:∀ac∈(WU [0,1,2,3,4,6,7,9]++[rG 5 0 47 1 pb,⟨8,HA,[oE ((0:Int)<=x.sn∧x.sn<((8:Nat):Int))],[]⟩]:List jU),PD x pb v8 ya w z b d e a f h q r E i j ac.i:=dP v7 _ (λbt=>v7);refine dO (vs:=Ec x pb) (ms:=Ed x pb w b d e a f h q r i j) (Dt:=Ee) (J:=0) (V9:=[(0,pt pb 0),(1,i6 ya),(10,pt pb (3+(Int.toNat x.sn)*5))]) (Ex:=iX x pb w b d e a f h q r i j) (λ_ _ _=>False) [0,1,10] v7 v7 v7 (λ_ _ _ _ o=>o.elim) (dW bl [] tI v7) v7 v7 v7 (λy V=>?_);replace V:z.z<=y:=V;refine Aq 9 (dz 3 0) [0,1,10,29] [] [] [.ops (Ac 60) [3,4],y6 61,y6 31] ⟨[(0,pt pb 0),(1,i6 ya),(10,pt pb (3+(Int.toNat x.sn)*5)),(29,pt pb (3+(Int.toNat x.sn)*5+3))],iX x pb w b d e a f h q r i j,[],y⟩ ?_;refine fy (dst:=some 30) (x:=Instr.loadAt 3 (pt pb (3+(Int.toNat x.sn)*5+3))) (i6 ((x.lv (Int.toNat x.sn)).sq)) v7 v7 rfl (λg k=>?_) ?_
 ·exact ik g 3 .i64 pb (3+(Int.toNat x.sn)*5+3) 98 _ _ v7 (k.at_ 0 rfl) (iP ({x with bl:=i,rd:=yt d a.length e,ak:=b}) (i:=Int.toNat x.sn) yq (j:=3) rfl)
 refine Aq 12 (dz 5 0) [0,1,10,35,37] [dF ((((x.lv (Int.toNat x.sn)).sq):Int)>=16777215)] [] [.ops (Ac 62) [3,4,5,6,7],y6 63] ⟨[(0,pt pb 0),(1,i6 ya),(10,pt pb (3+(Int.toNat x.sn)*5)),(35,pt pb (3+(Int.toNat x.sn)*5)),(37,pt pb (3+(Int.toNat x.sn)*5+3))],iX x pb w b d e a f h q r i j,[],y⟩ ?_;refine fy (dst:=some 38) (x:=Instr.loadAt 3 (pt pb (3+(Int.toNat x.sn)*5+3))) (i6 ((x.lv (Int.toNat x.sn)).sq)) v7 v7 rfl (λg k=>?_) ?_
 ·exact ik g 3 .i64 pb (3+(Int.toNat x.sn)*5+3) 98 _ _ v7 (k.at_ 0 rfl) (iP ({x with bl:=i,rd:=yt d a.length e,ak:=b}) (i:=Int.toNat x.sn) yq (j:=3) rfl)
 refine Aq 6 (dz 3 2) [0,1,10,39,41] [JL (((x.lv (Int.toNat x.sn)).sq)+1)] [] [.ops (Ac 62) [7],y6 63] ⟨[(0,pt pb 0),(1,i6 ya),(10,pt pb (3+(Int.toNat x.sn)*5)),(39,i6 (((x.lv (Int.toNat x.sn)).sq)+1)),(41,pt pb (3+(Int.toNat x.sn)*5+3))],iX x pb w b d e a f h q r i j,[],y⟩ ?_;refine xR (x:=Instr.storeAt 3 (pt pb (3+(Int.toNat x.sn)*5+3)) (i6 (((x.lv (Int.toNat x.sn)).sq)+1))) (Bg x pb w b d e a f h q r i j) v7 v7 rfl (λg k=>?_) (λM W=>?_)
 ·obtain⟨l,ad,a0,a7,b2⟩:=cG (P:=prog) (t:=3) (v:=i6 (((x.lv (Int.toNat x.sn)).sq)+1)) (cs':=am.cells {x with lv:=Wa x,bl:=i,rd:=yt d a.length e,ak:=b}) v7 (k.at_ 0 rfl) rfl (by show(3+(Int.toNat x.sn)*5+3)+1<=73;omega) (aU rfl) (x8 ({x with bl:=i,rd:=yt d a.length e,ak:=b}) (i:=Int.toNat x.sn) yq (O0 x));exact⟨l,ad,k.PA 0 rfl rfl a7 a0⟩
 replace W:y<=M:=W;refine Aq 10 (dz 5 0) [42,43,46] [] [] [.ops (Ac 63) [5,6]] ⟨[(42,pt pb 0),(43,i6 ya),(46,pt pb (3+(Int.toNat x.sn)*5+3))],Bg x pb w b d e a f h q r i j,[],M⟩ ?_;refine fy (dst:=some 47) (x:=Instr.loadAt 3 (pt pb (3+(Int.toNat x.sn)*5+3))) (i6 (O0 x)) v7 v7 rfl (λg k=>?_) ?_
 ·exact ik g 3 .i64 pb (3+(Int.toNat x.sn)*5+3) 98 _ _ v7 (k.at_ 0 rfl) (iP ({x with lv:=Wa x,bl:=i,rd:=yt d a.length e,ak:=b}) (i:=Int.toNat x.sn) yq (j:=3) (by show(Wa x (Int.toNat x.sn)).cells[3]?=_;rw[Wa,kR];rfl))
 refine z6 3 [] [42,43,47] [] [] [.ops (Ac 63) [6]] (Bg x pb w b d e a f h q r i j) [] M ?_;refine Ip (w:=w) (S':=bL [141] v8 x pb w) (Y:=Unit) (λ_=>.tuple #[]) (λ_=>[]) (λ_ A=>E A) (v7:_=some (106,[pt pb 0,i6 ya,i6 (O0 x)],some 48,[])) tI (λg k=>?_) (λb0 Z a2 a8=>?_)
 ·have s:=(ab.A0 p k);have a6:v8<=g.z:=az a5 s.x2.size;have H:=(R.kT k p);have N:=(X.kT k p);have C:aP g v8 pb ({x with lv:=Wa x,bl:=i,rd:=yt d a.length e,ak:=v}) c L:=⟨_,k.at_ 0 rfl,H⟩;refine(bg U g C N a6).mono λm l K=>?_;obtain⟨I,a3,B⟩:=K;exact⟨(),I,a3,s.none_.A3 (λ_ o=>o) B (bv s.x2 rfl) (λaV F=>by cases F)⟩
 refine Aq 4 [] [] [] [] [] ⟨[],[],[],Z.z⟩ ?_;refine bN [] (v7:_=some ([],aX [])) ?_;intro g k;exact⟨rfl,ak _ _ a2 (k.x2.mono (λb3 _ o=>by obtain⟨aV,F,_⟩:=o;cases F)),(ab.A0 a8 k).x2⟩
variable {k:Be}{g:S2}{N:HB->Prop}
def Be.C(k:Be)(o:Int):bB:=ev (k.n:Int) (k.sn:Int) o k.n
def Be.Wr(k:Be)(o:Int):ByteArray:=FZ 0 0 ((k.C o).map λa=>k.zq (k.nd a))
def Pc(k:Be)(e o:Int)(f:aZ)(m:Nat)(r:aZ):Prop:=((m:Int)=o∧r=f)∨((m:Int)≠o∧Rb k e o m r)
def Ws(k:Be)(t ta zv e o sq:Int):HB:=⟨t,ta,zv,e,o,80,fK (k.n:Int) (k.sn:Int) e o (k.C o),false,λa d b=>FY k e o sq a∧n9 k (k.C o) a d b,Rb k e o,Pc k e o (k.fr e o.toNat),Lp k e o,Lp k e o,λc=>⟨1,e,0,k.fr e c.to.toNat⟩⟩
def Be.W8(k:Be)(e o sq:Int):aZ:=⟨true,e,e,sq,k.Wr o,false,0,0,0,⟨#[]⟩⟩
def Yu(k:Be)(t ta zv e o sq:Int):HB:=⟨t,ta,zv,e,o,120,[(o,F6 (k.sn:Int) e sq (k.Wr o))],false,λa _ _=>FY k e o sq a,Pc k e o (k.fr e o.toNat),Pc k e o (k.W8 e o sq),Lp k e o,Lp k e o,λ_=>⟨1,e,0,fI⟩⟩
def Yv(k:Be)(t ta zv e o sq:Int):HB:=⟨t,ta,zv,e,o,149,[(100,XE (k.sn:Int) e)],false,λa _ _=>FY k e o sq a,Pc k e o (k.W8 e o sq),Pc k e o (k.W8 e o sq),Lp k e o,Lp k e (-1),λ_=>⟨1,e,-1,fI⟩⟩
theorem vC{p:Int}{q:ck}{t zv:Int}{a:ar}(h:a∈bc t zv [(p,q)]):a.to=p∧a.q=q:=by
 have b:=aG.1 (nN h).2.2.2.2;exact⟨congrArg Prod.fst b,congrArg Prod.snd b⟩
theorem rg(m:cZ k){e o:Int}{f:aZ}(hw:Wk k e o)(q:k.zl=o):ra k (Pc k e o f):=λp d g n b c=>by
 rcases c with⟨a,_⟩|⟨a,h⟩
 ·exact absurd (a.trans q.symm) b
 ·obtain⟨i,j⟩:=mL m ⟨hw.he.1,by have:=hw.he;omega⟩ p d g n b h
  exact⟨i,λl=>.inr ⟨a,j l⟩⟩
structure Rk(k:Be)(e o:Int):Prop extends Wk k e o where
 hz:k.zl=o
 h0:0<=o
 YL:k.z<0
theorem kX(e:cZ k){o c:Int}:c∈k.C o↔(0<=c∧c<(k.n:Int))∧k.nd c≠o:=by
 have g:=e.hn;unfold Be.C ev Be.nd;rw[dR];constructor
 ·rintro⟨b,a⟩;obtain⟨f,d,rfl⟩:=aT.1 b;have:=bn.1 d;exact⟨yq,by simpa using a⟩
 ·rintro⟨b,a⟩;exact⟨aT.2 ⟨c.toNat,bn.2 yq,yq⟩,by simpa using a⟩
theorem IV(o:Int):(k.C o).Nodup:=by
 unfold Be.C ev;exact List.Pairwise.filter _ (List.pairwise_map.2 ((List.nodup_range (n:=k.n)).imp λa b=>a yq))
theorem DO(f:cZ k){o:Int}(n:0<=o∧o<(k.n:Int)):1<(k.C o).length∧(k.C o).length<=5:=by
 have u:=f.hn;have p:=nP f n;have a:∃i b:Int,i≠b∧i∈k.C o∧b∈k.C o:=by
  have c:∀e:Int,(0<=e∧e<(k.n:Int))->e≠k.oc o->e∈k.C o:=λe a d=>(kX f).2 ⟨a,jg f yq d a⟩;by_cases s:k.oc o=0
  ·exact⟨1,2,by decide,c 1 yq yq,c 2 yq yq⟩
  ·by_cases a:k.oc o=1
   ·exact⟨0,2,by decide,c 0 yq yq,c 2 yq yq⟩
   ·exact⟨0,1,by decide,c 0 yq yq,c 1 yq yq⟩
 refine⟨?_,?_⟩
 ·obtain⟨i,b,a,d,g⟩:=a
  cases l:k.C o with
  |nil=>rw[l]at d;cases d
  |cons q j=>
   cases j with
   |nil=>
    rw[l]at d g;exact absurd ((aG.1 d).trans (aG.1 g).symm) a
   |cons r j=>simp
 have v:=oa f o;have t:k.oc o≠-1:=λh=>by
  unfold Be.oc jV at h;rw[ay yq]at h;have:=eY (o+(k.n:Int)-(k.sn:Int)%(k.n:Int)) (b:=(k.n:Int)) yq;omega
 have g:(k.C o).length<((List.range k.n).map λm:Nat=>(m:Int)).length:=by
  unfold Be.C ev;refine List.length_filter_lt_length_iff_exists.2 ⟨k.oc o,aT.2 ⟨(k.oc o).toNat,bn.2 yq,yq⟩,?_⟩;have h:(k.oc o+(k.sn:Int))%(k.n:Int)=o:=p;simp[h]
 rw[ey,List.length_range]at g;omega
theorem p6{t ta zv e o sq:Int}{a:ar}(h:a∈(Ws k t ta zv e o sq).A1):(a.to=o∧a.q=eC (k.sn:Int) e)∨∃c∈k.C o,a.to=k.nd c∧a.q=dV 2 (k.sn:Int) e:=by
 have f:=(HB.mem h).2.2.2.2;rcases bj.1 f with b|b
 ·exact .inl ⟨congrArg Prod.fst b,congrArg Prod.snd b⟩
 ·obtain⟨c,g,d⟩:=aT.1 b;exact .inr ⟨c,g,(congrArg Prod.fst d).symm,(congrArg Prod.snd d).symm⟩
theorem IW(t ta zv e o sq:Int):(Ws k t ta zv e o sq).last=zv+((k.C o).length:Int)+1:=by
 unfold HB.last;show zv+((fK (k.n:Int) (k.sn:Int) e o (k.C o)).length:Int)=_;rw[vD];omega
theorem LJ{l:bB}{R:ct}(c:∀a∈R,a.size=16)(b:l.length=16):(eF l R).length=16:=by
 induction R generalizing l with
 |nil=>exact b
 |cons a R f=>
  refine f (λd e=>c d (cz _ e)) ?_;rw[iZ (by rw[b,dr,c a A4]),b]
theorem vE{s:ByteArray}{R:ct}(hs:s.size=16)(b:∀a∈R,a.size=16):(bX (eF (aK s) R)).size=16:=by
 rw[rV,LJ b (by rw[dr,hs])]
theorem x5(b:cZ k){e o:Int}(hw:Wk k e o)(j:0<=o):(k.Wr o).size=16:=by
 have g:=DO b (o:=o) ⟨j,hw.ho.2⟩;have c:∀d∈(k.C o).map (λa=>k.zq (k.nd a)),ByteArray.size d=16:=λd l=>by
  obtain⟨a,i,rfl⟩:=aT.1 l;have q:=(kX b).1 i;have r:=gq b a;have s:=(hw.live (m:=(k.nd a).toNat) yq).1;exact mR b yq
 unfold Be.Wr
 cases f:k.C o with
 |nil=>rw[f]at g;simp at g
 |cons a p=>
  rw[f]at c;exact vE (c _ z1) (λh n=>c h (cz _ n))
theorem Oy(d:cZ k){e o:Int}(hw:Wk k e o)(t:0<=o){g:World}{A:aY}{cp b:Nat}(h:ah g b 9 1 A (k.C o).length cp (ba ((k.C o).map λa=>k.zq (k.nd a)))):aC 121 #[yt A (k.C o).length cp] g (bf (.tuple #[sT (k.Wr o),i6 0]) g):=by
 have f:=DO d (o:=o) ⟨t,hw.ho.2⟩;have i:∀c∈(k.C o).map (λa=>k.zq (k.nd a)),ByteArray.size c=16:=λc u=>by
  obtain⟨a,r,rfl⟩:=aT.1 u;have B:=(kX d).1 r;have C:=gq d a;have D:=(hw.live (m:=(k.nd a).toNat) yq).1;exact mR d yq
 unfold Be.Wr;have y:((k.C o).map λa=>k.zq (k.nd a)).length=(k.C o).length:=ey ..
 revert h i
 rw[<-y]at f ⊢;generalize (k.C o).map (λa=>k.zq (k.nd a))=n at f ⊢;intro h i
 cases n with
 |nil=>simp at f
 |cons c l=>
  obtain⟨q,rfl,_,w,_⟩:=h.cell (j:=0) rfl;have x:=h.le;simp only[List.length_cons]at f x;exact IX c (i c A4) l (λp v=>i p (cz _ v)) yq q cp yq g w (λj z s=>by rw[bG];exact it h s)
variable {k:Be}{g:S2}{N:HB->Prop}
theorem R8(h:cZ k){n:Nat}(cK:∀ak,N ak->∃ad,ad+1=n∧ci k g ad ak){t ta zv e o sq:Int}(hw:Rk k e o)(d2:0<=sq∧sq<=1000)(J1:(0<=ta∧ta<=t∧t<=ta+1∧t<=1000000)∧0<=zv∧zv<=900000000)(b7:N (Yu k t t (Ws k t ta zv e o sq).last e o (sq+1))):Stp k g N (Ws k t ta zv e o sq):=by
 have da:=h.hn;have c9:=h.hS;have d1:=h.Wi;have dt:=h.WH;have cm:=hw.he;have cn:=hw.ho;have aR:=hw.h0;have a3:=hw.hz;have d3:=hw.YL;have ds:=DO h (o:=o) ⟨aR,cn.2⟩;have eb:=IW (k:=k) t ta zv e o sq;have d0:(Ws k t ta zv e o sq).P.length=(k.C o).length+1:=vD;have P:∀i∈(Ws k t ta zv e o sq).A1,0<=i.to∧i.to<(k.n:Int):=λi r=>by
  rcases p6 r with⟨j,_⟩|⟨f,_,l,_⟩
  ·omega
  ·rw[l];exact gq h f
 have bs:∀a c4,n3 k.B0 ((Ws k t ta zv e o sq).T a c4):=λ_ _ _ _ _ m b6 b9=>⟨m.1,n9.Bw _ _ _ m.2 b6 b9⟩;refine⟨yq,nO ?_,λi r=>.inl (P i r),⟨J1.1,J1.2.1,Int.le_trans J1.2.2 (by decide)⟩,.inr (.inr (.inr (.inr (.inr (.inl rfl))))),bs,λa c5 c7 Z cl m=>⟨m.1,m.2.1,λf s cb=>m.2.2 f s (by rw[<-oR cl];exact cb)⟩,λi r=>?_,λi r y F a7=>?_,λi r d4=>?_,⟨mL h ⟨cm.1,yq⟩,rg h hw.toWk a3⟩,λy J F m=>absurd F yq,λcf=>Bool.noConfusion cf,λi r dv a c K I Z ea cR ca cL du=>?_,λ⟨i,j,l⟩=>?_⟩
 ·show((fK (k.n:Int) (k.sn:Int) e o (k.C o)).map (·.1)).Nodup
  have j:(fK (k.n:Int) (k.sn:Int) e o (k.C o)).map (·.1)=o::(k.C o).map k.nd:=by
   simp only[fK,aQ,List.map_cons,List.map_map];rfl
  rw[j];refine List.nodup_cons.2 ⟨λm=>?_,kS h (λf s=>((kX h).1 s).1) (IV o)⟩;obtain⟨f,l,v⟩:=aT.1 m;exact((kX h).1 l).2 v
 ·have:=P i r;exact FT h yq yq
 ·have b2:i.to.toNat=y:=by omega
  have c2:(Ws k t ta zv e o sq).sy i=⟨1,e,0,k.fr e y⟩:=by
   show(⟨1,e,0,k.fr e i.to.toNat⟩:dw)=_
   rw[b2]
  rw[c2];rcases p6 r with⟨j,l⟩|⟨f,j,l,v⟩
  ·exact⟨by rw[l];rfl,λJ w=>⟨k.fr e y,.inl ⟨F.symm.trans j,by rw[show o.toNat=y by omega]⟩,vv h a7 yq l (w.rf yq)⟩⟩
  ·have X:(y:Int)≠o:=by rw[<-F,l];exact((kX h).1 j).2
   refine⟨by rw[v];rfl,λJ w=>⟨J,.inr ⟨X,w⟩,?_⟩⟩;rw[w.re hw.toWk X];exact x3 h a7 (hw.toWk.live X).1 yq v
 ·have:=P i r;omega
 ·obtain⟨d,c1,M,H,⟨U,Y,bl⟩,aV⟩:=cR;obtain⟨⟨A,z,O,b8⟩,_⟩:=id aV;have W:∀f∈k.C o,0<=f∧f<(k.n:Int):=λf s=>((kX h).1 s).1;obtain⟨q,cs,cA,cB⟩:=DH h (t:=t) (sy:=(Ws k t ta zv e o sq).sy i) d (by
   rcases p6 r with⟨j,l⟩|⟨f,j,l,v⟩
   ·exact .inr ⟨by rw[l];show(1:Int)≠2;decide,_,rfl⟩
   ·exact .inl ⟨f,W f j,l,v,by rw[a3,l];exact((kX h).1 j).2,rfl⟩)
  have a5:=vz aV W cA cB λf s l=>by
   rcases p6 r with⟨j,_⟩|⟨Q,_,_,v⟩
   ·exact absurd (l.trans j) ((kX h).1 s).2
   ·rw[v];rfl
  have a2:({a with lb:=c,rd:=yt A (k.C o).length z}:am)={a with lb:=c}:=by rw[<-O]
  have bb:({a with lb:=c,bl:=q,rd:=yt A (k.C o).length z}:am)={a with lb:=c,bl:=q}:=by rw[<-O]
  have c3:({a with lb:=c}:am).N=(k.n:Int):=d.N;have bd:({a with lb:=c}:am).S=(k.S:Int):=d.S;have bg:({a with lb:=c}:am).sn=(k.sn:Int):=d.sn;have cP:({a with lb:=c}:am).cb=k.cb:=d.cb;have a6:({a with lb:=c}:am).lv (Int.toNat ({a with lb:=c}:am).sn)=⟨true,e,o,sq,U⟩:=by rw[bg,cJ];exact Y
  have a8:O0 ({a with lb:=c}:am)=sq+1:=by unfold O0;rw[a6]
  have cq:=DP {a with lb:=c} ⟨k.Ar,(Ws k t ta zv e o sq).last,K++I⟩ [] k.pb k.B0 (λG=>∃V Q an,V.cb=k.cb∧aP G k.B0 k.pb {V with lb:=c} Q an∧Nx k g N (Ws k t ta zv e o sq) (K++I) V Q an G) (λdd de u E=>Nx.J7 (p:=Ws k t ta zv e o sq) cK bs u E)
   q (k.C o) A z t i.to 1 e 0 i.q (k.fr e i.to.toNat) (by rw[c3,bd];omega) (by rw[bg,bd];omega) (by rw[a6];show 0<=sq∧sq<_;omega) (λL x=>by rw[a2]at x;exact(cs c _ L x).mono λaq G ⟨D,B,C⟩=>⟨D,by rw[<-bb]at B;exact B,C⟩)
   (λc0 L x j=>⟨{a with bl:=q},_,_,d.cb,by rw[bb]at x;exact x,.inl ⟨rfl,λm=>c0 (by rw[m];rfl),rfl,⟨d.1,d.2,d.3,d.4,d.5,d.6,d.7,d.8,d.9,d.10⟩,c1,M,H,⟨U,Y,bl⟩,⟨A,z,O,j⟩,a5⟩⟩)
   (λcU L x j cO=>?_) Z (by rw[a2];exact ca) b8 cL
  ·refine cq.mono λaq G ⟨D,B,C⟩=>⟨D,B,?_⟩;rw[cP]at C;exact C.mono λbt _ m=>eI rfl bt m
  ·have a4:K++I=[]:=List.eq_nil_of_length_eq_zero cU;rw[a8];have bk:({a with lb:=c,lv:=Wa {a with lb:=c},bl:=q,rd:=yt A (k.C o).length z}:am)={a with lb:=c,lv:=Wa {a with lb:=c},bl:=q}:=by rw[<-O]
   have a9:=eH (n:=t) yq;have co:=xm {a with lb:=c,lv:=Wa {a with lb:=c},bl:=q} ⟨k.Ar,(Ws k t ta zv e o sq).last,K++I⟩ [] k.pb k.B0 (k.C o) A z (sq+1) (k.Wr o) t yq (λf s=>by have:=W f s;omega) (λdf b0 cC b1 b5=>by
     have u:(k.C o).map (λcr:Int=>q (Int.toNat cr))=(k.C o).map λf=>k.zq (k.nd f):=ft λf s=>a5 f s (by rw[a4];rfl);refine Oy h hw.toWk aR (A:=b0) (cp:=cC) (b:=b1) ?_;rw[<-u];exact b5) (by show 0<=a.ou∧a.ou<6;rw[H];show 0<=o∧o<6;omega) (by show(Ws k t ta zv e o sq).last<_;omega) z1 L (by rw[bk];rw[bk]at x;exact x) j cO
   refine co.mono λaq G ⟨D,B,C⟩=>⟨D,⟨{a with lv:=Wa {a with lb:=c},bl:=q,nx:=.func (.func 120) #[pt k.pb 0] #[],lg:=false,rd:=yt A (k.C o).length z},_,_,d.cb,B,.inr (.inl ⟨Yu k t t (Ws k t ta zv e o sq).last e o (sq+1),b7,rfl,rfl,rfl,?_,?_,⟨⟨d.1,d.2,d.3,d.4,d.5,d.6,d.7,d.8,d.9,λac a0=>?_⟩,rfl,M,H,U,?_,bl⟩,.inl a4,λy J F w=>?_,λc6 a1=>DE a1 a1⟩)⟩,C⟩
   ·have R:({a with lb:=c,lv:=Wa {a with lb:=c},bl:=q}:am).ou=o:=H;have S:({a with lb:=c,lv:=Wa {a with lb:=c},bl:=q}:am).sn=(k.sn:Int):=d.sn;have T:({a with lb:=c,lv:=Wa {a with lb:=c},bl:=q}:am).ep=e:=M;rw[R,S,T];unfold d6;rw[a9];rfl
   ·have R:({a with lb:=c,lv:=Wa {a with lb:=c},bl:=q}:am).ou=o:=H;have S:({a with lb:=c,lv:=Wa {a with lb:=c},bl:=q}:am).sn=(k.sn:Int):=d.sn;have T:({a with lb:=c,lv:=Wa {a with lb:=c},bl:=q}:am).ep=e:=M;rw[R,S,T,a9];rfl
   ·show Wo a.lv (Int.toNat a.sn) _ ac=_
    rw[d.sn,cJ,Wo,ay a0];exact d.lv ac a0
   ·show Wo a.lv (Int.toNat a.sn) { a.lv (Int.toNat a.sn)with sq:=O0 {a with lb:=c} } k.sn=_
    rw[a8,d.sn,cJ,kR,Y]
   ·have w:=w.resolve_right λm=>Bool.noConfusion m.1;rcases w with⟨u,E⟩|⟨u,E⟩
    ·exact .inl ⟨⟨_,A4,u.symm⟩,.inl ⟨u,E⟩⟩
    ·refine .inr ⟨λ⟨db,b3,b4⟩=>u (b4.symm.trans (vC b3).1),.inr ⟨u,E⟩⟩
 ·have:=P i j;omega
theorem F7(a:cZ k){e o sq:Int}(hw:Rk k e o)(j:1<=sq∧sq<=16777215){c:ar}(h:c.q=F6 (k.sn:Int) e sq (k.Wr o)):n7 c (k.fr e o.toNat) (k.W8 e o sq) ⟨1,e,0,fI⟩:=by
 have s:=a.WH;have p:=hw.he;have b:=hw.h0;have g:=hw.ho;have q:=hw.hz;obtain⟨m,f,n⟩:=a.gone o.toNat yq yq;have d:k.fr e o.toNat=⟨false,e,0,0,⟨#[]⟩,false,0,0,0,⟨#[]⟩⟩:=by unfold Be.fr;rw[f]
 have l:(k.Wr o).size=16:=x5 a hw.toWk b;intro i;rw[h,d];exact LL e k.sn e sq (k.Wr o) yq (Yl a) yq j l rfl i
theorem R9(i:cZ k){t ta zv e o sq:Int}(hw:Rk k e o)(a4:1<=sq∧sq<=1001)(J1:(0<=ta∧ta<=t∧t<=ta+1∧t<=1000000)∧0<=zv∧zv<=900000000)(L:N (Yv k t t (zv+1) e o sq)):Stp k g N (Yu k t ta zv e o sq):=by
 have ak:=i.hn;have aV:=i.WH;have ad:=hw.he;have an:=hw.ho;have ac:=hw.h0;have w:=hw.hz;have a5:=hw.YL;refine⟨⟨(by decide:0<1),(by decide:1<=6)⟩,List.pairwise_singleton _ _,λd c=>.inl (by rw[(vC c).1];omega),⟨J1.1,J1.2.1,Int.le_trans J1.2.2 (by decide)⟩,.inr (.inr (.inr (.inr (.inr (.inr (.inl rfl)))))),λ_ _ _ _ _ b _ _=>b,λ_ _ _ _ _ b=>b,λ_ _=>j4 yq yq rfl,λd c p j a1=>?_,λd c a6=>?_,⟨rg i hw.toWk w,rg i hw.toWk w⟩,λp s j b=>absurd j yq,λM=>Bool.noConfusion M,λd c a3 f m F C D X T v R a0=>?_,λ⟨d,q,h⟩=>?_⟩
 ·obtain⟨q,h⟩:=vC c;have y:(p:Int)=o:=j.symm.trans q;refine⟨by rw[h];rfl,λs l=>⟨_,.inl ⟨y,rfl⟩,?_⟩⟩;rcases l with⟨_,rfl⟩|⟨r,_⟩
  ·exact F7 i hw yq h
  ·exact absurd y r
 ·have:=(vC c).1;omega
 ·obtain⟨V,a2⟩:=vC c;have U:F++C=[]:=List.eq_nil_iff_forall_not_mem.2 λQ h=>by
   obtain⟨r,aq,I,J⟩:=X Q h;exact r (by rw[<-J,(vC I).1,V])
  rw[U]at v ⊢;obtain⟨a,_,x,W,K⟩:=T;have z:({f with lb:=m}:am).sn=(k.sn:Int):=a.sn;have B:({f with lb:=m}:am).ep=e:=x;have S:({f with lb:=m}:am).cb=k.cb:=a.cb;have A:=eH (n:=t) yq;have P:=F8 {f with lb:=m} ⟨k.Ar,(Yu k t ta zv e o sq).last,[]⟩ [] k.pb k.B0 t d.to e 0 d.q fI (by show zv+1<_;omega) z1 D v R;refine P.mono λZ aR ⟨G,H,u⟩=>⟨G,⟨{f with nx:=.func (.func 149) #[pt k.pb 0] #[],lg:=false},_,_,a.cb,H,.inr (.inl ⟨Yv k t t (zv+1) e o sq,L,rfl,rfl,rfl,?_,?_,⟨⟨a.1,a.2,a.3,a.4,a.5,a.6,a.7,a.8,a.9,a.10⟩,rfl,x,W,K⟩,.inl rfl,λp s j l=>?_,λY O=>.inl ⟨⟨_,A4,rfl⟩,O⟩⟩)⟩,?_⟩
  ·rw[z,B];unfold d6;rw[A];rfl
  ·rw[z,B,A];rfl
  ·exact FR (l.resolve_right λb=>Bool.noConfusion b.1) (l.resolve_right λb=>Bool.noConfusion b.1)
  ·rw[S]at u;exact u.mono λE _ b=>eI rfl E b
 ·have:=(vC q).1;omega
theorem Sa(d:cZ k){n:Nat}(_:∀u,N u->∃r,r+1=n∧ci k g r u){t ta zv e o sq:Int}(hw:Rk k e o)(J1:(0<=ta∧ta<=t∧t<=ta+1∧t<=1000000)∧0<=zv∧zv<=900000000)(U:∀a l,Fin k ⟨#[]⟩ ⟨true,e,-1,sq,0⟩ 1000000 a l->l.last=zv+1->g.X a l)(S:∀j m,j<k.n->Pc k e o (k.W8 e o sq) j m->g.R j m)(R:∀s,Lp k e (-1) s->g.L s):Stp k g N (Yv k t ta zv e o sq):=by
 have a7:=d.hn;have T:=d.hS;have aR:=d.Wi;have bd:=d.WH;have bg:=d.Yk;have a6:=hw.he;have z:=hw.hz;have b2:=hw.YL;refine⟨⟨(by decide:0<1),(by decide:1<=6)⟩,List.pairwise_singleton _ _,λi f=>.inr (sE f).1,⟨J1.1,J1.2.1,Int.le_trans J1.2.2 (by decide)⟩,.inr (.inr (.inr (.inr (.inr (.inr (.inr rfl)))))),λ_ _ _ _ _ h _ _=>h,λ_ _ _ _ _ h=>h,λ_ _=>j4 yq yq rfl,λi f j x bs=>?_,λi f _=>⟨10,e,0,e,-1,(sE f).2,rfl,λH y ⟨q,p⟩=>⟨k.Ar,q,⟨_,rfl⟩,Ua H k.sn t k.Ar e q o (by rw[y];exact aR) (by rw[y];exact T.2) p yq⟩⟩,⟨rg d hw.toWk z,rg d hw.toWk z⟩,λj m x h=>absurd x yq,λV=>Bool.noConfusion V,λi f b1 a c J D E a3 ad A ac bl=>?_,λ⟨i,p,w⟩=>?_⟩
 ·have:=(sE f).1;omega
 ·obtain⟨an,bt⟩:=sE f;have ak:J++D=[]:=List.eq_nil_iff_forall_not_mem.2 λY w=>by
   obtain⟨O,a9,P,Q⟩:=a3 Y w;exact O (by rw[<-Q,(sE P).1,an])
  rw[ak]at A ⊢;obtain⟨b,_,bk,b0,Z,aq,a2⟩:=ad;have aV:({a with lb:=c}:am).N=(k.n:Int):=b.N;have C:({a with lb:=c}:am).S=(k.S:Int):=b.S;have a1:({a with lb:=c}:am).sn=(k.sn:Int):=b.sn;have a0:({a with lb:=c}:am).ed=k.ed:=b.ed;have B:({a with lb:=c}:am).cb=k.cb:=b.cb;have X:=LM {a with lb:=c} ⟨k.Ar,(Yv k t ta zv e o sq).last,[]⟩ [] k.pb k.B0 t i.to e (-1) i.q fI (by rw[aV,C];omega) (by rw[a1,C];omega) (by rw[a0];omega) E A ac;refine X.mono λa4 bb ⟨K,L,M,v⟩=>⟨K,⟨({a with lb:=c,lv:=XZ {a with lb:=c} }:am).ended 0 ⟨#[]⟩,_,_,b.cb,L,.inr (.inr ⟨rfl,rfl,rfl,rfl,λF=>?_,U _ _ (b.fin (λG W=>?_) ⟨Z,?_,a2⟩) rfl,S,R⟩)⟩,?_⟩
  ·rw[<-B];exact M F
  ·show Wo a.lv (Int.toNat a.sn) _ G=_
   rw[b.sn,cJ,Wo,ay W]
  ·show Wo a.lv (Int.toNat a.sn) { a.lv (Int.toNat a.sn)with ou:=-1} k.sn=_
   rw[b.sn,cJ,kR,aq]
  ·rw[B]at v;exact v.mono λI _ h=>eI rfl I h
 ·have:=(sE p).1;omega
variable {k:Be}{g:S2}{N a:HB->Prop}
theorem p7{t:Int}{b:Int}{q:ck}{L:List (Int×ck)}:∀{zv:Int},(b,q)∈L->dM (bc t zv L) b:=by
 induction L with
 |nil=>intro _ a;cases a
 |cons g i e=>
  obtain⟨h,j⟩:=g;intro zv a;rw[bc];rcases bj.1 a with a|a
  ·exact⟨_,A4,(congrArg Prod.fst a).symm⟩
  ·obtain⟨f,c,d⟩:=e (zv:=zv+1) a;exact⟨f,cz _ c,d⟩
theorem Nx.mono(h:∀b,N b->a b){p:HB}{R:List ar}{x:am}{c:CM}{L:List ar}{W:World}(f:Nx k g N p R x c L W):Nx k g a p R x c L W:=by
 rcases f with d|⟨b,d,e⟩|d
 ·exact .inl d
 ·exact .inr (.inl ⟨b,h b d,e⟩)
 ·exact .inr (.inr d)
theorem Stp.mono(h:∀b,N b->a b){p:HB}(l:Stp k g N p):Stp k g a p:=
 {l with
  on:=λr C m c n s o q d e f i j=>(l.on r C m c n s o q d e f i j).mono λ_ _ ⟨u,⟨D,z,t,v,w,x⟩,y⟩=>⟨u,⟨D,z,t,v,w,x.mono h⟩,y⟩
  gone:=λm F c n d e f i j=>by
   obtain⟨b,E,A,B⟩:=l.gone m F c n d e f i j
   exact⟨b,E,h b A,B⟩}
theorem ci.succ{p:HB}:∀{b:Nat},ci k g b p->ci k g (b+1) p
 |0,a=>Stp.mono (λ_ a=>a.elim) a
 |_+1,a=>Stp.mono (λ_ a=>ci.succ a) a
theorem ci.nn{n:Nat}:∀b,ci k g n b->∃a,a+1=n+1∧ci k g a b:=λ_ c=>⟨n,rfl,c⟩
theorem Fin.mono{a:ByteArray}{l:jI}{t b:Int}{x:am}{c:CM}(h:Fin k a l t x c)(i:t<=b):Fin k a l b x c:=by
 obtain⟨f,d,e,g⟩:=h.Yt;exact{ h with Yt:=⟨f,d,e,yq⟩}
def Be.aR(k:Be)(e o sq:Int):Nat->aZ->Prop:=if k.kd=2 then Po k e o (k.X5 e o (sq+1))else if k.kd=3∧o≠-1 then Pc k e o (k.W8 e o (sq+1))else Rb k e o
def Be.aV(k:Be)(e o sq:Int):jI:=if k.kd=2 then⟨true,e,o,sq+1,0⟩else if k.kd=3∧o≠-1 then⟨true,e,-1,sq+1,0⟩else⟨true,e,o,sq,0⟩
def Be.OK(k:Be)(e o sq lm:Int):S2:=⟨λb a=>Fin k (if k.kd=1 then k.Yd o else⟨#[]⟩) (k.aV e o sq) 1000000 b a∧a.last<=lm,k.aR e o sq,Lp k e (if k.kd=3 then -1 else o)⟩
theorem IY{e o sq:Int}(h:k.kd≠2)(a:¬(k.kd=3∧o≠-1)):k.aR e o sq=Rb k e o∧k.aV e o sq=⟨true,e,o,sq,0⟩:=by
 unfold Be.aR Be.aV;rw[ay h,ay a,ay h,ay a];exact⟨rfl,rfl⟩
theorem DQ{e o sq:Int}(h:k.kd=2):k.aR e o sq=Po k e o (k.X5 e o (sq+1))∧k.aV e o sq=⟨true,e,o,sq+1,0⟩:=by
 unfold Be.aR Be.aV;rw[aA h,aA h];exact⟨rfl,rfl⟩
theorem Tg{e o sq:Int}(h:k.kd=3)(a:o≠-1):k.aR e o sq=Pc k e o (k.W8 e o (sq+1))∧k.aV e o sq=⟨true,e,-1,sq+1,0⟩:=by
 unfold Be.aR Be.aV;rw[ay yq,aA ⟨h,a⟩,ay yq,aA ⟨h,a⟩];exact⟨rfl,rfl⟩
structure WW(k:Be)(e o sq:Int):Prop extends Wk k e o where
 X3:0<=sq∧sq<=900
 Y4:k.kd=1∨k.kd=2∨k.kd=3
 XV:k.kd=2->k.da.size=16∧(k.par o).size=16∧DM k e o (sq+1)
 YG:k.kd=3->o≠-1->k.zl=o∧k.z<0
theorem LN(h:cZ k){t ta zv e o sq lm:Int}(z:WW k e o sq)(j:k.kd=1)(J1:(0<=ta∧ta<=t∧t<=ta+1∧t<=1000000)∧0<=zv∧zv+20<=lm∧lm<=800000000):oP k (k.OK e o sq lm) (ci k (k.OK e o sq lm) 2) t ta zv e o sq:=by
 have aq:=h.hn;have ak:=h.hS;have a3:=h.Wi;have aV:=h.Wl;have a1:=oS h (o:=k.oc o);have a4:(XN k t ta zv e o sq).last=zv+((bF (k.n:Int) (k.cn:Int) (k.oc o)++cT (k.n:Int) (k.cn:Int) (k.oc o)).length:Int):=by
  unfold HB.last;show zv+((aQ 2 (k.n:Int) (k.sn:Int) e _++aQ 3 (k.n:Int) (k.sn:Int) e _).length:Int)=_;rw[bM,eJ,eJ,bM]
 have M:ci k (k.OK e o sq lm) 0 (XN k t ta zv e o sq):=R2 (n:=0) h j (λ_ f=>f.elim) z.toWk ⟨J1.1,yq⟩ (λb g m ad=>by
   refine⟨?_,yq⟩;rw[aA j,(IY yq yq).2];exact m.mono yq) (λs u _ f=>by
   show k.aR e o sq s u
   rw[(IY yq yq).1];exact f) (λr f=>by
   show Lp k e (if k.kd=3 then -1 else o) r
   rw[ay yq];exact f)
 intro b S c g I a D E V W a0 U C N O a2;have R:({b with lb:=c,kd:=1}:am)={b with lb:=c}:=by rw[<-j,<-a.kd]
 have d:({b with lb:=c}:am).N=(k.n:Int):=a.N;have F:({b with lb:=c}:am).S=(k.S:Int):=a.S;have l:({b with lb:=c}:am).sn=(k.sn:Int):=a.sn;have i:({b with lb:=c}:am).cn=(k.cn:Int):=a.cn;have H:({b with lb:=c}:am).ou=o:=E;have G:({b with lb:=c}:am).ep=e:=D;have T:({b with lb:=c}:am).cb=k.cb:=a.cb;have Q:=vF {b with lb:=c} g [] k.pb k.B0 ta (by rw[d,F];omega) (by rw[l,F];omega) (by rw[i,d];omega) (by rw[H,d];exact z.ho) (k.oc o) (by rw[d,l,H];rfl) yq yq z1 I (by rw[R];exact N) O;refine Q.mono λac aR ⟨p,x,K,L,v,w⟩=>⟨K,⟨{b with kd:=1,nx:=.func (.func 84) #[pt k.pb 0] #[],lg:=false,rd:=yt p (bF ({b with lb:=c}:am).N ({b with lb:=c}:am).cn (k.oc o)).length x},_,_,a.cb,L,.inl ⟨XN k t ta zv e o sq,M.succ.succ,rfl,rfl,rfl,?_,?_,⟨⟨a.1,a.2,a.3,a.4,j.symm,a.6,a.7,a.8,a.9,a.10⟩,rfl,D,E,⟨S,V,W⟩,⟨⟨p,x,?_,?_⟩,λg P y=>?_⟩,trivial⟩,λs u an B=>FR B B,λr A=>DE A A⟩⟩,?_⟩
 ·rw[d,l,i,G];obtain⟨X,Y,Z⟩:=g;subst U C;rfl
 ·rw[d,l,i,G,C];rfl
 ·rw[d,i]
 ·rw[d,i]at v;exact v
 ·have m:dM (XN k t ta zv e o sq).A1 (k.nd g):=p7 (q:=dV 2 (k.sn:Int) e) (cE _ (aT.2 ⟨g,P,rfl⟩));rw[go.2 m]at y;cases y
 ·rw[T]at w;exact w.mono λJ _ f=>eI rfl J f
variable {k:Be}{g:S2}{N:HB->Prop}
theorem kP(a:cZ k){c:Bool}{t ta zv e o sq:Int}:(J5 k c t ta zv e o sq).last=zv+((k.W o).length:Int):=by
 have b:=lJ a o;unfold HB.last;show zv+((ef _ _ _ _).length:Int)=_;rw[kV,mS]
theorem Ln(c:cZ k){t ta zv e o sq lm:Int}(b:WW k e o sq)(d:k.kd=2)(J1:(0<=ta∧ta<=t∧t<=ta+1∧t<=1000000)∧0<=zv∧zv+6<=lm∧lm<=800000000):ci k (k.OK e o sq lm) 0 (J5 k true t ta zv e o (sq+1)):=by
 obtain⟨l,m,p⟩:=b.XV d;have A:=b.X3;have z:=lJ c o;have r:∀(f:Bool)(ta zv:Int),(J5 k f t ta zv e o (sq+1)).last=zv+((k.W o).length:Int):=λf ta zv=>kP c;obtain⟨j,v,w,x⟩:=J1;exact tn (n:=0) c (λ_ a=>a.elim) b.toWk l m yq p ⟨j,yq⟩ (λa=>by cases a) (λ_=>⟨λs u q y=>⟨by rw[ay yq,(DQ d).2];exact q.mono yq,by have:=r true ta zv;omega⟩,λh i _ a=>by show k.aR e o sq h i;rw[(DQ d).1];exact a,λg a=>by
   show Lp k e (if k.kd=3 then -1 else o) g
   rw[ay yq];exact a⟩)
theorem DR(d:cZ k){c:Bool}{t ta zv e o sq lm:Int}(b:WW k e o sq)(f:k.kd=2)(J1:(0<=ta∧ta<=t∧t<=ta+1∧t<=1000000)∧0<=zv∧zv+12<=lm∧lm<=800000000):ci k (k.OK e o sq lm) 1 (J5 k c t ta zv e o (sq+1)):=by
 obtain⟨h,i,j⟩:=b.XV f;have A:=b.X3;have z:=lJ d o;have g:∀(c:Bool)(ta zv:Int),(J5 k c t ta zv e o (sq+1)).last=zv+((k.W o).length:Int):=λc ta zv=>by
  unfold HB.last;show zv+((ef _ _ _ _).length:Int)=_;rw[kV,mS]
 have l:∀(ta zv:Int),(0<=ta∧ta<=t∧t<=ta+1∧t<=1000000)->0<=zv->zv+6<=lm->ci k (k.OK e o sq lm) 0 (J5 k true t ta zv e o (sq+1)):=λta zv r w x=>tn (n:=0) d (λ_ a=>a.elim) b.toWk h i yq j ⟨r,yq⟩ (λa=>by cases a) (λ_=>⟨λu v s y=>⟨by rw[ay yq,(DQ f).2];exact s.mono yq,by have:=g true ta zv;omega⟩,λp q _ a=>by show k.aR e o sq p q;rw[(DQ f).1];exact a,λm a=>by
   show Lp k e (if k.kd=3 then -1 else o) m
   rw[ay yq];exact a⟩)
 cases c with
 |true=>exact(l ta zv J1.1 J1.2.1 yq).succ
 |false=>exact tn d ci.nn b.toWk h i yq j ⟨J1.1,yq⟩ (λ_=>l t _ yq (by have:=g false ta zv;omega) (by have:=g false ta zv;omega)) (λa=>by cases a)
theorem vp(f:cZ k){g:S2}{N:HB->Prop}{t ta zv e o sq lm:Int}(n:WW k e o sq)(p:k.kd=2)(J1:(0<=ta∧ta<=t∧t<=ta+1∧t<=1000000)∧0<=zv∧zv+20<=lm∧lm<=800000000)(ac:k.oc o≠(k.n:Int)-1)(P:N (WY k t ta zv e o sq)):oP k g N t ta zv e o sq:=by
 have a4:=f.hn;have a2:=f.hS;have bd:=f.Wi;have a7:=f.Wl;obtain⟨a8,bk,bl⟩:=n.XV p;have W:=lJ f o;intro b V c i I a C D Z ad a9 Y B Q R bb;have U:({b with lb:=c,kd:=2}:am)={b with lb:=c}:=by rw[<-p,<-a.kd]
 have d:({b with lb:=c}:am).N=(k.n:Int):=a.N;have E:({b with lb:=c}:am).S=(k.S:Int):=a.S;have l:({b with lb:=c}:am).sn=(k.sn:Int):=a.sn;have h:({b with lb:=c}:am).cn=(k.cn:Int):=a.cn;have G:({b with lb:=c}:am).ou=o:=D;have F:({b with lb:=c}:am).ep=e:=C;have X:({b with lb:=c}:am).cb=k.cb:=a.cb;have T:=sG {b with lb:=c} i [] k.pb k.B0 ta (by rw[d,E];omega) (by rw[l,E];omega) (by rw[h,d];omega) (by rw[G,d];exact n.ho) (k.oc o) (by rw[d,l,G];rfl) (by rw[d];exact ac) yq yq z1 I (by rw[U];exact Q) R;refine T.mono λa1 a5 ⟨r,v,H,w,L,M,s,m,u⟩=>?_;rw[d,h]at s m;obtain⟨j,rfl⟩:∃j,H=some ⟨j,0,none⟩:=by
  rcases m.zq with⟨_,x,_⟩|⟨g,_,x,_⟩
  ·have:(dq (k.n:Int) (k.cn:Int) (k.oc o)).length>0:=W.2.1;omega
  ·exact⟨g,x⟩
 refine⟨L,⟨{b with kd:=2,nx:=.func (.func 84) #[pt k.pb 0] #[],lg:=false,rd:=yt r (cN ({b with lb:=c}:am).N ({b with lb:=c}:am).cn (k.oc o)).length v,wr:=yt (ae j) (dq ({b with lb:=c}:am).N ({b with lb:=c}:am).cn (k.oc o)).length w},_,_,a.cb,M,.inl ⟨WY k t ta zv e o sq,P,rfl,rfl,rfl,?_,?_,⟨⟨a.1,a.2,a.3,a.4,p.symm,a.6,a.7,a.8,a.9,a.10⟩,rfl,C,D,⟨V,Z,ad⟩,⟨⟨r,v,by rw[d,h];rfl,s⟩,λi S y=>?_⟩,j,w,by rw[d,h];rfl,m⟩,λan aq a3 A=>FR A A,λak z=>DE z z⟩⟩,?_⟩
 ·rw[d,l,h,F];obtain⟨aR,aV,a0⟩:=i;subst Y B;rfl
 ·rw[d,l,h,F,B];rfl
 ·have O:dM (WY k t ta zv e o sq).A1 (k.nd i):=p7 (q:=dV 2 (k.sn:Int) e) (cE _ (aT.2 ⟨i,S,rfl⟩));rw[go.2 O]at y;cases y
 ·rw[X]at u;exact u.mono λK _ J=>eI rfl K J
theorem F9(b:cZ k){t ta zv e o sq lm:Int}(d:WW k e o sq)(i:k.kd=2)(J1:(0<=ta∧ta<=t∧t<=ta+1∧t<=1000000)∧0<=zv∧zv+20<=lm∧lm<=800000000):oP k (k.OK e o sq lm) (ci k (k.OK e o sq lm) 2) t ta zv e o sq:=by
 have bd:=b.hn;have bb:=b.hS;have bt:=b.Wi;have bs:=b.Wl;have S:=d.X3;obtain⟨P,X,b1⟩:=d.XV i;have a1:=vo b o;have a2:=lJ b o;intro x K lb c W a w y Q R a5 N O E F a6;have aq:({x with lb:=lb,kd:=2}:am)={x with lb:=lb}:=by rw[<-i,<-a.kd]
 have f:({x with lb:=lb}:am).N=(k.n:Int):=a.N;have T:({x with lb:=lb}:am).S=(k.S:Int):=a.S;have V:({x with lb:=lb}:am).sn=(k.sn:Int):=a.sn;have q:({x with lb:=lb}:am).cn=(k.cn:Int):=a.cn;have U:({x with lb:=lb}:am).ou=o:=y;have M:({x with lb:=lb}:am).cb=k.cb:=a.cb;by_cases p:k.oc o=(k.n:Int)-1
 ·have v:ci k (k.OK e o sq lm) 2 (J5 k false t ta zv e o (sq+1)):=(DR b d i ⟨J1.1,yq⟩).succ;have a0:k.R o=[]:=by unfold Be.R cN;rw[aA p]
  have bl:(dq (k.n:Int) (k.cn:Int) (k.oc o)).length=(k.W o).length:=rfl;have an:=sH {x with lb:=lb} c [] k.pb k.B0 (λn=>∃h:am,h.cb=k.cb∧aP n k.B0 k.pb {h with lb:=lb} ⟨k.Ar,(J5 k false t ta zv e o (sq+1)).last,(J5 k false t ta zv e o (sq+1)).A1⟩ (J5 k false t ta zv e o (sq+1)).A1∧(J5 k false t ta zv e o (sq+1)).is k h (J5 k false t ta zv e o (sq+1)).A1 n) (λbg bk ⟨h,l,j,ak⟩ D=>⟨h,l,j.J7 D,HB.Qx zD ak D (λ_ r=>r.elim)⟩)
   ta (by rw[f,T];omega) (by rw[V,T];omega) (by rw[q,f];omega) (by rw[U,f];exact d.ho) (k.oc o) (by rw[f,V,U];rfl) (by rw[f];exact p) (λz L Z BL aR a3 l j a4=>?_) W (by rw[aq];exact E) F
  ·refine an.mono λad n ⟨s,⟨h,u,m,ac⟩,B⟩=>⟨s,⟨h,_,_,u,m,.inl ⟨_,v,rfl,rfl,rfl,rfl,rfl,ac,λa8 a9 I J=>Oo J λ_=>J,λa7 H=>DE H H⟩⟩,by rw[M]at B;exact B⟩
  ·rw[f,q]at l j;obtain⟨gW,aV⟩:∃gW,Z=some ⟨gW,0,none⟩:=by
    rcases j.zq with⟨_,C,_⟩|⟨g,_,C,_⟩
    ·have:(dq (k.n:Int) (k.cn:Int) (k.oc o)).length>0:=a2.2.1;omega
    ·exact⟨g,C⟩
   subst aV;have I:=Ox (t:=t) (ta:=ta) (zv:=zv) b d.toWk P X ⟨S.1,yq⟩ yq yq (x:={x with kd:=2,rd:=yt z (cN ({x with lb:=lb}:am).N ({x with lb:=lb}:am).cn (k.oc o)).length L,wr:=yt (ae gW) (dq ({x with lb:=lb}:am).N ({x with lb:=lb}:am).cn (k.oc o)).length BL}) (lb:=lb) (c:=c) (A:=z) (ca:=L) (gW:=gW) (BL:=BL) (W:=aR) ⟨a.1,a.2,a.3,a.4,i.symm,a.6,a.7,a.8,a.9,a.10⟩ w y ⟨K,Q,R⟩ (by rw[f,q];rfl) l (by rw[f,q];rfl) j (λc G=>by rw[a0]at G;cases G) N O a3 a4;refine I.mono λad n ⟨s,u,m⟩=>⟨s,u,?_⟩;rw[<-M]at m;exact m.mono λY _ r=>eI rfl Y r
 ·have v:ci k (k.OK e o sq lm) 2 (WY k t ta zv e o sq):=IL b i ci.nn d.toWk P X ⟨S.1,yq⟩ ⟨J1.1,yq⟩ p (DR b d i (by
   have l:=mP (k:=k) t ta zv e o sq;have j:(k.R o).length<=6:=by rw[a1];split;omega;split<;>omega
   omega))
  exact vp (g:=k.OK e o sq lm) b d i J1 p v x K lb c W a w y Q R a5 N O E F a6
theorem LO(h:cZ k){t ta zv e o sq lm:Int}(w:WW k e o sq)(l:k.kd=3)(G:o≠-1)(J1:(0<=ta∧ta<=t∧t<=ta+1∧t<=1000000)∧0<=zv∧zv+20<=lm∧lm<=800000000):oP k (k.OK e o sq lm) (ci k (k.OK e o sq lm) 2) t ta zv e o sq:=by
 have bl:=h.hn;have bg:=h.hS;have b3:=h.Wi;have a5:=w.X3;have O:=w.ho;obtain⟨E,a6⟩:=w.YG l G;have x:Rk k e o:=⟨w.toWk,E,yq,a6⟩;have b0:=DO h (o:=o) ⟨x.h0,O.2⟩;have D:=IW (k:=k) t ta zv e o sq;have j:=Tg (k:=k) (e:=e) (o:=o) (sq:=sq) l G;have X:ci k (k.OK e o sq lm) 2 (Ws k t ta zv e o sq):=R8 h ci.nn x ⟨a5.1,yq⟩ ⟨J1.1,yq⟩ (R9 h x ⟨yq,yq⟩ ⟨yq,yq⟩ (Sa (n:=0) h (λ_ d=>d.elim) x ⟨yq,yq⟩ (λa g f u=>⟨by rw[ay yq,j.2];exact f.mono yq,yq⟩) (λA K _ d=>by show k.aR e o sq A K;rw[j.1];exact d) (λJ d=>by
   show Lp k e (if k.kd=3 then -1 else o) J
   rw[aA l];exact d)))
 intro a an b g R c F m a3 a4 b1 a1 a2 Z ac b2;have P:({a with lb:=b,kd:=3}:am)={a with lb:=b}:=by rw[<-l,<-c.kd]
 have p:({a with lb:=b}:am).N=(k.n:Int):=c.N;have Q:({a with lb:=b}:am).S=(k.S:Int):=c.S;have H:({a with lb:=b}:am).sn=(k.sn:Int):=c.sn;have z:({a with lb:=b}:am).ou=o:=m;have a0:({a with lb:=b}:am).cb=k.cb:=c.cb;have a8:∀a a7,n3 k.B0 ((Ws k t ta zv e o sq).T a a7):=λ_ _ _ _ _ d v Y=>⟨d.1,n9.Bw _ _ _ d.2 v Y⟩;have ak:=xo {a with lb:=b} g [] k.pb k.B0 (λy=>∃i:am,i.cb=k.cb∧aP y k.B0 k.pb {i with lb:=b} ⟨k.Ar,(Ws k t ta zv e o sq).last,(Ws k t ta zv e o sq).A1⟩ (Ws k t ta zv e o sq).A1∧(Ws k t ta zv e o sq).is k i (Ws k t ta zv e o sq).A1 y) (λbs bt ⟨i,f,u,W⟩ v=>⟨i,f,u.J7 v,HB.Qx a8 W v (λ_ d=>d.elim)⟩)
  ta (by rw[p,Q];omega) (by rw[H,Q];omega) (by rw[z,p];exact O) (k.oc o) (by rw[p,H,z];rfl) (by rw[z];exact G) (λaq aR aV=>?_) R (by rw[P];exact Z) ac
 ·refine ak.mono λT y ⟨B,⟨i,r,s,C⟩,L⟩=>⟨B,⟨i,_,_,r,s,.inl ⟨_,X,rfl,rfl,rfl,rfl,rfl,C,λA K bk j=>?_,λJ D=>DE D D⟩⟩,by rw[a0]at L;exact L⟩;by_cases f:dM (Ws k t ta zv e o sq).A1 (A:Int)
  ·exact .inl ⟨f,j⟩
  ·refine .inr ⟨f,.inr ⟨λu=>f ?_,j⟩⟩;rw[u];exact p7 (q:=eC (k.sn:Int) e) A4
 ·have E:=vG {a with lb:=b,kd:=3} g [] k.pb k.B0 k.n ta p (by show 3<=a.N∧a.N<=6∧1<=a.S∧a.S<=8;rw[c.N,c.S];omega) (by show 0<=a.sn∧a.sn<a.S;rw[c.sn,c.S];omega) (by show 0<=a.ou∧a.ou<6;rw[m];omega) yq yq z1 aq aR aV;refine E.mono λT y ⟨I,M,B,r,s,C⟩=>⟨B,⟨{a with kd:=3,nx:=.func (.func 80) #[pt k.pb 0] #[],lg:=false,rd:=yt I (ev ({a with lb:=b}:am).N ({a with lb:=b}:am).sn ({a with lb:=b}:am).ou k.n).length M},c.cb,?_,⟨c.1,c.2,c.3,c.4,l.symm,c.6,c.7,c.8,c.9,c.10⟩,rfl,F,m,⟨an,a3,a4⟩,⟨I,M,by rw[p,H,z];rfl,?_⟩,λg ad N=>?_⟩,C.mono λS _ d=>eI rfl S d⟩
  ·have U:fK ({a with lb:=b,kd:=3}:am).N ({a with lb:=b,kd:=3}:am).sn ({a with lb:=b,kd:=3}:am).ep ({a with lb:=b,kd:=3}:am).ou (ev ({a with lb:=b,kd:=3}:am).N ({a with lb:=b,kd:=3}:am).sn ({a with lb:=b,kd:=3}:am).ou k.n)=(Ws k t ta zv e o sq).P:=by
    show fK a.N a.sn a.ep a.ou (ev a.N a.sn a.ou k.n)=_
    rw[c.N,c.sn,F,m];rfl
   rw[U]at r;obtain⟨a9,bb,bd⟩:=g;subst a1 a2;exact r
  ·have V:ev ({a with lb:=b,kd:=3}:am).N ({a with lb:=b,kd:=3}:am).sn ({a with lb:=b,kd:=3}:am).ou k.n=k.C o:=by
    show ev a.N a.sn a.ou k.n=_
    rw[c.N,c.sn,m];rfl
   rw[V]at s;exact s
  ·have f:dM (Ws k t ta zv e o sq).A1 (k.nd g):=p7 (q:=dV 2 (k.sn:Int) e) (cz _ (aT.2 ⟨g,ad,rfl⟩));rw[go.2 f]at N;cases N
theorem Oz(f:cZ k){t ta zv e sq lm:Int}(g:k.kd=3)(J1:(0<=ta∧ta<=t∧t<=ta+1∧t<=1000000)∧0<=zv∧zv+20<=lm∧lm<=800000000):oP k (k.OK e (-1) sq lm) (ci k (k.OK e (-1) sq lm) 2) t ta zv e (-1) sq:=by
 have O:=f.hn;have N:=f.hS;have U:=f.Wi;have R:=f.Yk;have l:=IY (k:=k) (e:=e) (o:=-1) (sq:=sq) yq (λd=>d.2 rfl);intro a C b h p c S H G I Q E F z A T;have B:({a with lb:=b,kd:=3,ou:=-1}:am)={a with lb:=b}:=by rw[<-g,<-c.kd,<-H]
 have J:({a with lb:=b}:am).N=(k.n:Int):=c.N;have n:({a with lb:=b}:am).S=(k.S:Int):=c.S;have L:({a with lb:=b}:am).sn=(k.sn:Int):=c.sn;have K:({a with lb:=b}:am).ed=k.ed:=c.ed;have m:({a with lb:=b}:am).cb=k.cb:=c.cb;have j:=zI {a with lb:=b} h [] k.pb k.B0 ta (by rw[J,n];omega) (by rw[L,n];omega) (by rw[K];omega) p (by rw[B];exact z) A;have D:({h with zL:=[]}:CM)=⟨k.Ar,zv,[]⟩:=by rw[<-E,<-F]
 rw[D]at j;refine j.mono λM P ⟨w,x,y,i⟩=>⟨w,⟨({a with lb:=b}:am).ended 0 ⟨#[]⟩,_,_,c.cb,x,.inr ⟨g,rfl,rfl,rfl,λq=>by rw[<-m];exact y q,⟨?_,by show zv<=lm;omega⟩,λs u _ d=>by show k.aR e (-1) sq s u;rw[l.1];exact d,λr d=>?_⟩⟩,?_⟩
 ·rw[ay yq,l.2];exact(c.fin (t:=1000000) (λ_ _=>rfl) ⟨C,G,I⟩).mono yq
 ·show Lp k e (if k.kd=3 then -1 else(-1)) r
  rw[aA g];exact d
 ·rw[m]at i;exact i.mono λv _ d=>eI rfl v d
theorem IZ(c:cZ k){t ta zv e o sq lm:Int}(b:WW k e o sq)(J1:(0<=ta∧ta<=t∧t<=ta+1∧t<=1000000)∧0<=zv∧zv+20<=lm∧lm<=800000000):oP k (k.OK e o sq lm) (ci k (k.OK e o sq lm) 2) t ta zv e o sq:=by
 rcases b.Y4 with a|a|a
 ·exact LN c b a J1
 ·exact F9 c b a J1
 ·by_cases d:o=-1
  ·subst d;exact Oz c a J1
  ·exact LO c b a d J1
section
variable (x:am)(pb:Nat)(w:World)(at_:Int)
def oY:av:=[i6 3,i6 at_,sT ⟨#[]⟩,i6 at_,i6 0,.nilFunc,bO_ false,i6 0,i6 0,i6 (-1),bO_ false,i6 0,i6 0,z7,z7,bO_ false,z7,z7]++rp 6 (sT ⟨#[]⟩)++[.pointer none]
def OX:av:=[i6 0,i6 0,sT ⟨#[]⟩,i6 0,i6 0,.nilFunc,bO_ false]++rp 3 (i6 0)++[bO_ false,i6 0,i6 0,z7,z7,bO_ false,z7,z7]++rp 6 (sT ⟨#[]⟩)++[.pointer none]
def mY:aH:=[1,1,0,0,1,0,1,0]
@[simp] def Am:ax:=[⟨pb,98,false,am.cells x⟩,⟨w.z,38,true,[i6 3,i6 at_,sT ⟨#[]⟩]⟩,⟨w.z+1,96,true,OX⟩,⟨w.z+2,96,true,oY at_⟩]
@[simp] def An:ax:=[⟨pb,98,false,am.cells x⟩,⟨w.z,38,true,[i6 3,i6 at_,sT ⟨#[]⟩]⟩,⟨w.z+1,96,true,oY at_⟩,⟨w.z+2,96,true,oY at_⟩]
def Jb:bu:=[(0,pt pb 0),(3,pt w.z 0),(4,pt (w.z+1) 0),(5,bO_ false),(6,pt (w.z+2) 0)]
def Ao:List (Option Value):=[some (aE (oY at_)),some (pt w.z 2),some (sT ⟨#[]⟩),some (bO_ (ByteArray.toList ⟨#[]⟩==ByteArray.toList ⟨#[]⟩)),some (bO_ (ByteArray.toList ⟨#[]⟩==ByteArray.toList ⟨#[]⟩)),some (pt w.z 1),some (i6 at_),some (bO_ (decide ((at_:Int)>=0))),some (bO_ (decide ((at_:Int)>=0))),some (bO_ (decide ((at_:Int)>=0))),some (pt w.z 1),some (i6 at_),some (pt pb 0),some (pt pb 0),some (pt pb 0),some (pt pb 1),some (i6 x.S),some (bO_ (decide ((at_:Int)<x.S))),some (bO_ (decide ((at_:Int)<x.S))),some (.tuple #[]),some (bO_ (decide ((at_:Int)<x.S)))]
def Jc:List (ax):=[Am x pb w at_,An x pb w at_]
def Jd:List (bi):=[none,none,none,none,none,none,none,none,none,none,none,none,none,none,none,none,none,none,none,some 0,none]
theorem LW:∀a,opG prog (aj (aa (al f30) mY)) ⟨slG (aj (aa (al f30) mY)) (Ao x pb w at_) (J3 (aj (aa (al f30) mY)) (Jb pb w) 19) (aM (aj (aa (al f30) mY)) 19),Am x pb w at_,[],a⟩ 19 (oA 2 0 25)=some ([],aX [(w.z+1,0,25)],undef,An x pb w at_,a):=λa=>v7
def Je(a:Nat):Prop:=eQ (wpOp prog (aj (aa (al f30) mY)) (sem prog (al f30) (bodyPost prog f30 (bf (.tuple #[aE (oY at_),bO_ true]) w)) [y6 459,.zq 0,y6 15])) [] 75 (aj (aa (al f30) mY)) (J3 (aj (aa (al f30) mY)) (Jb pb w) a) (Jd) 1 (MG w z8 (Jc x pb w at_) [] (w.z+3)) (ao (Am x pb w at_)) (PvG (Ao x pb w at_) (λ_ _ _=>False)) a
end
theorem p9(x:am)(a:Nat)(at_:Int)  (o:0<=at_∧at_<x.S) (w:World) (h:A2 w a 98 (am.cells x)):aC 30 #[pt a 0,.agg #[i6 3,i6 at_,sT ⟨#[]⟩]] w (bf (.tuple #[.agg #[i6 3,i6 at_,sT ⟨#[]⟩,i6 at_,i6 0,.nilFunc,bO_ false,i6 0,i6 0,i6 (-1),bO_ false,i6 0,i6 0,z7,z7,bO_ false,z7,z7,sT ⟨#[]⟩,sT ⟨#[]⟩,sT ⟨#[]⟩,sT ⟨#[]⟩,sT ⟨#[]⟩,sT ⟨#[]⟩,.pointer none],bO_ true]) w):=by
 refine cH (S:=z8) (n:=75) func30 (ab.start (bk:=[⟨a,98,false,am.cells x⟩]) (wn:=[]) (λe b=>by obtain rfl:=aG.1 b;exact h) (λe b _=>by obtain rfl:=aG.1 b;cases ‹_›) z1 z1) ?_;refine Aq 34 (dz 16 0x1033800101180100010018019003800030018000) [0,3,4,5,6] [tT] [(w.z,0,3),(w.z+2,0,25),(w.z,0,1),(w.z,1,1),(w.z+2,3,1)] [.code mY,y6 459,.zq 0,y6 15] ⟨[(0,pt a 0),(3,pt w.z 0),(4,pt (w.z+1) 0),(5,bO_ false),(6,pt (w.z+2) 0)],Am x a w at_,[],w.z+3⟩ ?_;have k:Je x a w at_ 19:=cu (s:=0) (v:=undef) v7 v7 v7 v7 v7 (LW x a w at_) trivial;have j:∀g∈(WU [1,3,4,9,20]++[⟨0,oA 3 0 25,[],[(w.z+2,0,25)]⟩,rG 2 1 2 1 w.z,⟨5,FN,[oE ((ByteArray.toList ⟨#[]⟩==ByteArray.toList ⟨#[]⟩)=true) (iS _)],[]⟩,⟨6,⟨true,0,[⟨false,1,1,1⟩]⟩,[oE ((ByteArray.toList ⟨#[]⟩==ByteArray.toList ⟨#[]⟩)=true) (iS _)],[(w.z,1,1)]⟩,⟨7,FN,[oE ((ByteArray.toList ⟨#[]⟩==ByteArray.toList ⟨#[]⟩)=true) (iS _)],[]⟩,⟨8,WG,[oE ((ByteArray.toList ⟨#[]⟩==ByteArray.toList ⟨#[]⟩)=true) (iS _)],[]⟩,⟨10,FN,[dT ((at_:Int)>=0)],[]⟩,⟨11,⟨true,0,[⟨false,1,1,1⟩]⟩,[dT ((at_:Int)>=0)],[(w.z,1,1)]⟩,⟨12,FN,[dT ((at_:Int)>=0)],[]⟩,⟨13,FN,[dT ((at_:Int)>=0)],[]⟩,⟨14,FN,[dT ((at_:Int)>=0)],[]⟩,⟨15,FN,[dT ((at_:Int)>=0)],[]⟩,⟨16,⟨true,0,[⟨false,0,1,1⟩]⟩,[dT ((at_:Int)>=0)],[(a,1,1)]⟩,⟨17,FN,[dT ((at_:Int)>=0)],[]⟩,⟨18,WG,[dT ((at_:Int)>=0)],[]⟩]:List jU),Je x a w at_ g.i:=dP v7 _ (λl=>v7);refine dO (vs:=Ao x a w at_) (ms:=Jc x a w at_) (Dt:=Jd) (J:=1) (V9:=[(4,pt (w.z+1) 0),(5,bO_ (decide ((at_:Int)<x.S))),(6,pt (w.z+2) 0)]) (Ex:=An x a w at_) (λ_ _ _=>False) [4,5,6] v7 v7 v7 (λ_ _ _ _ f=>f.elim) (dW j [19] ⟨k,tI⟩ v7) v7 v7 v7 (λc d=>?_);replace d:w.z+3<=c:=d;refine z6 3 [] [4,5,6] [] [] [y6 459,.zq 0,y6 15] (An x a w at_) [] c ?_;refine B1 [[⟨false,2,0,25⟩]] [aE (oY at_),bO_ (decide ((at_:Int)<x.S))] [(w.z+1,0,25)] ?_;intro m i;exact⟨by rw[show decide (at_<x.S)=true from dc yq];rfl,i.x2⟩
section
variable (x:am)(pb:Nat)(w:World)(at_:Int)(da:ByteArray)(a:Int)(g:Nat)
def jP:av:=[i6 (at_/(x.N-1)),i6 (at_%(x.N-1)),i6 ((at_%(x.N-1)+at_/(x.N-1))%x.N)]
def vY:av:=OX
def Ap:av:=((((oY at_).set 0 (i6 a)).set 2 (sT da)).set 3 (i6 0))
def ro:av:=(((Ap at_ da a).set 3 (i6 (at_/(x.N-1)))).set 4 (i6 (at_%(x.N-1))))
def Ur:av:=((ro x at_ da a).set 4 (i6 0))
def As:aH:=[1,1,0,0,1,1,1,0,0]
def jh:aH:=[1,1,0,0,1,1,1,0,1,0]
def vZ:aH:=[1,1,0,0,1,1,1,0,1]
@[simp] def At:ax:=[⟨pb,98,false,am.cells x⟩,⟨w.z,38,true,[i6 a,i6 at_,sT da]⟩,⟨w.z+1,96,true,vY⟩,⟨w.z+2,96,true,Ap at_ da a⟩]
@[simp] def OY(d:bi):ax:=[⟨pb,98,false,am.cells x⟩,⟨w.z,38,true,[i6 a,i6 at_,sT da]⟩,⟨w.z+1,96,true,vY⟩,⟨w.z+2,96,true,Ap at_ da a⟩,⟨d.getD 0,126,true,jP x at_⟩]
@[simp] def mZ:ax:=[⟨pb,98,false,am.cells x⟩,⟨w.z,38,true,[i6 a,i6 at_,sT da]⟩,⟨w.z+1,96,true,vY⟩,⟨w.z+2,96,true,Ap at_ da a⟩,⟨g,126,true,jP x at_⟩]
@[simp] def Gm:ax:=[⟨pb,98,false,am.cells x⟩,⟨w.z,38,true,[i6 a,i6 at_,sT da]⟩,⟨w.z+1,96,true,vY⟩,⟨w.z+2,96,true,Ur x at_ da a⟩,⟨g,126,true,jP x at_⟩]
@[simp] def Gn:ax:=[⟨pb,98,false,am.cells x⟩,⟨w.z,38,true,[i6 a,i6 at_,sT da]⟩,⟨w.z+1,96,true,vY⟩,⟨w.z+2,96,true,ro x at_ da a⟩,⟨g,126,true,jP x at_⟩]
def OZ:Exit->Act->aI:=bodyPost prog f30 (bf (.tuple #[aE (ro x at_ da a),bO_ true]) w)
def Ss:bu:=[(0,pt pb 0),(3,pt w.z 0),(4,pt (w.z+1) 0),(5,bO_ false),(6,pt (w.z+2) 0)]
def Jf(d:bi):List (Option Value):=[some (pt pb 0),some (pt pb 0),some (pt pb 0),some (.agg #[i6 x.N,i6 x.S]),some (pt w.z 1),some (i6 at_),some (.tuple #[aE (jP x at_),i6 0]),some (.tuple #[aE (jP x at_),i6 0]),some (aE (jP x at_)),some (i6 0),some (pt (d.getD 0) 0),some (.tuple #[]),some (i6 0)]
def Jg(d:bi)(k:Nat):Bool:=(fL 13 [(10,d.isSome)])[k]?.getD true
def Au(d:bi):List (ax):=[At x pb w at_ da a,OY x pb w at_ da a d]
abbrev Av(w:World)(c:Nat)(d:bi)(b:World):Prop:=match c with|0=>(True)∧(∀a,d=some a->(w.z+3)<=a∧A2 b a 126 [i6 0,i6 0,i6 0])|1=>(w.z+3<=d.getD 0)∧True|_=>True
def qh(b:Nat):Prop:=cY prog f30 As 75 [] (OZ x w at_ da a) [.code vZ,.zq 0,y6 15] (Ss pb w) (V7 13 [11]) 1 (Jf x pb w at_) Jg w z8 (Au x pb w at_ da a) (w.z+3) (Av w) b
def Aw:bu:=[(4,pt (w.z+1) 0),(5,bO_ false),(6,pt (w.z+2) 0),(7,pt g 0),(8,i6 0)]
def tv:List (Option Value):=[some (pt g 0),some (i6 (at_/(x.N-1))),some (pt g 1),some (i6 (at_%(x.N-1))),some (pt (w.z+2) 3),some (.tuple #[]),some (pt (w.z+2) 4),some (.tuple #[])]
def Jh:List (ax):=[mZ x pb w at_ da a g,Gm x pb w at_ da a g,Gn x pb w at_ da a g]
def Ji:List (bi):=[none,none,none,none,none,some 0,none,some 1]
theorem O1:∀b,opG prog (aj (aa (al f30) jh)) ⟨slG (aj (aa (al f30) jh)) (tv x w at_ g) (J3 (aj (aa (al f30) jh)) (Aw w g) 5) (aM (aj (aa (al f30) jh)) 5),mZ x pb w at_ da a g,[],b⟩ 5 (oA 3 3 1)=some ([],aX [(w.z+2,3,1)],undef,Gm x pb w at_ da a g,b):=λb=>v7
theorem O2:∀b,opG prog (aj (aa (al f30) jh)) ⟨slG (aj (aa (al f30) jh)) (tv x w at_ g) (J3 (aj (aa (al f30) jh)) (Aw w g) 7) (aM (aj (aa (al f30) jh)) 7),Gm x pb w at_ da a g,[],b⟩ 7 (oA 3 4 1)=some ([],aX [(w.z+2,4,1)],undef,Gn x pb w at_ da a g,b):=λb=>v7
def Ay(b:World)(at_:Int)(da:ByteArray)(a:Int)(g:Nat)(c:Nat):Prop:=eQ (wpOp prog (aj (aa (al f30) jh)) (sem prog (al f30) (OZ x w at_ da a) [y6 1851,.zq 0,y6 15])) [] 75 (aj (aa (al f30) jh)) (J3 (aj (aa (al f30) jh)) (Aw w g) c) (Ji) 2 (MG b (ao (mZ x pb w at_ da a g)) (Jh x pb w at_ da a g) [] b.z) (ao (mZ x pb w at_ da a g)) (PvG (tv x w at_ g) (λ_ _ _=>False)) c
end
theorem sr(x:am)(b:Nat)(at_:Int)(a:Int)(da:ByteArray)(aq:(a=1∧da=⟨#[]⟩)∨(a=2∧da.size=16))(X:3<=x.N∧x.N<=6∧1<=x.S∧x.S<=8)(an:0<=at_∧at_<x.S*(x.N-1))(w:World)(W:A2 w b 98 (am.cells x)):aC 30 #[pt b 0,.agg #[i6 a,i6 at_,sT da]] w (bf (.tuple #[.agg #[i6 a,i6 at_,sT da,i6 (at_/(x.N-1)),i6 (at_%(x.N-1)),.nilFunc,bO_ false,i6 0,i6 0,i6 (-1),bO_ false,i6 0,i6 0,z7,z7,bO_ false,z7,z7,sT ⟨#[]⟩,sT ⟨#[]⟩,sT ⟨#[]⟩,sT ⟨#[]⟩,sT ⟨#[]⟩,sT ⟨#[]⟩,.pointer none],bO_ true]) w):=by
 refine cH (S:=z8) (n:=75) func30 (ab.start (bk:=[⟨b,98,false,am.cells x⟩]) (wn:=[]) (λy d=>by obtain rfl:=aG.1 d;exact W) (λy d _=>by obtain rfl:=aG.1 d;cases ‹_›) z1 z1) ?_;suffices K:aF [] prog (al f30) 75 w z8 (OZ x w at_ da a) [.code As,.code vZ,.zq 0,y6 15] ⟨[(0,pt b 0),(3,pt w.z 0),(4,pt (w.z+1) 0),(5,bO_ false),(6,pt (w.z+2) 0)],At x b w at_ da a,[],w.z+3⟩by
  rcases aq with⟨o,G⟩|⟨o,G⟩
  ·skip;refine Aq 43 (dz 23 0x110310102191000100180000010018019003800030018000) [0,3,4,5,6] ([oE ((a==3)=false) (by rw[o];decide)]++rE 4 (oE ((a==1)=true) (by rw[o];decide))++rE 2 (oE ((ByteArray.toList da==ByteArray.toList ⟨#[]⟩)=true) (by rw[G];exact iS _))) [(w.z,0,3),(w.z+2,0,25),(w.z,0,1),(w.z,0,1),(w.z,2,1)] [.code As,.code vZ,.zq 0,y6 15] ⟨[(0,pt b 0),(3,pt w.z 0),(4,pt (w.z+1) 0),(5,bO_ false),(6,pt (w.z+2) 0)],At x b w at_ da a,[],w.z+3⟩ ?_;exact K
  ·skip;refine Aq 54 (dz 33 0x103110102191000100180004000000100180000010018019003800030018000) [0,3,4,5,6] ([oE ((a==3)=false) (by rw[o];decide)]++rE 4 (oE ((a==1)=false) (by rw[o];decide))++[fF]++rE 5 (oE ((a==2)=true) (by rw[o];decide))++[oE (((da.size:Int)==16)=true) (by rw[G];rfl)]) [(w.z,0,3),(w.z+2,0,25),(w.z,0,1),(w.z,0,1),(w.z,0,1),(w.z,2,1)] [.code As,.code vZ,.zq 0,y6 15] ⟨[(0,pt b 0),(3,pt w.z 0),(4,pt (w.z+1) 0),(5,bO_ false),(6,pt (w.z+2) 0)],At x b w at_ da a,[],w.z+3⟩ ?_;exact K
 have I:eh w z8 (Au x b w at_ da a) (Av w):=by
  intro p c q A bk d m e F
  match p,d,e with
  |0,d,e=>
   obtain rfl:=ap d;refine⟨trivial,λj u=>⟨(e.2 j u).1,(e.2 j u).2.x2 F (λ⟨y,d,Y,E⟩=>?_)⟩⟩;have a9:=(e.2 j u).1;simp at d;rcases d with rfl|rfl|rfl|rfl
   ·cases Y
   ·dsimp only at E;omega
   ·dsimp only at E;omega
   ·dsimp only at E;omega
  |1,d,e=>
   obtain rfl:=ap d;exact⟨e.1,trivial⟩
  |p+2,d,e=>exact trivial
 have a6:qh x b w at_ da a 6:=eO (B:=1) (f:=45) (args:=λc=>[.agg #[i6 x.N,i6 x.S],i6 at_]) (ob:=λc=>[]) (λc=>.tuple #[aE (jP x at_),i6 0]) v7 (.inl rfl) (λc=>v7) (λc=>v7) (λc=>v7) (λc=>trivial) (λp c q bk bb d m e=>Su x.N x.S at_ X an q) I;have a7:qh x b w at_ da a 10:=W1 0 126 [i6 0,i6 0,i6 0] (λ_ g=>some g) (λg=>pt g 0) (λp c q A bk C d m e F Z ak=>by
  have z:=I p c q A bk d m e F
  match p,d,e,z,C with
  |0,d,e,z,C=>exact⟨z.1,(λj u=>by obtain rfl:=ap u;exact⟨Z,ak⟩)⟩
  |p+1,d,e,z,C=>exact absurd C yq)
 have a8:qh x b w at_ da a 11:=V8 (s:=0) (x:=λc=>Instr.storeAt 126 (pt (c.getD 0) 0) (aE (jP x at_))) (λ(c:bi)(_:Unit)=>c) (λc q bk d m e a0=>by
  obtain rfl:=ap d;obtain⟨j,rfl⟩:∃j,c=some j:=cV.1 (a0 10 (aS (i:=0) v7) (d9 (k:=7) v7));obtain⟨aR,N⟩:=e.2 j rfl;obtain⟨A,U,ad,o,Q⟩:=cG (P:=prog) (t:=126) (v:=aE (jP x at_)) v7 N rfl (by show 0+3<=3;omega) (aU rfl) rfl;refine⟨(),A,U,rfl,⟨aR,trivial⟩,m.Wc (g:=j) o ad yq (λy d T=>?_),bC Q.symm⟩;have V:=aw (m.zq y d);simp at d;rcases d with rfl|rfl|rfl|rfl<;>exact eo (aw N) T V rfl)
 have a3:∀D∈(f5 1 [0,1,2,4,7,8,9,12]++[rY 3 1 0 0 2 b,rY 5 1 1 1 1 w.z]:List (fG (bi))),qh x b w at_ da a D.i:=bp _ I (λc=>v7) v7 (λc ac=>v7);have a2:∀L,L<13->qh x b w at_ da a L:=f6 (l:=[6,10,11]) v7 a3 ⟨a6,a7,a8,trivial⟩;refine bD (Δ:=bi) z8 (Jf x b w at_) Jg (Au x b w at_ da a) (Av w) [4,5,6,7,8] (λc=>[(4,pt (w.z+1) 0),(5,bO_ false),(6,pt (w.z+2) 0),(7,pt (c.getD 0) 0),(8,i6 0)]) (λc=>OY x b w at_ da a c) none (λ_ r=>r) v7 v7 v7 (λq m=>⟨tI,λ_ r=>by cases r⟩) v7 a2 (λc=>v7) (λc=>v7) (λc h aV O Q H=>?_);obtain⟨g,rfl⟩:∃g,c=some g:=cV.1 (aV 10 (Nat.le_of_ble_eq_true v7) (d9 (k:=7) v7));replace O:w.z+3<=g:=O.1;replace H:ab w z8 (mZ x b w at_ da a g) [] h.z h:=H;change aF _ _ _ _ h (ao (mZ x b w at_ da a g)) _ [.code vZ,.zq 0,y6 15] ⟨[(4,pt (w.z+1) 0),(5,bO_ false),(6,pt (w.z+2) 0),(7,pt g 0),(8,i6 0)],mZ x b w at_ da a g,[],h.z⟩;refine Aq 4 [] [4,5,6,7,8] [] [] [.code jh,y6 1851,.zq 0,y6 15] ⟨[(4,pt (w.z+1) 0),(5,bO_ false),(6,pt (w.z+2) 0),(7,pt g 0),(8,i6 0)],mZ x b w at_ da a g,[],h.z⟩ ?_;have a4:Ay x b w h at_ da a g 5:=cu (s:=0) (v:=undef) v7 v7 v7 v7 v7 (O1 x b w at_ da a g) trivial;have a5:Ay x b w h at_ da a g 7:=cu (s:=1) (v:=undef) v7 v7 v7 v7 v7 (O2 x b w at_ da a g) trivial;have a1:∀D∈(WU [0,2,4,6]++[rG 1 4 0 1 g,rG 3 4 1 1 g]:List jU),Ay x b w h at_ da a g D.i:=dP v7 _ (λac=>v7);refine dO (vs:=tv x w at_ g) (ms:=Jh x b w at_ da a g) (Dt:=Ji) (J:=2) (V9:=[(4,pt (w.z+1) 0),(5,bO_ false),(6,pt (w.z+2) 0),(8,i6 0)]) (Ex:=Gn x b w at_ da a g) (λ_ _ _=>False) [4,5,6,8] v7 v7 v7 (λ_ _ _ _ r=>r.elim) (dW a1 [5,7] ⟨a4,a5,tI⟩ v7) v7 v7 v7 (λM R=>?_);replace R:h.z<=M:=R;refine z6 11 (dz 5 0x19002800190038) [4,5,6] [] [(w.z+2,0,25),(w.z+1,0,25)] [y6 3703,.zq 0,y6 15] [⟨b,98,false,am.cells x⟩,⟨w.z,38,true,[i6 a,i6 at_,sT da]⟩,⟨w.z+1,96,true,ro x at_ da a⟩,⟨w.z+2,96,true,ro x at_ da a⟩,⟨g,126,true,jP x at_⟩] [] M ?_;refine B1 [[⟨false,2,0,25⟩]] [aE (ro x at_ da a),bO_ true] [(w.z+1,0,25)] ?_;intro q m;exact⟨rfl,(ab.A0 H m).x2⟩
section
variable (x:am)(c:CM)(pb v8:Nat)(ya:Int)(w h:World)(v:Value)(L:List ar)(at_:Int)(da:ByteArray)(a sn e:Int)(g:Nat)(f:aI)(b:Nat)(_:Unit)(k:Nat)
def gJ:av:=[i6 a,i6 at_,sT da,i6 sn,i6 e,.nilFunc,bO_ false,i6 0,i6 0,i6 (-1),bO_ false,i6 0,i6 0,z7,z7,bO_ false,z7,z7]++rp 6 (sT ⟨#[]⟩)++[.pointer none]
def jk:av:=[bO_ ((x.lv (Int.toNat sn)).has),i6 ((x.lv (Int.toNat sn)).ep),i6 ((x.lv (Int.toNat sn)).ou),i6 ((x.lv (Int.toNat sn)).sq),i6 ((x.lv (Int.toNat sn)).sc)]
def Gp:aH:=[1,1,1,1,1,1,1,0,1,0,1]
def wb:aH:=[1,1,1,1,1,1,1,1,0]
def rq:aH:=[1,1,1,1,1,1,1,1,1]
def wc:aH:=[1,1,1,1,1,1,1,1]
@[simp] def rt:ax:=[bh pb {x with busy:=false,ak:=v},⟨w.z,38,false,[i6 a,i6 at_,sT da]⟩,⟨b,96,false,gJ at_ da a sn e⟩]
@[simp] def jQ:ax:=[bh pb {x with busy:=true,kd:=a,at_:=at_,da:=da,sn:=sn,cn:=e,nx:=.nilFunc,lg:=false,en:=0,ep:=0,ou:=-1,db:=false,te:=0,ts:=0,kn:=z7,rc:=z7,Wh:=false,rd:=z7,wr:=z7,bl:=WC,ud:=.pointer none,ak:=v},⟨w.z,38,false,[i6 a,i6 at_,sT da]⟩,⟨b,96,false,gJ at_ da a sn e⟩]
@[simp] def gt:ax:=[bh pb {x with busy:=true,kd:=a,at_:=at_,da:=da,sn:=sn,cn:=e,nx:=.nilFunc,lg:=false,en:=0,ep:=0,ou:=-1,db:=false,te:=0,ts:=0,kn:=z7,rc:=z7,Wh:=false,rd:=z7,wr:=z7,bl:=WC,ud:=.pointer none,ak:=v},⟨w.z,38,false,[i6 a,i6 at_,sT da]⟩,⟨b,96,false,gJ at_ da a sn e⟩,⟨g,88,true,jk x sn⟩]
@[simp] def ru:ax:=[bh pb {x with busy:=true,kd:=a,at_:=at_,da:=da,sn:=sn,cn:=e,nx:=.nilFunc,lg:=false,en:=0,ep:=(x.lv (Int.toNat sn)).ep,ou:=(x.lv (Int.toNat sn)).ou,db:=false,te:=0,ts:=0,kn:=z7,rc:=z7,Wh:=false,rd:=z7,wr:=z7,bl:=WC,ud:=.pointer none,ak:=v},⟨w.z,38,false,[i6 a,i6 at_,sT da]⟩,⟨b,96,false,gJ at_ da a sn e⟩,⟨g,88,true,jk x sn⟩]
@[simp] def rv:ax:=[bh pb {x with lv:=Wo x.lv (Int.toNat sn) zJ,busy:=true,kd:=a,at_:=at_,da:=da,sn:=sn,cn:=e,nx:=.nilFunc,lg:=false,en:=0,ep:=0,ou:=-1,db:=false,te:=0,ts:=0,kn:=z7,rc:=z7,Wh:=false,rd:=z7,wr:=z7,bl:=WC,ud:=.pointer none,ak:=v},⟨w.z,38,false,[i6 a,i6 at_,sT da]⟩,⟨b,96,false,gJ at_ da a sn e⟩,⟨g,88,true,jk x sn⟩]
@[simp] def O3:ax:=[bh pb {x with busy:=false,ak:=v},⟨w.z,38,true,[i6 a,i6 at_,sT da]⟩,⟨b,96,true,gJ at_ da a sn e⟩]
def D3:Exit->Act->aI:=bodyPost prog f14 (λb a=>b=.returned (i6 0)∧f a∧au (be [141,178] v8 x.lb pb x.cb w) w a)
def Sv:bu:=[(0,pt pb 0),(1,i6 (af ya)),(5,pt w.z 0),(6,i6 0),(7,pt b 0)]
def Jj(_:Unit):List (Option Value):=[some (pt pb 0),some (pt pb 0),some (aE (gJ at_ da a sn e)),some (pt pb 0),some (pt pb 43),some (.tuple #[]),some (pt pb 0),some (pt pb 44),some (.tuple #[])]
def Jk(_:Unit)(k:Nat):Bool:=(fL 9 [])[k]?.getD true
def Az(_:Unit):List (ax):=[rt x pb w v at_ da a sn e b,[bh pb {x with busy:=true,ak:=v},⟨w.z,38,false,[i6 a,i6 at_,sT da]⟩,⟨b,96,false,gJ at_ da a sn e⟩],jQ x pb w v at_ da a sn e b]
abbrev AA(x:am)(c:CM)(v8:Nat)(v:Value)(L:List ar)(b:Nat)(_:Unit)(a:World):Prop:=match b with|0=>bq a v8 x.lb x.cb c L v|1=>bq a v8 x.lb x.cb c L v|2=>bq a v8 x.lb x.cb c L v|_=>True
def tw(d:World)(v:Value)(L:List ar)(at_:Int)(da:ByteArray)(a:Int)(sn:Int)(e:Int)(f:aI)(b:Nat)(h:Nat):Prop:=cY prog f14 [1,1,1,1,1,0] 77 [] (D3 x pb v8 w f) [y6 127] (Sv pb ya w b) (V7 9 [5,8]) 2 (Jj pb at_ da a sn e) Jk d (λg=>(ao (rt x pb w v at_ da a sn e b)) g∨(be [141,178] v8 x.lb pb x.cb d) g) (Az x pb w v at_ da a sn e b) d.z (AA x c v8 v L) h
def Sw:bu:=[(0,pt pb 0),(1,i6 (af ya)),(5,pt w.z 0),(6,i6 0),(7,pt b 0)]
def Jl(d:bi):List (Option Value):=[some (pt pb 0),some (pt b 3),some (i6 sn),some (pt pb 0),some (pt pb 3),some (pt pb (3+(Int.toNat sn)*5)),some (aE (jk x sn)),some (pt (d.getD 0) 0),some (.tuple #[])]
def Jm(d:bi)(k:Nat):Bool:=(fL 9 [(7,d.isSome)])[k]?.getD true
def AB(d:bi):List (ax):=[jQ x pb w v at_ da a sn e b,jQ x pb w v at_ da a sn e b,[bh pb {x with busy:=true,kd:=a,at_:=at_,da:=da,sn:=sn,cn:=e,nx:=.nilFunc,lg:=false,en:=0,ep:=0,ou:=-1,db:=false,te:=0,ts:=0,kn:=z7,rc:=z7,Wh:=false,rd:=z7,wr:=z7,bl:=WC,ud:=.pointer none,ak:=v},⟨w.z,38,false,[i6 a,i6 at_,sT da]⟩,⟨b,96,false,gJ at_ da a sn e⟩,⟨d.getD 0,88,true,jk x sn⟩]]
abbrev AC(x:am)(c:CM)(v8:Nat)(e:World)(v:Value)(L:List ar)(f:Nat)(d:bi)(b:World):Prop:=match f with|0=>(bq b v8 x.lb x.cb c L v)∧(∀a,d=some a->e.z<=a∧A2 b a 88 [.bool false,i6 0,i6 0,i6 0,i6 0])|1=>(bq b v8 x.lb x.cb c L v)∧(∀a,d=some a->e.z<=a∧A2 b a 88 [.bool false,i6 0,i6 0,i6 0,i6 0])|2=>((bq b v8 x.lb x.cb c L v)∧e.z<=d.getD 0)∧True|_=>True
def qi(d:World)(v:Value)(L:List ar)(at_:Int)(da:ByteArray)(a:Int)(sn:Int)(e:Int)(f:aI)(b:Nat)(h:Nat):Prop:=cY prog f14 [1,1,1,1,1,1,0] 77 [] (D3 x pb v8 w f) [y6 255] (Sw pb ya w b) (V7 9 [6,8]) 2 (Jl x pb sn b) Jm d (λg=>(ao (jQ x pb w v at_ da a sn e b)) g∨(be [141,178] v8 x.lb pb x.cb d) g) (AB x pb w v at_ da a sn e b) d.z (AC x c v8 d v L) h
def O4:bu:=[(0,pt pb 0),(1,i6 (af ya)),(6,i6 0),(7,pt b 0),(9,pt g 0)]
def D4(_:Unit):List (Option Value):=[some (pt pb 0),some (pt pb 0),some (pt g 1),some (i6 ((x.lv (Int.toNat sn)).ep)),some (pt g 2),some (i6 ((x.lv (Int.toNat sn)).ou)),some (pt pb 0),some (pt pb 44),some (pt pb 52),some (.tuple #[]),some (pt pb 0),some (pt pb 44),some (pt pb 53),some (.tuple #[])]
def D5(_:Unit)(k:Nat):Bool:=(fL 14 [])[k]?.getD true
def wd(_:Unit):List (ax):=[gt x pb w v at_ da a sn e g b,[bh pb {x with busy:=true,kd:=a,at_:=at_,da:=da,sn:=sn,cn:=e,nx:=.nilFunc,lg:=false,en:=0,ep:=(x.lv (Int.toNat sn)).ep,ou:=-1,db:=false,te:=0,ts:=0,kn:=z7,rc:=z7,Wh:=false,rd:=z7,wr:=z7,bl:=WC,ud:=.pointer none,ak:=v},⟨w.z,38,false,[i6 a,i6 at_,sT da]⟩,⟨b,96,false,gJ at_ da a sn e⟩,⟨g,88,true,jk x sn⟩],ru x pb w v at_ da a sn e g b]
abbrev we(x:am)(c:CM)(v8:Nat)(v:Value)(L:List ar)(b:Nat)(_:Unit)(a:World):Prop:=match b with|0=>bq a v8 x.lb x.cb c L v|1=>bq a v8 x.lb x.cb c L v|2=>bq a v8 x.lb x.cb c L v|_=>True
def qj(i:Nat):Prop:=cY prog f14 [1,1,1,1,1,1,1,0,1,0,0] 77 [] (D3 x pb v8 w f) [.code Gp,.code wc] (O4 pb ya g b) (V7 14 [9,13]) 2 (D4 x pb sn g) D5 h (λd=>(ao (gt x pb w v at_ da a sn e g b)) d∨(be [141,178] v8 x.lb pb x.cb h) d) (wd x pb w v at_ da a sn e g b) h.z (we x c v8 v L) i
def O5:bu:=[(0,pt pb 0),(1,i6 (af ya)),(6,i6 0),(7,pt b 0)]
def D6(_:Unit):List (Option Value):=[some (pt pb 0),some (pt b 3),some (i6 sn),some (.agg #[bO_ false,i6 0,i6 0,i6 0,i6 0]),some (pt pb 0),some (pt pb 3),some (pt pb (3+(Int.toNat sn)*5)),some (.tuple #[])]
def D7(_:Unit)(k:Nat):Bool:=(fL 8 [])[k]?.getD true
def wg(_:Unit):List (ax):=[gt x pb w v at_ da a sn e g b,rv x pb w v at_ da a sn e g b]
abbrev wh(x:am)(c:CM)(v8:Nat)(v:Value)(L:List ar)(b:Nat)(_:Unit)(a:World):Prop:=match b with|0=>bq a v8 x.lb x.cb c L v|1=>bq a v8 x.lb x.cb c L v|_=>True
def wi(i:Nat):Prop:=cY prog f14 wb 77 [] (D3 x pb v8 w f) [.code rq] (O5 pb ya b) (V7 8 [7]) 1 (D6 pb sn b) D7 h (λd=>(ao (gt x pb w v at_ da a sn e g b)) d∨(be [141,178] v8 x.lb pb x.cb h) d) (wg x pb w v at_ da a sn e g b) h.z (wh x c v8 v L) i
end
theorem p8(x:am)(c:CM)(L:List ar)(a:Nat)(v8:Nat)(E:aI)(cl:∀w r,E w->au z8 w r->E r)(b d sn f:Int)(da:ByteArray)(ya:Int)(eN:0<=sn∧sn<8)(c2:c.last<1099511627776)(cB:L.length<=50)(eL:0<=(x.lv (Int.toNat sn)).sc∧(x.lv (Int.toNat sn)).sc<=1099511627776)(b0:((b=3∨(b≠3∧(x.lv (Int.toNat sn)).has=false)∨(b≠3∧(x.lv (Int.toNat sn)).has=true∧af ya-(x.lv (Int.toNat sn)).sc>10))∧∀p,aP p v8 a ({x with lv:=Wo x.lv (Int.toNat sn) zJ,busy:=true,kd:=b,at_:=d,da:=da,sn:=sn,cn:=f,nx:=.func (.func 54) #[pt a 0] #[],lg:=true,en:=af ya,ep:=0,ou:=-1,db:=false,te:=0,ts:=0,kn:=z7,rc:=z7,Wh:=false,rd:=z7,wr:=z7,bl:=WC,ud:=.pointer none}) (d6 {c with zL:=[]} (af ya) 100 ⟨8,sn,0,0,0,0,0,0,⟨#[]⟩⟩) (L++[⟨100,c.last+1,⟨8,sn,0,0,0,0,0,0,⟨#[]⟩⟩,af (af ya),af (af ya)⟩])->E p)∨((b≠3∧(x.lv (Int.toNat sn)).has=true∧af ya-(x.lv (Int.toNat sn)).sc<=10)∧∀p,aP p v8 a ({x with busy:=true,kd:=b,at_:=d,da:=da,sn:=sn,cn:=f,nx:=.nilFunc,lg:=false,en:=0,ep:=(x.lv (Int.toNat sn)).ep,ou:=(x.lv (Int.toNat sn)).ou,db:=false,te:=0,ts:=0,kn:=z7,rc:=z7,Wh:=false,rd:=z7,wr:=z7,bl:=WC,ud:=.pointer none}) c L->v8<=p.z->aC 32 #[pt a 0,i6 (af ya)] p (λW r=>W=Jx∧E r∧au (be [141,178] v8 x.lb a x.cb p) p r)))(w:World)(cn:aP w v8 a ({x with busy:=false}) c L)(b4:v8<=w.z)(c7:∀p v,A2 p a 98 (am.cells {x with busy:=false,ak:=v})->aC 30 #[pt a 0,.agg #[i6 b,i6 d,sT da]] p (bf (.tuple #[.agg #[i6 b,i6 d,sT da,i6 sn,i6 f,.nilFunc,bO_ false,i6 0,i6 0,i6 (-1),bO_ false,i6 0,i6 0,z7,z7,bO_ false,z7,z7,sT ⟨#[]⟩,sT ⟨#[]⟩,sT ⟨#[]⟩,sT ⟨#[]⟩,sT ⟨#[]⟩,sT ⟨#[]⟩,.pointer none],bO_ true]) p)):aC 14 #[pt a 0,i6 ya,.agg #[i6 b,i6 d,sT da]] w (λW r=>W=.returned (i6 0)∧E r∧au (be [141,178] v8 x.lb a x.cb w) w r):=by
 obtain⟨v,a6,cm⟩:=cn;have cC:=aw a6;refine cH (S:=(λq=>q=a)) (n:=77) func14 (ab.D1 a6) ?_;have eK:a<w.z:=a6.lt;have e3:0<=af ya∧af ya<=1099511627776:=by unfold af jC mv;split<;>split<;>omega
 refine z6 22 (dz 9 0x3001800012b0800000) [0,1,5,6,15,16] [fF] [(a,43,1),(w.z,0,3)] [.ops (Ac 14) [2,3,4,5,6,7,8],y6 15] [bh a {x with busy:=false,ak:=v},⟨w.z,38,true,[i6 b,i6 d,sT da]⟩] [] (w.z+1) ?_;refine DV (.tuple #[aE (gJ d da b sn f),bO_ true]) 30 [pt a 0,.agg #[i6 b,i6 d,sT da]] (some 17) [] tI rfl (λp j=>c7 p _ (j.at_ 0 rfl)) λe eR=>?_;refine z6 21 (dz 10 0x1900280000) [0,1,5,6,7,22] [fF] [(e,0,25)] [.ops (Ac 62) [1,2],y6 63] (O3 x a w v d da b sn f e) [] (e+1) ?_;refine DV (i6 (af ya)) _ _ (some 23) [] tI rfl (λp j=>mU ya p) λcq eS=>?_;refine Aq 6 [y2] [0,1,5,6,7] [] [] [y6 126,y6 127] ⟨[(0,pt a 0),(1,i6 (af ya)),(5,pt w.z 0),(6,i6 0),(7,pt e 0)],O3 x a w v d da b sn f e,[],cq⟩ ?_;refine dH (Ex:=rt x a w v d da b sn f e) [true,false,false] rfl (λU j b7=>?_);have cK:bq U v8 x.lb x.cb c L v:=(cm.y4 (es:=[98]) j.x2 (λq z=>by subst z;exact⟨98,z1,cC⟩) rfl rfl rfl);have a2:ab w (bL [141,178] v8 x a w) (rt x a w v d da b sn f e) [] U.z U:=b7.wide (λ_ u=>.inl u);clear j b7;have de:eh U (λq=>(ao (rt x a w v d da b sn f e)) q∨(bL [141,178] v8 x a U) q) (Az x a w v d da b sn f e) (AA x c v8 v L):=by
  intro D m p r J h j o A
  match D,h,o with
  |0,h,o=>
   obtain rfl:=ap h;exact(o.kU A j)
  |1,h,o=>
   obtain rfl:=ap h;exact(o.kU A j)
  |2,h,o=>
   obtain rfl:=ap h;exact(o.kU A j)
  |D+3,h,o=>exact trivial
 have d3:tw x c a v8 ya w U v L d da b sn f E e 5:=V8 (s:=0) (x:=λm=>Instr.storeAt 4 (pt a 43) (bO_ true)) (λ(m:Unit)(_:Unit)=>m) (λm p J h j o ac=>by
  obtain rfl:=ap h;obtain⟨r,M,Q,C,T⟩:=cG (P:=prog) (t:=4) (v:=bO_ true) v7 (j.at_ 0 rfl) rfl (by show 43+1<=73;omega) (aU rfl) rfl;exact⟨(),r,M,rfl,(o.y4 (es:=[98]) C (λq z=>by subst z;exact⟨98,z1,aw (j.at_ 0 rfl)⟩) rfl rfl rfl),(j.PA 0 rfl rfl C Q).2,bC T.symm⟩)
 have d4:tw x c a v8 ya w U v L d da b sn f E e 8:=V8 (s:=1) (x:=λm=>Instr.storeAt 96 (pt a 44) (aE (gJ d da b sn f))) (λ(m:Unit)(_:Unit)=>m) (λm p J h j o ac=>by
  obtain rfl:=ap h;obtain⟨r,M,Q,C,T⟩:=cG (P:=prog) (t:=96) (v:=aE (gJ d da b sn f)) v7 (j.at_ 0 rfl) rfl (by show 44+25<=73;omega) (aU rfl) rfl;exact⟨(),r,M,rfl,(o.y4 (es:=[98]) C (λq z=>by subst z;exact⟨98,z1,aw (j.at_ 0 rfl)⟩) rfl rfl rfl),(j.PA 0 rfl rfl C Q).2,bC T.symm⟩)
 have dd:∀X∈(f5 2 [0,1,3,4,6,7]++[rY 2 2 2 0 25 e]:List (fG (Unit))),tw x c a v8 ya w U v L d da b sn f E e X.i:=bp _ de (λm=>v7) v7 (λm a7=>v7);have db:∀O,O<9->tw x c a v8 ya w U v L d da b sn f E e O:=f6 (l:=[5,8]) v7 dd ⟨d3,d4,trivial⟩;refine bD (Δ:=Unit) (λq=>(ao (rt x a w v d da b sn f e)) q∨(bL [141,178] v8 x a U) q) (Jj a d da b sn f) Jk (Az x a w v d da b sn f e) (AA x c v8 v L) [0,1,5,6,7] (λm=>[(0,pt a 0),(1,i6 (af ya)),(5,pt w.z 0),(6,i6 0),(7,pt e 0)]) (λm=>jQ x a w v d da b sn f e) () (λ_ u=>.inl u) v7 v7 v7 (λp j=>cK.y4 j.x2.drew (ag a2) rfl rfl rfl) v7 db (λm=>v7) (λm=>v7) (λm B a3 cP e0 V=>?_);replace V:=a2.Wb V (λq z=>z.elim (λ⟨H,h,I,N⟩=>N▸a2.own H h I) (λu=>bv a2.x2 rfl q u));have bb:=cP;replace bb:bq B v8 x.lb x.cb c L v:=bb;replace V:ab w (bL [141,178] v8 x a w) (jQ x a w v d da b sn f e) [] B.z B:=V;change aF _ _ _ _ B (ao (jQ x a w v d da b sn f e)) _ [y6 127] ⟨[(0,pt a 0),(1,i6 (af ya)),(5,pt w.z 0),(6,i6 0),(7,pt e 0)],jQ x a w v d da b sn f e,[],B.z⟩;refine Aq 4 [] [0,1,5,6,7] [] [] [y6 254,y6 255] ⟨[(0,pt a 0),(1,i6 (af ya)),(5,pt w.z 0),(6,i6 0),(7,pt e 0)],jQ x a w v d da b sn f e,[],B.z⟩ ?_;have eP:=V.x2.size;have b8:eh B (λq=>(ao (jQ x a w v d da b sn f e)) q∨(bL [141,178] v8 x a B) q) (AB x a w v d da b sn f e) (AC x c v8 B v L):=by
  intro D m p r J h j o A
  match D,h,o with
  |0,h,o=>
   obtain rfl:=ap h;refine⟨o.1.kU A j,λF R=>⟨(o.2 F R).1,(o.2 F R).2.x2 A (λ⟨H,h,I,N⟩=>?_)⟩⟩;have cf:=(o.2 F R).1;simp at h;rcases h with rfl|rfl|rfl
   ·dsimp only at N;omega
   ·cases I
   ·cases I
  |1,h,o=>
   obtain rfl:=ap h;refine⟨o.1.kU A j,λF R=>⟨(o.2 F R).1,(o.2 F R).2.x2 A (λ⟨H,h,I,N⟩=>?_)⟩⟩;have cf:=(o.2 F R).1;simp at h;rcases h with rfl|rfl|rfl
   ·dsimp only at N;omega
   ·cases I
   ·cases I
  |2,h,o=>
   obtain rfl:=ap h;exact⟨⟨o.1.1.kU A j,o.1.2⟩,trivial⟩
  |D+3,h,o=>exact trivial
 have ea:qi x c a v8 ya w B v L d da b sn f E e 6:=Xa (s:=0) (x:=λm=>Instr.loadAt 88 (pt a (3+(Int.toNat sn)*5))) (λ(m:bi)(_:Unit)=>m) (λm=>aE (jk x sn)) (λm p J h j o ac=>by
  obtain rfl:=ap h;exact⟨(),p,xA p 88 a (3+(Int.toNat sn)*5) 98 _ (jI.cells (x.lv (Int.toNat sn))) v7 v7 (j.at_ 0 rfl) (λep eq co=>iP ({x with busy:=true,kd:=b,at_:=d,da:=da,sn:=sn,cn:=f,nx:=.nilFunc,lg:=false,en:=0,ep:=0,ou:=-1,db:=false,te:=0,ts:=0,kn:=z7,rc:=z7,Wh:=false,rd:=z7,wr:=z7,bl:=WC,ud:=.pointer none,ak:=v}) (i:=Int.toNat sn) yq co),rfl,o,j,bT _⟩)
 have eb:qi x c a v8 ya w B v L d da b sn f E e 7:=W1 1 88 [bO_ false,i6 0,i6 0,i6 0,i6 0] (λ_ g=>some g) (λg=>pt g 0) (λD m p r J a0 h j o A b1 b2=>by
  have an:=b8 D m p r J h j o A
  match D,h,o,an,a0 with
  |0,h,o,an,a0=>exact⟨an.1,(λF R=>by obtain rfl:=ap R;exact⟨b1,b2⟩)⟩
  |1,h,o,an,a0=>exact⟨an.1,(λF R=>by obtain rfl:=ap R;exact⟨b1,b2⟩)⟩
  |D+2,h,o,an,a0=>exact absurd a0 yq)
 have ec:qi x c a v8 ya w B v L d da b sn f E e 8:=V8 (s:=1) (x:=λm=>Instr.storeAt 88 (pt (m.getD 0) 0) (aE (jk x sn))) (λ(m:bi)(_:Unit)=>m) (λm p J h j o ac=>by
  obtain rfl:=ap h;obtain⟨F,rfl⟩:∃F,m=some F:=cV.1 (ac 7 (aS (i:=0) v7) (d9 (k:=9) v7));obtain⟨c5,a9⟩:=o.2 F rfl;obtain⟨r,M,Q,C,T⟩:=cG (P:=prog) (t:=88) (v:=aE (jk x sn)) v7 a9 rfl (by show 0+5<=5;omega) (aU rfl) rfl;refine⟨(),r,M,rfl,⟨⟨o.1.y4 (es:=[88]) C (λq z=>by subst z;exact⟨88,z1,aw a9⟩) rfl rfl rfl,c5⟩,trivial⟩,j.Wc (g:=F) C Q yq (λH h W=>?_),bC T.symm⟩;have cb:=aw (j.zq H h);simp at h;rcases h with rfl|rfl|rfl<;>exact eo (aw a9) W cb rfl)
 have ds:∀X∈(f5 2 [0,1,3,4]++[rY 2 2 2 3 1 e,⟨5,2,HA,λ_=>[oE ((0:Int)<=sn∧sn<((8:Nat):Int))],λ_=>[]⟩]:List (fG (bi))),qi x c a v8 ya w B v L d da b sn f E e X.i:=bp _ b8 (λm=>v7) v7 (λm a7=>v7);have df:∀O,O<9->qi x c a v8 ya w B v L d da b sn f E e O:=f6 (l:=[6,7,8]) v7 ds ⟨ea,eb,ec,trivial⟩;refine bD (Δ:=bi) (λq=>(ao (jQ x a w v d da b sn f e)) q∨(bL [141,178] v8 x a B) q) (Jl x a sn e) Jm (AB x a w v d da b sn f e) (AC x c v8 B v L) [0,1,5,6,7,9] (λm=>[(0,pt a 0),(1,i6 (af ya)),(5,pt w.z 0),(6,i6 0),(7,pt e 0),(9,pt (m.getD 0) 0)]) (λm=>[bh a {x with busy:=true,kd:=b,at_:=d,da:=da,sn:=sn,cn:=f,nx:=.nilFunc,lg:=false,en:=0,ep:=0,ou:=-1,db:=false,te:=0,ts:=0,kn:=z7,rc:=z7,Wh:=false,rd:=z7,wr:=z7,bl:=WC,ud:=.pointer none,ak:=v},⟨w.z,38,false,[i6 b,i6 d,sT da]⟩,⟨e,96,false,gJ d da b sn f⟩,⟨m.getD 0,88,true,jk x sn⟩]) none (λ_ u=>.inl u) v7 v7 v7 (λp j=>⟨bb.y4 j.x2.drew (ag V) rfl rfl rfl,λ_ u=>by cases u⟩) v7 df (λm=>v7) (λm=>v7) (λm y a3 c1 eW K=>?_);obtain⟨g,rfl⟩:∃g,m=some g:=cV.1 (a3 7 (Nat.le_of_ble_eq_true v7) (d9 (k:=9) v7));obtain⟨⟨b3,b5⟩,_⟩:=c1;replace b5:B.z<=g:=b5;replace K:=V.Wb K (λq z=>z.elim (λ⟨H,h,I,N⟩=>N▸V.own H h I) (λu=>bv V.x2 rfl q u));replace K:ab w (bL [141,178] v8 x a w) (gt x a w v d da b sn f g e) [] y.z y:=K;change aF _ _ _ _ y (ao (gt x a w v d da b sn f g e)) _ [y6 255] ⟨[(0,pt a 0),(1,i6 (af ya)),(5,pt w.z 0),(6,i6 0),(7,pt e 0),(9,pt g 0)],gt x a w v d da b sn f g e,[],y.z⟩;rcases b0 with⟨b0,c9⟩|⟨G,c3⟩
 rotate_left
 ·skip;refine Aq 23 (dz 15 0x131501043911030100391000100180) [0,1,6,7,9] (rE 3 (oE ((b != 3)=true) (by rw[bne_iff_ne];exact G.1))++rE 4 (oE (((x.lv (Int.toNat sn)).has)=true) G.2.1)++[JL ((af ya)-((x.lv (Int.toNat sn)).sc))]++rE 2 (oE (((x.lv (Int.toNat sn)).has)=true) G.2.1)++[oE ((decide ((((af ya)-((x.lv (Int.toNat sn)).sc)):Int)<=10))=true) (dc (by have:=G.2.2;omega))]) [(w.z,0,1),(g,0,1),(g,4,1)] [y6 4084,.code Gp,.code wc] ⟨[(0,pt a 0),(1,i6 (af ya)),(6,i6 0),(7,pt e 0),(9,pt g 0)],gt x a w v d da b sn f g e,[],y.z⟩ ?_;have dv:eh y (λq=>(ao (gt x a w v d da b sn f g e)) q∨(be [141,178] v8 x.lb a x.cb y) q) (wd x a w v d da b sn f g e) (we x c v8 v L):=by
   intro D m p r J h j o A
   match D,h,o with
   |0,h,o=>
    obtain rfl:=ap h;exact(o.kU A j)
   |1,h,o=>
    obtain rfl:=ap h;exact(o.kU A j)
   |2,h,o=>
    obtain rfl:=ap h;exact(o.kU A j)
   |D+3,h,o=>exact trivial
  have ed:qj x c a v8 ya w y v L d da b sn f g E e 9:=V8 (s:=0) (x:=λm=>Instr.storeAt 3 (pt a 52) (i6 ((x.lv (Int.toNat sn)).ep))) (λ(m:Unit)(_:Unit)=>m) (λm p J h j o ac=>by
   obtain rfl:=ap h;obtain⟨r,M,Q,C,T⟩:=cG (P:=prog) (t:=3) (v:=i6 ((x.lv (Int.toNat sn)).ep)) v7 (j.at_ 0 rfl) rfl (by show 52+1<=73;omega) (aU rfl) rfl;exact⟨(),r,M,rfl,(o.y4 (es:=[98]) C (λq z=>by subst z;exact⟨98,z1,aw (j.at_ 0 rfl)⟩) rfl rfl rfl),(j.PA 0 rfl rfl C Q).2,bC T.symm⟩)
  have en:qj x c a v8 ya w y v L d da b sn f g E e 13:=V8 (s:=1) (x:=λm=>Instr.storeAt 3 (pt a 53) (i6 ((x.lv (Int.toNat sn)).ou))) (λ(m:Unit)(_:Unit)=>m) (λm p J h j o ac=>by
   obtain rfl:=ap h;obtain⟨r,M,Q,C,T⟩:=cG (P:=prog) (t:=3) (v:=i6 ((x.lv (Int.toNat sn)).ou)) v7 (j.at_ 0 rfl) rfl (by show 53+1<=73;omega) (aU rfl) rfl;exact⟨(),r,M,rfl,(o.y4 (es:=[98]) C (λq z=>by subst z;exact⟨98,z1,aw (j.at_ 0 rfl)⟩) rfl rfl rfl),(j.PA 0 rfl rfl C Q).2,bC T.symm⟩)
  have du:∀X∈(f5 2 [0,1,2,4,6,7,8,10,11,12]++[rY 3 2 3 1 1 g,rY 5 2 3 2 1 g]:List (fG (Unit))),qj x c a v8 ya w y v L d da b sn f g E e X.i:=bp _ dv (λm=>v7) v7 (λm a7=>v7);have dt:∀O,O<14->qj x c a v8 ya w y v L d da b sn f g E e O:=f6 (l:=[9,13]) v7 du ⟨ed,en,trivial⟩;refine bD (Δ:=Unit) (λq=>(ao (gt x a w v d da b sn f g e)) q∨(bL [141,178] v8 x a y) q) (D4 x a sn g) D5 (wd x a w v d da b sn f g e) (we x c v8 v L) [0,1,6,7] (λm=>[(0,pt a 0),(1,i6 (af ya)),(6,i6 0),(7,pt e 0)]) (λm=>ru x a w v d da b sn f g e) () (λ_ u=>.inl u) v7 v7 v7 (λp j=>b3.y4 j.x2.drew (ag K) rfl rfl rfl) v7 dt (λm=>v7) (λm=>v7) (λm ad a3 cR e1 aR=>?_);replace aR:=K.Wb aR (λq z=>z.elim (λ⟨H,h,I,N⟩=>N▸K.own H h I) (λu=>bv K.x2 rfl q u));have bd:=cR;replace bd:bq ad v8 x.lb x.cb c L v:=bd;replace aR:ab w (bL [141,178] v8 x a w) (ru x a w v d da b sn f g e) [] ad.z ad:=aR;change aF _ _ _ _ ad (ao (ru x a w v d da b sn f g e)) _ [.code Gp,.code wc] ⟨[(0,pt a 0),(1,i6 (af ya)),(6,i6 0),(7,pt e 0)],ru x a w v d da b sn f g e,[],ad.z⟩;refine z6 7 (dz 2 0) [0,1,6,7,64,65] [] [] [.ops (Ac 8170) [2],y6 8171,.code wc] (ru x a w v d da b sn f g e) [] ad.z ?_;refine Ip (w:=w) (S':=bL [141,178] v8 x a w) (Y:=Unit) (λ_=>.tuple #[]) (λ_=>[]) (λ_ a5=>E a5) (v7:_=some (32,[pt a 0,i6 (af ya)],some 66,[])) tI (λp j=>?_) (λer b9 cs c4=>?_)
  ·have Z:=(ab.A0 aR j);have bl:v8<=p.z:=az b4 Z.x2.size;have bk:=(bd.kT j aR);have a1:aP p v8 a ({x with busy:=true,kd:=b,at_:=d,da:=da,sn:=sn,cn:=f,nx:=.nilFunc,lg:=false,en:=0,ep:=(x.lv (Int.toNat sn)).ep,ou:=(x.lv (Int.toNat sn)).ou,db:=false,te:=0,ts:=0,kn:=z7,rc:=z7,Wh:=false,rd:=z7,wr:=z7,bl:=WC,ud:=.pointer none,ak:=v}) c L:=⟨_,j.at_ 0 rfl,bk⟩;refine(c3 p a1 bl).mono λW r bt=>?_;obtain⟨bs,cA,a8⟩:=bt;exact⟨(),bs,cA,Z.none_.A3 (λ_ u=>u) a8 (bv Z.x2 rfl) (λH h=>by cases h)⟩
  refine z6 8 [y2] [0,1,6,7] [] [] [y6 16343,.code wc] [] [] b9.z ?_;refine B1 [] [i6 0] [] ?_;intro p j;exact⟨rfl,cl _ _ cs (j.x2.mono (λk _ u=>by obtain⟨H,h,_⟩:=u;cases h)),(ab.A0 c4 j).x2⟩
 suffices a4:aF [] prog (al f14) 77 y (ao (gt x a w v d da b sn f g e)) (D3 x a v8 w E) [.code wb,.code rq] ⟨[(0,pt a 0),(1,i6 (af ya)),(6,i6 0),(7,pt e 0)],gt x a w v d da b sn f g e,[],y.z⟩by
  rcases b0 with G|G|G
  ·skip;refine Aq 24 (dz 15 0x4000000400000100180) [0,1,6,7] (rE 3 (oE ((b != 3)=false) (by rw[G];decide))++rE 7 fF) [(w.z,0,1)] [.code wb,.code rq] ⟨[(0,pt a 0),(1,i6 (af ya)),(6,i6 0),(7,pt e 0)],gt x a w v d da b sn f g e,[],y.z⟩ ?_;exact a4
  ·skip;refine Aq 24 (dz 15 0x400000030100391000100180) [0,1,6,7] (rE 3 (oE ((b != 3)=true) (by rw[bne_iff_ne];exact G.1))++rE 6 (oE (((x.lv (Int.toNat sn)).has)=false) G.2)++[fF]) [(w.z,0,1),(g,0,1)] [.code wb,.code rq] ⟨[(0,pt a 0),(1,i6 (af ya)),(6,i6 0),(7,pt e 0)],gt x a w v d da b sn f g e,[],y.z⟩ ?_;exact a4
  ·skip;refine Aq 24 (dz 15 0x31501043911030100391000100180) [0,1,6,7] (rE 3 (oE ((b != 3)=true) (by rw[bne_iff_ne];exact G.1))++rE 4 (oE (((x.lv (Int.toNat sn)).has)=true) G.2.1)++[JL ((af ya)-((x.lv (Int.toNat sn)).sc))]++rE 2 (oE (((x.lv (Int.toNat sn)).has)=true) G.2.1)++[oE ((decide ((((af ya)-((x.lv (Int.toNat sn)).sc)):Int)<=10))=false) (bZ (by have:=G.2.2;omega))]) [(w.z,0,1),(g,0,1),(g,4,1)] [.code wb,.code rq] ⟨[(0,pt a 0),(1,i6 (af ya)),(6,i6 0),(7,pt e 0)],gt x a w v d da b sn f g e,[],y.z⟩ ?_;exact a4
 have d2:eh y (λq=>(ao (gt x a w v d da b sn f g e)) q∨(bL [141,178] v8 x a y) q) (wg x a w v d da b sn f g e) (wh x c v8 v L):=by
  intro D m p r J h j o A
  match D,h,o with
  |0,h,o=>
   obtain rfl:=ap h;exact(o.kU A j)
  |1,h,o=>
   obtain rfl:=ap h;exact(o.kU A j)
  |D+2,h,o=>exact trivial
 have eg:wi x c a v8 ya w y v L d da b sn f g E e 7:=V8 (s:=0) (x:=λm=>Instr.storeAt 88 (pt a (3+(Int.toNat sn)*5)) (.agg #[bO_ false,i6 0,i6 0,i6 0,i6 0])) (λ(m:Unit)(_:Unit)=>m) (λm p J h j o ac=>by
  obtain rfl:=ap h;obtain⟨r,M,Q,C,T⟩:=cG (P:=prog) (t:=88) (v:=.agg #[bO_ false,i6 0,i6 0,i6 0,i6 0]) v7 (j.at_ 0 rfl) rfl (by show(3+(Int.toNat sn)*5)+5<=73;omega) (aU rfl) (D8 ({x with busy:=true,kd:=b,at_:=d,da:=da,sn:=sn,cn:=f,nx:=.nilFunc,lg:=false,en:=0,ep:=0,ou:=-1,db:=false,te:=0,ts:=0,kn:=z7,rc:=z7,Wh:=false,rd:=z7,wr:=z7,bl:=WC,ud:=.pointer none,ak:=v}) yq zJ);exact⟨(),r,M,rfl,(o.y4 (es:=[98]) C (λq z=>by subst z;exact⟨98,z1,aw (j.at_ 0 rfl)⟩) rfl rfl rfl),(j.PA 0 rfl rfl C Q).2,bC T.symm⟩)
 have d1:∀X∈(f5 1 [0,1,3,4,5]++[rY 2 1 2 3 1 e,⟨6,1,HA,λ_=>[oE ((0:Int)<=sn∧sn<((8:Nat):Int))],λ_=>[]⟩]:List (fG (Unit))),wi x c a v8 ya w y v L d da b sn f g E e X.i:=bp _ d2 (λm=>v7) v7 (λm a7=>v7);have d0:∀O,O<8->wi x c a v8 ya w y v L d da b sn f g E e O:=f6 (l:=[7]) v7 d1 ⟨eg,trivial⟩;refine bD (Δ:=Unit) (λq=>(ao (gt x a w v d da b sn f g e)) q∨(bL [141,178] v8 x a y) q) (D6 a sn e) D7 (wg x a w v d da b sn f g e) (wh x c v8 v L) [0,1,6] (λm=>[(0,pt a 0),(1,i6 (af ya)),(6,i6 0)]) (λm=>rv x a w v d da b sn f g e) () (λ_ u=>.inl u) v7 v7 v7 (λp j=>b3.y4 j.x2.drew (ag K) rfl rfl rfl) v7 d0 (λm=>v7) (λm=>v7) (λm ak a3 cU e2 aV=>?_);replace aV:=K.Wb aV (λq z=>z.elim (λ⟨H,h,I,N⟩=>N▸K.own H h I) (λu=>bv K.x2 rfl q u));have bg:=cU;replace bg:bq ak v8 x.lb x.cb c L v:=bg;replace aV:ab w (bL [141,178] v8 x a w) (rv x a w v d da b sn f g e) [] ak.z ak:=aV;change aF _ _ _ _ ak (ao (rv x a w v d da b sn f g e)) _ [.code rq] ⟨[(0,pt a 0),(1,i6 (af ya)),(6,i6 0)],rv x a w v d da b sn f g e,[],ak.z⟩;refine z6 7 (dz 2 0) [6,74,75] [] [] [.ops (Ac 2046) [2],y6 2047] (rv x a w v d da b sn f g e) [] ak.z ?_;refine Ip (w:=w) (S':=bL [141,178] v8 x a w) (Y:=Value) (λaq=>.tuple #[]) (λaq=>[bh a {x with lv:=Wo x.lv (Int.toNat sn) zJ,busy:=true,kd:=b,at_:=d,da:=da,sn:=sn,cn:=f,nx:=.func (.func 54) #[pt a 0] #[],lg:=true,en:=af ya,ep:=0,ou:=-1,db:=false,te:=0,ts:=0,kn:=z7,rc:=z7,Wh:=false,rd:=z7,wr:=z7,bl:=WC,ud:=.pointer none,ak:=aq},⟨w.z,38,false,[i6 b,i6 d,sT da]⟩,⟨e,96,false,gJ d da b sn f⟩,⟨g,88,true,jk x sn⟩]) (λaq a5=>bq a5 v8 x.lb x.cb (d6 {c with zL:=[]} (af ya) 100 ⟨8,sn,0,0,0,0,0,0,⟨#[]⟩⟩) (L++[⟨100,c.last+1,⟨8,sn,0,0,0,0,0,0,⟨#[]⟩⟩,af (af ya),af (af ya)⟩]) aq) (v7:_=some (33,[pt a 0,i6 (af ya)],some 76,[])) tI (λp j=>?_) (λaq ca c0 b6=>?_)
 ·have Z:=(ab.A0 aV j);have bl:v8<=p.z:=az b4 Z.x2.size;have bk:=(bg.kT j aV);have a1:aP p v8 a ({x with lv:=Wo x.lv (Int.toNat sn) zJ,busy:=true,kd:=b,at_:=d,da:=da,sn:=sn,cn:=f,nx:=.nilFunc,lg:=false,en:=0,ep:=0,ou:=-1,db:=false,te:=0,ts:=0,kn:=z7,rc:=z7,Wh:=false,rd:=z7,wr:=z7,bl:=WC,ud:=.pointer none,ak:=v}) c L:=⟨_,j.at_ 0 rfl,bk⟩;refine(sJ ({x with lv:=Wo x.lv (Int.toNat sn) zJ,busy:=true,kd:=b,at_:=d,da:=da,sn:=sn,cn:=f,nx:=.nilFunc,lg:=false,en:=0,ep:=0,ou:=-1,db:=false,te:=0,ts:=0,kn:=z7,rc:=z7,Wh:=false,rd:=z7,wr:=z7,bl:=WC,ud:=.pointer none,ak:=v}) c L a v8 (af ya) c2 cB p a1 bl).mono λW r bt=>?_;obtain⟨bs,⟨cp,cr,c6⟩,a8⟩:=bt;have cO:=a1.T' (es:=[141]);exact⟨cp,bs,c6,Z.HS a8 (bv Z.x2 rfl) cr (bQ j cO rfl)⟩
 have cL:=c0;refine z6 8 [y2] [6] [] [] [y6 4095] [bh a {x with lv:=Wo x.lv (Int.toNat sn) zJ,busy:=true,kd:=b,at_:=d,da:=da,sn:=sn,cn:=f,nx:=.func (.func 54) #[pt a 0] #[],lg:=true,en:=af ya,ep:=0,ou:=-1,db:=false,te:=0,ts:=0,kn:=z7,rc:=z7,Wh:=false,rd:=z7,wr:=z7,bl:=WC,ud:=.pointer none,ak:=aq},⟨w.z,38,false,[i6 b,i6 d,sT da]⟩,⟨e,96,false,gJ d da b sn f⟩,⟨g,88,true,jk x sn⟩] [] ca.z ?_;refine B1 [] [i6 0] [] ?_;intro p j;exact⟨rfl,c9 _ ⟨_,j.at_ 0 rfl,cL.kT j b6⟩,(ab.A0 b6 j).x2⟩
variable {k:Be}{g:S2}{N:HB->Prop}
theorem ci.le{p:HB}{n m:Nat}(h:ci k g n p)(a:n<=m):ci k g m p:=by
 induction a with
 |refl=>exact h
 |step _ b=>exact b.succ
theorem zo(k:Be)(t ta zv e o:Int):(Wm k t ta zv e o).last<=zv+6+(k.n:Int)-6:=by
 have a:(dK k.n o (k.sn:Int) e).length<=k.n:=vw ..;unfold HB.last;show zv+((dK k.n o (k.sn:Int) e).length:Int)<=_;omega
theorem vH(b:cZ k){e o lm t ta zv:Int}(a:WW k e o 0)(g:0<=k.zl->k.zl≠o->k.Qn=true)(J1:(0<=ta∧ta<=t∧t<=ta+1∧t<=1000000)∧0<=zv∧zv+30<=lm∧lm<=800000000):ci k (k.OK e o 0 lm) 3 (Wm k t ta zv e o):=by
 have j:=b.hn;have i:=zo k t ta zv e o;have h:0<=(Wm k t ta zv e o).last:=by unfold HB.last;show 0<=zv+_;omega
 exact zp b ci.nn a.he a.ho ⟨J1.1,yq⟩ (λc d f=>absurd (a.hb c d) f) g (λ_=>IZ b a yq)
theorem OA(a:cZ k){b lm t ta zv:Int}(e:WW k (k.E1+1) b 0)(f:Xm k b)(m:0<=k.zl->k.Qn=true)(J1:(0<=ta∧ta<=t∧t<=ta+1∧t<=1000000)∧0<=zv∧zv+60<=lm∧lm<=800000000):ci k (k.OK (k.E1+1) b 0 lm) 5 (Wm k t ta zv k.E1 (-1)):=by
 have r:=a.hn;have u:=a.WH;have v:=a.YJ;have q:=zo k t ta zv k.E1 (-1);have o:0<=(Wm k t ta zv k.E1 (-1)).last:=by unfold HB.last;show 0<=zv+_;omega
 have l:=Ol a f;refine zp a (n:=5) ci.nn ⟨cS _,yq⟩ yq ⟨J1.1,yq⟩ (λh d p=>⟨rfl,rfl,λs c=>?_⟩) (λd _=>m d) (λg=>absurd (g b f) yq);obtain rfl:=e.hb h d;exact RX a l ⟨⟨c.1,cS _,yq,c.2⟩,yq⟩ (vH a e (λi j=>absurd (e.hb k.zl ⟨.inr rfl,i⟩) j) ⟨⟨c.1,cS _,yq,c.2⟩,yq⟩)
structure Way(k:Be)(O e o:Int):Prop where
 Wv:WW k e o 0
 YZ:(e=k.E1∧o=O∧k.Qn=false)∨(e=k.E1+1∧O=-1∧Xm k o∧(0<=k.zl->k.Qn=true))
theorem Ga(a:cZ k){O e o lm t ta zv:Int}(hw:Way k O e o)(J1:(0<=ta∧ta<=t∧t<=ta+1∧t<=1000000)∧0<=zv∧zv+90<=lm∧lm<=800000000):ci k (k.OK e o 0 lm) 6 (Xn k t ta zv O):=by
 have b:=hw.Wv;have h:=a.hn;have i:=b.ho;rcases hw.YZ with⟨rfl,rfl,c⟩|⟨rfl,rfl,c,d⟩
 ·exact ci.le (n:=4) (zr a yq ⟨J1.1,yq⟩ (vH a b (λf g=>absurd (b.hb k.zl ⟨.inr rfl,f⟩) g) ⟨⟨yq,cS _,yq,yq⟩,yq⟩)) (by decide)
 ·exact zr a yq ⟨J1.1,yq⟩ (OA a b c d ⟨⟨yq,cS _,yq,yq⟩,yq⟩)
structure Sub(k:Be)(at_ ya:Int)(x0:am)(X0:Int):Prop where
 N:x0.N=(k.n:Int)
 S:x0.S=(k.S:Int)
 cb:x0.cb=k.cb
 busy:x0.busy=false
 ed:x0.ed=k.ed
 lv:x0.lv=k.Wf
 Y5:0<=(k.Wf k.sn).sc∧(k.Wf k.sn).sc<=1000000
 Y4:k.kd=1∨k.kd=2∨k.kd=3
 Y6:(k.kd=3∧at_=(k.sn:Int)∧(k.cn:Int)=0∧k.da=⟨#[]⟩)∨(((k.kd=1∧k.da=⟨#[]⟩)∨(k.kd=2∧k.da.size=16))∧(0<=at_∧at_<x0.S*(x0.N-1))∧at_/(x0.N-1)=(k.sn:Int)∧at_%(x0.N-1)=(k.cn:Int))
 X6:0<=ya∧ya+1<=1000000
 hl:0<=X0∧X0<=700000000
def Ye(k:Be)(g:S2)(ya j:Int)(i:Nat->aZ->Prop)(h:cQ->Prop)(lb:Nat)(W:World):Prop:=∃a c f,c<=6∧ci k g c a∧a.t=ya+1∧a.ta=ya∧a.zv=j∧aP W k.B0 k.pb {f with lb:=lb} ⟨k.Ar,a.last,a.A1⟩ a.A1∧a.is k f a.A1 W∧(∀b e,b<k.n->i b e->a.F a.A1 b e)∧∀d,h d->a.K a.A1 d
def T6(k:Be)(t ya a O:Int)(lb:Nat)(W:World):Prop:=∃b,aP W k.B0 k.pb {b with lb:=lb} ⟨k.Ar,(Xn k t ya a O).last,(Xn k t ya a O).A1⟩ (Xn k t ya a O).A1∧(Xn k t ya a O).is k b (Xn k t ya a O).A1 W
theorem vr(f:cZ k){c ya b O t:Int}{a:am}(hs:Sub k c ya a b)(I:ya<=t∧t<=ya+1)(d:k.kd=3∨(k.kd≠3∧(k.Wf k.sn).has=false)∨(k.kd≠3∧(k.Wf k.sn).has=true∧ya-(k.Wf k.sn).sc>10)){W:World}(w:iN W k.pb a ⟨k.Ar,b,[]⟩)(F:k.B0<=W.z):aC 14 #[pt k.pb 0,i6 ya,.agg #[i6 k.kd,i6 c,sT k.da]] W (λs l=>s=.returned (i6 0)∧T6 k t ya b O W.z l∧au (be [141,178] k.B0 W.z k.pb k.cb W) W l):=by
 have S:=f.hn;have Q:=f.hS;have Y:=f.Wi;have N:=hs.X6;have R:=hs.hl;have X:=hs.Y5;have p:=eH (n:=ya) yq;have L:ib W k.B0 k.pb a ⟨k.Ar,b,[]⟩:=⟨w.1,w.2.1 _⟩;have E:=L.XM (lb':=W.z) (bT _);have J:({a with lb:=W.z,busy:=false}:am)={a with lb:=W.z}:=by rw[<-hs.busy]
 have y:Int.toNat (k.sn:Int)=k.sn:=cJ _;have x:({a with lb:=W.z}:am).lv=k.Wf:=hs.lv;have M:({a with lb:=W.z}:am).cb=k.cb:=hs.cb;have H:=p8 {a with lb:=W.z} ⟨k.Ar,b,[]⟩ [] k.pb k.B0 (T6 k t ya b O W.z) (λT U ⟨K,C,D⟩ u=>⟨K,C.J7 u,HB.Qx (λ_ _ _ _ _ g _ _=>g) D u (λ_ g=>g.elim)⟩)
  k.kd c (k.sn:Int) (k.cn:Int) k.da ya yq (by show b<_;omega) z1 (by rw[x,y];omega) (by
   rw[x,y,p];refine .inl ⟨d,λm o=>⟨{a with lv:=Wo k.Wf k.sn zJ,busy:=true,kd:=k.kd,at_:=c,da:=k.da,sn:=(k.sn:Int),cn:=(k.cn:Int),nx:=.func (.func 54) #[pt k.pb 0] #[],lg:=true,en:=ya,ep:=0,ou:=-1,db:=false,te:=0,ts:=0,kn:=z7,rc:=z7,Wh:=false,rd:=z7,wr:=z7,bl:=WC,ud:=.pointer none},?_,⟨⟨hs.N,hs.S,hs.cb,rfl,rfl,rfl,rfl,rfl,hs.ed,λP G=>ay G⟩,rfl,rfl,rfl,rfl,N.1,I.1⟩⟩⟩;rw[p]at o;have B:d6 { (⟨k.Ar,b,[]⟩:CM)with zL:=[]} ya 100 ⟨8,(k.sn:Int),0,0,0,0,0,0,⟨#[]⟩⟩=⟨k.Ar,(Xn k t ya b O).last,(Xn k t ya b O).A1⟩:=by
    unfold d6;rw[p];rfl
   rw[B]at o;exact o)
  W (by rw[J];exact E) F (λm q v=>?_)
 ·refine H.mono λs l ⟨z,A,r⟩=>⟨z,A,by rw[M]at r;exact r⟩
 ·rcases hs.Y6 with⟨d,e,h,i⟩|⟨d,e,h,i⟩
  ·have j:=p9 {a with lb:=W.z,busy:=false,ak:=q} k.pb c (by show 0<=c∧c<a.S;rw[hs.S,e];omega) m v;rw[d,i,h,<-e];exact j
  ·have j:=sr {a with lb:=W.z,busy:=false,ak:=q} k.pb c k.kd k.da d (by show 3<=a.N∧a.N<=6∧1<=a.S∧a.S<=8;rw[hs.N,hs.S];omega) e m v;rw[<-h,<-i];exact j
theorem LP(p:cZ k){m ya j lm O e o sq:Int}{a:am}{x:Nat->aZ->Prop}{w:cQ->Prop}(hs:Sub k m ya a j)(b3:j+90<=lm∧lm<=800000000)
  (bg:(((k.kd=3∨(k.kd≠3∧(k.Wf k.sn).has=false)∨(k.kd≠3∧(k.Wf k.sn).has=true∧ya-(k.Wf k.sn).sc>10))∧sq=0∧Way k O e o∧(∀c d,x c d->Rf k k.E1 c d)∧∀h,w h->∃r B,h=⟨k.E1-1,r,B,O⟩∧(r=0∨r=k.Ar)) ∨
   ((k.kd≠3∧(k.Wf k.sn).has=true∧ya-(k.Wf k.sn).sc<=10)∧WW k e o sq∧(∃K,k.Wf k.sn=⟨true,e,o,sq,K⟩)∧(∀c d,x c d->Rb k e o c d)∧∀h,w h->Lp k e o h))) {W:World} (H:iN W k.pb a ⟨k.Ar,j,[]⟩) (I:k.B0<=W.z):aC 14 #[pt k.pb 0,i6 ya,.agg #[i6 k.kd,i6 m,sT k.da]] W (λz u=>z=.returned (i6 0)∧Ye k (k.OK e o sq lm) ya j x w W.z u∧au (be [141,178] k.B0 W.z k.pb k.cb W) W u):=by
 rcases bg with⟨i,rfl,f,b,l⟩|⟨i,f,⟨K,b⟩,l,F⟩
 ·have bd:=hs.X6;have a1:=hs.hl;refine(vr p hs (t:=ya+1) (O:=O) ⟨yq,cS _⟩ i H I).mono λz u ⟨s,⟨v,y,q⟩,D⟩=>⟨s,⟨Xn k (ya+1) ya j O,6,v,bT _,Ga p f yq,rfl,rfl,rfl,y,q,λc d _ g=>FR (b c d g) (b c d g),λh g=>?_⟩,D⟩;obtain⟨r,B,G⟩:=l h g;exact .inl ⟨⟨_,A4,rfl⟩,r,B,G⟩
 have bt:=p.hn;have bs:=p.hS;have b4:=p.Wi;have bd:=hs.X6;have a1:=hs.hl;have T:=hs.Y5;have bb:=eH (n:=ya) yq;have a6:ib W k.B0 k.pb a ⟨k.Ar,j,[]⟩:=⟨H.1,H.2.1 _⟩;have a0:=a6.XM (lb':=W.z) (bT _);have a5:({a with lb:=W.z,busy:=false}:am)={a with lb:=W.z}:=by rw[<-hs.busy]
 have S:Int.toNat (k.sn:Int)=k.sn:=cJ _;have R:({a with lb:=W.z}:am).lv=k.Wf:=hs.lv;have Q:({a with lb:=W.z}:am).cb=k.cb:=hs.cb;have a3:=p8 {a with lb:=W.z} ⟨k.Ar,j,[]⟩ [] k.pb k.B0 (Ye k (k.OK e o sq lm) ya j x w W.z) (λb0 b1 ⟨C,U,v,i,f,b,l,F,G,aR,aV⟩ M=>by
   obtain⟨N,a9⟩:=f.W2;exact⟨C,U,v,i,f,b,l,F,G.J7 M,HB.Qx a9.Bw aR M (λ_ g=>g.elim),aV⟩)
  k.kd m (k.sn:Int) (k.cn:Int) k.da ya yq (by show j<_;omega) z1 (by rw[R,S];omega) (by
   rw[R,S,bb];refine .inr ⟨i,λA a7 a8=>?_⟩;have a4:=IZ p (t:=ya+1) (ta:=ya) (zv:=j) (lm:=lm) f yq {a with lv:=k.Wf,busy:=true,kd:=k.kd,at_:=m,da:=k.da,sn:=(k.sn:Int),cn:=(k.cn:Int),nx:=.nilFunc,lg:=false,en:=0,ep:=(k.Wf k.sn).ep,ou:=(k.Wf k.sn).ou,db:=false,te:=0,ts:=0,kn:=z7,rc:=z7,Wh:=false,rd:=z7,wr:=z7,bl:=WC,ud:=.pointer none} K W.z _ A ⟨hs.N,hs.S,hs.cb,rfl,rfl,rfl,rfl,rfl,hs.ed,λ_ _=>rfl⟩ (by show(k.Wf k.sn).ep=e;rw[b]) (by show(k.Wf k.sn).ou=o;rw[b]) b (by rw[b]at T;exact T) rfl rfl rfl a7 a8 I;refine a4.mono λz u ⟨s,⟨v,bl,bk,y,q,D⟩,V⟩=>⟨s,?_,by rw[Q];exact V⟩;rcases D with⟨C,E,X,Y,Z,ac,ad,ak,an,aq⟩|⟨E,_⟩
   ·subst ac ad;exact⟨C,2,v,by decide,E,Y,Z,X,q,ak,λc d a2 g=>an c d a2 (l c d g),λh g=>aq h (F h g)⟩
   ·exact absurd E i.1)
  W (by rw[a5];exact a0) I (λA L P=>?_)
 ·refine a3.mono λz u ⟨s,y,q⟩=>⟨s,y,by rw[Q]at q;exact q⟩
 ·rcases hs.Y6 with⟨i,f,b,l⟩|⟨i,f,b,l⟩
  ·have J:=p9 {a with lb:=W.z,busy:=false,ak:=L} k.pb m (by show 0<=m∧m<a.S;rw[hs.S,f];omega) A P;rw[i,l,b,<-f];exact J
  ·have J:=sr {a with lb:=W.z,busy:=false,ak:=L} k.pb m k.kd k.da i (by show 3<=a.N∧a.N<=6∧1<=a.S∧a.S<=8;rw[hs.N,hs.S];omega) f A P;rw[<-b,<-l];exact J
variable {k:Be}
theorem Ub{a b:Nat}(h:a^^^b=0):b=a:=by
 have c:a^^^(a^^^b)=b:=by rw[<-Nat.xor_assoc,Nat.xor_self,Nat.zero_xor]
 rw[h,Nat.xor_zero]at c;exact c.symm
def XP(j:Nat)(T:ct):Nat:=T.foldr (λb a=>V6 j b^^^a) 0
theorem vI{R:ct}:∀{a:ByteArray},bX (eF (aK a) R)=R.foldl iE a:=by
 induction R with
 |nil=>intro a;exact ke a
 |cons b R c=>
  intro a;show bX (eF (fQ (aK a) (aK b)) R)=R.foldl iE (iE a b);rw[<-c];unfold iE;rw[iW (kL (dY a) (dY b))]
theorem vJ{j:Nat}(g:j<16){R:ct}(c:∀b∈R,b.size=16):∀{a:ByteArray},a.size=16->V6 j (R.foldl iE a)=V6 j a^^^XP j R:=by
 induction R with
 |nil=>intro a _;show V6 j a=V6 j a^^^0;rw[Nat.xor_zero]
 |cons b R i=>
  intro a d;have e:=c b A4;show V6 j (R.foldl iE (iE a b))=V6 j a^^^(V6 j b^^^XP j R);rw[i (λf h=>c f (cz _ h)) (fW d e),kK d e g,Nat.xor_assoc]
theorem OB{j:Nat}{T a:ct}(h:T.Perm a):XP j T=XP j a:=h.foldr_eq' (λc _ b _ d=>by rw[<-Nat.xor_assoc,<-Nat.xor_assoc,Nat.xor_comm (V6 j b)]) 0
structure W9(n:Nat)(V:Nat->ByteArray):Prop where
 sz:∀m,m<n->(V m).size=16
 X1:kw ((List.range n).map V)=d7
theorem W9.xl{n:Nat}{a:Nat->ByteArray}(h:W9 n a)(p:0<n){j:Nat}(i:j<16):XP j ((List.range n).map a)=0:=by
 have g:=h.X1;have d:∀b∈(List.range n).map a,ByteArray.size b=16:=λb e=>by
  obtain⟨m,c,rfl⟩:=aT.1 e;exact h.sz m (bn.1 c)
 cases k:(List.range n).map a with
 |nil=>
  have:((List.range n).map a).length=n:=by simp
  rw[k]at this;simp at this;omega
 |cons f l=>
  rw[k]at g d;have c:=vJ i (λb e=>d b (cz _ e)) (d f A4);have o:l.foldl iE f=d7:=g;rw[o,ti i]at c;exact c.symm
theorem W9.out(q:cZ k){b:Nat->ByteArray}(h:W9 k.n b){L:bB}(m:L.Nodup){o:Int}(r:0<=o∧o<(k.n:Int))(hm:∀a,a∈L↔(0<=a∧a<(k.n:Int))∧a≠o){j:Nat}(p:j<16):XP j (L.map λa=>b a.toNat)=V6 j (b o.toNat):=by
 have g:(o::L).Perm ((List.range k.n).map λc:Nat=>(c:Int)):=by
  refine(List.perm_ext_iff_of_nodup (List.nodup_cons.2 ⟨λh=>((hm o).1 h).2 rfl,m⟩) (List.pairwise_map.2 ((List.nodup_range (n:=k.n)).imp λh e=>h yq))).2 λf=>?_;rw[bj,hm,aT];constructor
  ·rintro(rfl|⟨d,_⟩)
   ·exact⟨f.toNat,bn.2 yq,yq⟩
   ·exact⟨f.toNat,bn.2 yq,yq⟩
  ·rintro⟨c,d,rfl⟩;have:=bn.1 d;by_cases e:(c:Int)=o
   ·exact .inl e
   ·exact .inr ⟨yq,e⟩
 have d:=OB (j:=j) (g.map λa:Int=>b a.toNat);have i:((List.range k.n).map λc:Nat=>(c:Int)).map (λa:Int=>b a.toNat)=(List.range k.n).map b:=by
  rw[List.map_map];exact ft λc _=>congrArg b (cJ c)
 rw[i,h.xl (by have:=q.hn;omega) p]at d;have l:V6 j (b o.toNat)^^^XP j (L.map λa=>b a.toNat)=0:=d;exact Ub l
theorem W9.all(l:cZ k){e:Nat->ByteArray}(h:W9 k.n e){L:bB}(p:L.Nodup){o:Int}(r:0<=o∧o<(k.n:Int))(hm:∀a,a∈L↔(0<=a∧a<(k.n:Int))∧a≠o):FZ 0 0 (L.map λa=>e a.toNat)=e o.toNat:=by
 have t:=l.hn;have f:∀c∈L.map (λa=>e a.toNat),ByteArray.size c=16:=λc b=>by
  obtain⟨a,d,rfl⟩:=aT.1 b;have:=(hm a).1 d;exact h.sz _ yq
 have b:=λj i=>h.out l p r hm (j:=j) i;generalize q:(L.map λa=>e a.toNat)=n at f b ⊢
 cases n with
 |nil=>
  have d:∃a,a∈L:=by
   by_cases s:o=0
   ·exact⟨1,(hm 1).2 ⟨yq,yq⟩⟩
   ·exact⟨0,(hm 0).2 ⟨yq,yq⟩⟩
  obtain⟨a,d⟩:=d;rw[List.map_eq_nil_iff.1 q]at d;cases d
 |cons g m=>
  show(if (0:Int)=0 then bX (eF (aK g) m)else g)=_
  rw[aA rfl,vI];refine zb (ow (λc b=>f c (cz _ b)) (f g A4)) (h.sz _ yq) λj i=>?_;rw[vJ i (λc b=>f c (cz _ b)) (f g A4)];exact b j i
def Xy(k:Be)(o:Int)(V:Nat->ByteArray):Prop:=∀a,a<k.n->(a:Int)≠o->(k.R0 a).block=V a
theorem Xy.map{o:Int}{b:Nat->ByteArray}(f:cZ k)(h:Xy k o b){L:bB}(d:∀a∈L,k.nd a≠o):L.map (λa=>k.zq (k.nd a))=(L.map k.nd).map λc=>b c.toNat:=by
 rw[List.map_map];refine ft λa e=>?_;have g:=gq f a;exact h _ yq (by have:=d a e;omega)
theorem Xy.one{o:Int}{a:Nat->ByteArray}(b:cZ k)(h:Xy k o a){c:Int}(e:k.nd c≠o):k.zq (k.nd c)=a (k.nd c).toNat:=by
 have d:=gq b c;exact h _ yq yq
theorem Uc(a:cZ k){o:Int}(v:-1<=o∧o<(k.n:Int)){j:Nat->ByteArray}(t:W9 k.n j)(s:Xy k o j):k.Yd o=j (k.nd (k.cn:Int)).toNat:=by
 have z:=a.Wl;have w:=DK a v;unfold Be.Yd;rw[s.map a λe p=>(w e (cE _ p)).2];by_cases l:k.oc o=(k.cn:Int)
 ·rw[l];have m:bF (k.n:Int) (k.cn:Int) (k.cn:Int)=eu k.n (k.cn:Int):=by unfold bF;rw[aA rfl,cJ]
  have r:∀d:ct,FZ (k.cn:Int) (k.cn:Int) d=FZ 0 0 d:=λd=>by
   cases d with
   |nil=>rfl
   |cons f q=>show(if (k.cn:Int)=(k.cn:Int)then bX (eF (aK f) q)else f)=(if (0:Int)=0 then bX (eF (aK f) q)else f);rw[aA rfl,aA rfl]
  have u:=gq a (k.cn:Int);rw[m,r];refine t.all a (kS a (λe p=>(gp p).1) (jL _ _)) u λc=>?_;rw[aT];constructor
  ·rintro⟨e,n,rfl⟩;have g:=gp n;exact⟨gq a e,λh=>g.2 (lL a g.1 yq h)⟩
  ·rintro⟨n,g⟩;have h:=nP a n;have x:=oa a c;have y:k.oc c≠-1:=λi=>by
    unfold Be.oc jV at i;rw[ay yq]at i;have:=eY (c+(k.n:Int)-(k.sn:Int)%(k.n:Int)) (b:=(k.n:Int)) yq;omega
   refine⟨k.oc c,dR.2 ⟨aT.2 ⟨(k.oc c).toNat,bn.2 yq,yq⟩,?_⟩,h⟩;have:k.oc c≠(k.cn:Int):=λi=>g (by rw[<-h];show k.nd (k.oc c)=_;rw[i]);simpa using this
 ·have m:bF (k.n:Int) (k.cn:Int) (k.oc o)=[(k.cn:Int)]:=by unfold bF;rw[ay l]
  rw[m];show(if k.oc o=(k.cn:Int)then _ else _)=_;rw[ay l]
theorem Sb(a:cZ k){o:Int}(n:0<=o∧o<(k.n:Int)){d:Nat->ByteArray}(m:W9 k.n d)(l:Xy k o d):k.Wr o=d o.toNat:=by
 unfold Be.Wr;rw[l.map a λe g=>((kX a).1 g).2];refine m.all a (kS a (λe g=>((kX a).1 g).1) (IV o)) n λc=>?_;rw[aT];constructor
 ·rintro⟨e,f,rfl⟩;exact⟨gq a e,((kX a).1 f).2⟩
 ·rintro⟨f,j⟩;have h:=nP a f;have p:=oa a c;have q:k.oc c≠-1:=λi=>by
   unfold Be.oc jV at i;rw[ay yq]at i;have:=eY (c+(k.n:Int)-(k.sn:Int)%(k.n:Int)) (b:=(k.n:Int)) yq;omega
  exact⟨k.oc c,(kX a).2 ⟨yq,by rw[show k.nd (k.oc c)=c from h];exact j⟩,h⟩
theorem oT(c:Nat):k.nd (c:Int)=(((c+k.sn)%k.n:Nat):Int):=by
 unfold Be.nd;simp
theorem Ud(c:cZ k){o:Int}(y:-1<=o∧o<(k.n:Int)){M:Nat->Nat->ByteArray}(s:W9 k.n λe=>M e k.sn)(x:Xy k o λe=>M e k.sn)(v:k.da.size=16)(E:k.oc o≠(k.n:Int)-1):k.par o=Wu k.n k.sn k.cn 2 k.da M (k.nd ((k.n:Int)-1)).toNat k.sn:=by
 have R:=c.Wl;have Q:=c.hn;have G:(k.n:Int)-1=((k.n-1:Nat):Int):=by omega
 have w:(k.nd ((k.n:Int)-1)).toNat=(k.n-1+k.sn)%k.n:=by rw[G,oT,cJ]
 have B:(k.nd (k.cn:Int)).toNat=(k.cn+k.sn)%k.n:=by rw[oT,cJ]
 have K:(k.n-1+k.sn)%k.n≠(k.cn+k.sn)%k.n:=λi=>by
  have:=tj (show k.n-1<k.n by omega) (show k.cn<k.n by omega) i;omega
 have z:=s.sz ((k.n-1+k.sn)%k.n) (Nat.mod_lt _ yq);have A:=s.sz ((k.cn+k.sn)%k.n) (Nat.mod_lt _ yq);rw[w];unfold Wu;rw[aA ⟨rfl,rfl⟩,ay K,aA rfl,mH];unfold Be.par;rw[ay E];have N:k.nd ((k.n:Int)-1)≠o:=jg c y (λh=>E h.symm) yq;have D:=x.one c N;rw[w]at D;by_cases i:k.oc o=(k.cn:Int)
 ·rw[aA i,vI];have u:∀f∈eu (k.n-1) (k.cn:Int),(0<=f∧f<(k.n:Int))∧k.nd f≠o:=λf p=>by
   have g:=gp p;exact⟨yq,jg c y (by rw[i];exact g.2) yq⟩
  rw[x.map c λf p=>(u f p).2];have F:∀q∈((eu (k.n-1) (k.cn:Int)).map k.nd).map (λe:Int=>M e.toNat k.sn),ByteArray.size q=16:=λq J=>by
   obtain⟨e,g,rfl⟩:=aT.1 J;obtain⟨f,r,rfl⟩:=aT.1 g;have:=gq c f;exact s.sz _ yq
  refine zb (ow F v) (fW (fW z A) v) λj t=>?_;rw[vJ t F v,kK (fW z A) v t,kK z A t];have I:=gq c (k.cn:Int);have l:=s.out c (L:=k.nd ((k.n:Int)-1)::(eu (k.n-1) (k.cn:Int)).map k.nd) (List.nodup_cons.2 ⟨λh=>by
    obtain⟨f,g,r⟩:=aT.1 h;have m:=gp g;have:=lL c (u f g).1 yq r;omega,kS c (λf p=>(u f p).1) (jL _ _)⟩) I (λe=>by
   rw[bj,aT];constructor
   ·rintro(rfl|⟨f,g,rfl⟩)
    ·exact⟨gq c _,λh=>by have:=lL c yq yq h;omega⟩
    ·have m:=gp g;exact⟨gq c f,λh=>m.2 (lL c (u f g).1 yq h)⟩
   ·rintro⟨g,r⟩;have l:=nP c g;have m:=oa c e;have P:k.oc e≠-1:=λn=>by
     unfold Be.oc jV at n;rw[ay yq]at n;have:=eY (e+(k.n:Int)-(k.sn:Int)%(k.n:Int)) (b:=(k.n:Int)) yq;omega
    have n:k.oc e≠(k.cn:Int):=λn=>r (by rw[<-l];show k.nd (k.oc e)=_;rw[n]);by_cases H:k.oc e=(k.n:Int)-1
    ·exact .inl (by rw[<-H];exact l.symm)
    ·refine .inr ⟨k.oc e,dR.2 ⟨aT.2 ⟨(k.oc e).toNat,bn.2 yq,yq⟩,by simpa using n⟩,l⟩) t
  rw[B]at l;have m:V6 j (M (k.nd ((k.n:Int)-1)).toNat k.sn)^^^XP j (((eu (k.n-1) (k.cn:Int)).map k.nd).map λe:Int=>M e.toNat k.sn)=V6 j (M ((k.cn+k.sn)%k.n) k.sn):=l;rw[w]at m;rw[<-m];generalize V6 j (M ((k.n-1+k.sn)%k.n) k.sn)=a;generalize V6 j k.da=d;generalize XP j _=q;rw[<-Nat.xor_assoc a a q,Nat.xor_self,Nat.zero_xor,Nat.xor_comm]
 ·have O:k.nd (k.cn:Int)≠o:=jg c y (λh=>i h.symm) yq;have C:=x.one c O;rw[B]at C;rw[ay i,D,C,mH]
theorem Vr(e:cZ k){o:Int}(g:-1<=o∧o<(k.n:Int)){M:Nat->Nat->ByteArray}(j:W9 k.n λd=>M d k.sn)(i:Xy k o λd=>M d k.sn)(l:k.da.size=16){c:Int}(a:c∈k.W o):k.nw o c=Wu k.n k.sn k.cn 2 k.da M (k.nd c).toNat k.sn:=by
 have m:=(F0 e g c a);by_cases b:c=(k.cn:Int)
 ·subst b;unfold Be.nw Wu;rw[aA rfl,aA ⟨rfl,rfl⟩,aA (by rw[oT,cJ])]
 ·have f:c=(k.n:Int)-1∧k.oc o≠(k.n:Int)-1:=by
   unfold Be.W dq at a;split at a
   ·exact absurd (aG.1 a) b
   ·rename_i h;refine⟨?_,h⟩;split at a
    ·exact aG.1 a
    ·simp at a;exact a.resolve_left b
  unfold Be.nw;rw[ay b,f.1];exact Ud e g j i l f.2
theorem OC(b:cZ k){e o:Int}(hw:Wk k e o)(f:k.da.size=16):(k.par o).size=16:=by
 have s:=b.Wl;have d:∀a:Int,k.nd a≠o->(k.zq (k.nd a)).size=16:=λa r=>by
  have n:=gq b a;have p:=(hw.live (m:=(k.nd a).toNat) yq).1;exact mR b yq
 unfold Be.par;by_cases g:k.oc o=(k.n:Int)-1
 ·rw[aA g];exact f
 rw[ay g];by_cases e:k.oc o=(k.cn:Int)
 ·rw[aA e];refine vE f λl j=>?_;obtain⟨a,h,rfl⟩:=aT.1 j;have i:=gp h;exact d a (jg b hw.ho (by rw[e];exact i.2) yq)
 ·rw[ay e,mH];exact fW (fW (d _ (jg b hw.ho (λc=>g c.symm) yq)) (d _ (jg b hw.ho (λc=>e c.symm) yq))) f
structure el where
 (lo b pb cb n S sb:Nat)
 AQ:Bool
 (zz Ar:Int)
structure LQ(c:el)(EM:Int)(gone:Bool)(O:Int)(HJ:Nat->aZ)(l:cQ)(lv:jI)(V:Nat->ByteArray):Prop where
 NN:∃E H U,l=⟨E,H,U,O⟩∧(0<=E∧E<=EM)∧(H=0∨H=c.Ar)∧(lv.has=true->lv.ep=E∧lv.ou=O∧1<=E∧H=c.Ar)
 out:(O=-1∧(gone=true∨c.AQ=true->0<=c.zz->lv.has=false))∨(O=c.zz∧0<=c.zz∧(gone=true∨c.AQ=true))
 XQ:gone=true->c.AQ=false∧0<=c.zz
 Xw:∀m,m<c.n->(m:Int)≠c.zz∨gone=false->∃F d q B,HJ m=⟨true,F,d,q,B,false,0,0,0,⟨#[]⟩⟩∧(0<=F∧F<=l.ep)∧(0<=d∧d<=l.ep)∧(0<=q∧q<=EM)∧B.size=16∧((m:Int)≠c.zz∨c.AQ=false->B=V m)∧(lv.has=true->(m:Int)≠O->F=l.ep∧(d=l.ep->q<=lv.sq))
 XR:∀m,m<c.n->(m:Int)=c.zz->gone=true->∃F,HJ m=⟨false,F,0,0,⟨#[]⟩,false,0,0,0,⟨#[]⟩⟩∧0<=F∧F<=l.ep
 sq:0<=lv.sq∧lv.sq<=EM
 sc:0<=lv.sc∧lv.sc<=1000000
structure kO(c:el)(EM last ed:Int)(L:ct)(M:Nat->Nat->ByteArray)(s:bK)(x:am)(W:World):Prop where
 KS:cy W c.b s
 sN:s.N=c.n
 sS:s.S=c.S
 sb:s.sb=c.sb
 ids:∃v,s.ids[Int.toNat (c.Ar-200)]?=some v∧v<=last
 il:s.ids.length=2
 sl:s.says.length=2
 Y7:xV c.lo s
 U2:iN W c.pb x ⟨c.Ar,last,[]⟩
 xN:x.N=(c.n:Int)
 xS:x.S=(c.S:Int)
 cb:x.cb=c.cb
 XW:x.ed=ed
 X9:X8 c.n c.S L M
 str:∀i,i<c.S->∃gone O,LQ c EM gone O (λm=>s.HJ m i) (s.NN i) (x.lv i) (λm=>M m i)
structure iD(c:el):Prop where
 hn:3<=c.n∧c.n<=6
 hS:1<=c.S∧c.S<=8
 zz:-1<=c.zz∧c.zz<(c.n:Int)
 lo:c.lo<=c.pb∧c.lo<=c.cb∧c.lo<=c.b
 Yo:c.lo<=c.sb
 Ar:200<=c.Ar∧c.Ar<202
structure XC(c:el)(kd at_:Int)(da:ByteArray)(sn cn:Nat):Prop where
 Wi:sn<c.S
 Wl:cn<c.n-1
 kind:(kd=3∧at_=(sn:Int)∧cn=0∧da=⟨#[]⟩∧(c.AQ=true->c.zz<0))∨(((kd=1∧da=⟨#[]⟩)∨(kd=2∧da.size=16))∧∃q:Nat,at_=(q:Int)∧q<c.S*(c.n-1)∧q/(c.n-1)=sn∧q%(c.n-1)=cn)
def WE(c:el)(s:bK)(x:am)(a sn d:Nat)(e:Int)(da:ByteArray)(b:Int)(g f:Bool):Be:=⟨⟨c.lo,a,c.b,c.pb,c.n,c.S,sn,c.Ar,s⟩,c.cb,d,e,da,x.ed,b,if c.AQ=true then c.zz else -1,if g=true then c.zz else -1,f,x.lv⟩
variable {c:el}{s:bK}{x:am}{sn cn:Nat}{kd E1 EM last ed:Int}{da:ByteArray}{gone Qn:Bool}{L:ct}{M:Nat->Nat->ByteArray}{W:World}
theorem Sc{d:Nat}{b:Int}(h:Xm (WE c s x d sn cn kd da E1 gone Qn) b):b=c.zz∧0<=c.zz∧(gone=true∨c.AQ=true):=by
 obtain⟨a,e⟩:=h;rcases a with a|a
 ·replace a:b=if c.AQ=true then c.zz else -1:=a;split at a
  ·exact⟨a,yq,.inr (by assumption)⟩
  ·omega
 ·replace a:b=if gone=true then c.zz else -1:=a;split at a
  ·exact⟨a,yq,.inl (by assumption)⟩
  ·omega
theorem Ue(d:iD c)(f:kO c EM last ed L M s x W){g:Nat}{w:Int}(m:XC c kd w da sn cn){O:Int}(l:LQ c EM gone O (λa=>s.HJ a sn) (s.NN sn) (x.lv sn) (λa=>M a sn))(u:(s.NN sn).ep<=E1∧1<=E1∧E1<=1000)(D:0<=EM∧EM<=900)(v:c.b<=g)(y:0<=ed∧ed<1000000):cZ (WE c s x g sn cn kd da E1 gone Qn):=by
 have n:=d.lo;have C:=d.zz;have B:=d.hn;refine{ hn:=d.hn,hS:=d.hS,Wi:=m.Wi,Xt:=d.Ar,sN:=f.sN,sS:=f.sS,hb:=v,XI:=⟨n.1,by show c.lo<=g;omega,f.Y7⟩,WH:=⟨u.2.1,by show E1<=_;omega⟩,WD:=n.2.1,hz:=?_,live:=λa k b=>?_,gone:=λa k b=>?_,Y3:=?_,YJ:=by show E1<=_;omega,hzz:=?_,Wl:=m.Wl,Yk:=by show 0<=x.ed∧x.ed<_;rw[f.XW];exact y}
 ·show(if c.AQ=true then c.zz else -1)<(c.n:Int)
  split<;>omega
 ·have t:(a:Int)≠c.zz∨gone=false:=by
   replace b:(a:Int)≠if gone=true then c.zz else -1:=b
   cases gone with
   |true=>exact .inl b
   |false=>exact .inr rfl
  obtain⟨e,p,q,o,h,i,z,A,r,_⟩:=l.Xw a k t;exact⟨e,p,q,o,h,⟨i.1,by show e<=E1;omega⟩,yq,yq,r⟩
 ·replace b:(a:Int)=if gone=true then c.zz else -1:=b;split at b
  ·rename_i j;obtain⟨e,h,i⟩:=l.XR a k b j;exact⟨e,h,i.1,by show e<=E1;omega⟩
  ·omega
 ·show(if gone=true then c.zz else -1)<(c.n:Int)
  split<;>omega
 ·show(if c.AQ=true then c.zz else -1)<0∨(if gone=true then c.zz else -1)<0
  cases j:gone with
  |true=>
   rw[(l.XQ j).1];exact .inl (show(-1:Int)<0 by decide)
  |false=>exact .inr (show(-1:Int)<0 by decide)
structure OpG(c:el)(s:bK)(x:am)(W:World)(sn cn:Nat)(kd:Int)(da:ByteArray)(ya last EM:Int)(M:Nat->Nat->ByteArray)(k:Be)(e o sq:Int)(gone:Bool)(Q0:Nat->aZ->Prop)(L0:cQ->Prop):Prop where
 xs:cZ k
 eq:∃E1 Qn,k=WE c s x W.z sn cn kd da E1 gone Qn
 Wv:WW k e o sq
 tag:DM k e o (sq+1)
 he:1<=e∧e<=EM+2
 sq2:sq<=EM
 bad:gone=true∨c.AQ=true->0<=c.zz->o=c.zz
 oz:o=-1∨(o=c.zz∧0<=c.zz∧(gone=true∨c.AQ=true))
 XQ:gone=true->c.AQ=false∧0<=c.zz
 YM:W9 c.n λm=>M m sn
 YN:Xy k o λm=>M m sn
 tags:∀m,m<c.n->(m:Int)≠c.zz∨gone=false->∃F d q B,s.HJ m sn=⟨true,F,d,q,B,false,0,0,0,⟨#[]⟩⟩∧(0<=d∧d<=e)∧(0<=q∧q<=EM)∧B.size=16∧((m:Int)≠c.zz∨c.AQ=false->B=M m sn)∧((m:Int)≠o->d=e->q<=sq)
 YO:∀m,m<c.n->(m:Int)=c.zz->gone=true->∃F,s.HJ m sn=⟨false,F,0,0,⟨#[]⟩,false,0,0,0,⟨#[]⟩⟩
 KS:fH k.toOpE Q0 L0 last W s
 mode:∃O,(((k.kd=3∨(k.kd≠3∧(k.Wf k.sn).has=false)∨(k.kd≠3∧(k.Wf k.sn).has=true∧ya-(k.Wf k.sn).sc>10))∧sq=0∧Way k O e o∧(∀m r,Q0 m r->Rf k k.E1 m r)∧∀l,L0 l->∃H U,l=⟨k.E1-1,H,U,O⟩∧(H=0∨H=k.Ar)) ∨
   ((k.kd≠3∧(k.Wf k.sn).has=true∧ya-(k.Wf k.sn).sc<=10)∧WW k e o sq∧(∃sc,k.Wf k.sn=⟨true,e,o,sq,sc⟩)∧(∀m r,Q0 m r->Rb k e o m r)∧∀l,L0 l->Lp k e o l))
theorem Sd{n S:Nat}(h:X8 n S L M){i:Nat}(a:i<S):W9 n λb=>M b i:=⟨h.sz i a,h.X1 i a⟩
theorem Gb(a:kO c EM last ed L M s x W){e:Nat->aZ->Prop}{d:cQ->Prop}(g:∀b,b<c.n->e b (s.HJ b sn))(f:d (s.NN sn)):fH (WE c s x W.z sn cn kd da E1 gone Qn).toOpE e d last W s:=⟨a.KS,rfl,λ_ _ _=>rfl,g,λ_ _=>rfl,f,a.ids,a.il,a.sl⟩
theorem Tc(X:iD c){ya:Int}(O:kO c EM last ed L M s x W){b4:Int}(D:XC c kd b4 da sn cn)(cA:0<=EM∧EM<=800)(V:c.b<=W.z)(b6:0<=ed∧ed<1000000) :
  ∃a7 g k m gone z y,OpG c s x W sn cn kd da ya last EM M a7 g k m gone z y:=by
 obtain⟨gone,j,o⟩:=O.str sn D.Wi;obtain⟨e,q,C,Z,cp,bk,b8⟩:=o.NN;have an:(s.NN sn).ep=e:=by rw[Z]
 have cB:=X.zz;have ca:=o.sq;have bs:=Sd O.X9 D.Wi;have cb:kd=1∨kd=2∨kd=3:=by rcases D.kind with b|⟨b|b,_⟩<;>omega
 have a5:kd=2->da.size=16:=λb=>by
  rcases D.kind with f|⟨f|f,_⟩
  ·omega
  ·omega
  ·exact f.2
 have cf:kd=3->c.AQ=true->c.zz<0:=λb=>by
  rcases D.kind with f|⟨f|f,_⟩
  ·exact f.2.2.2.2
  ·omega
  ·omega
 have G:=o.Xw;rw[an]at G;have aq:∀(E1 g k m:Int)(Qn:Bool)(z:Nat->aZ->Prop)(y:cQ->Prop),e<=E1∧1<=E1∧E1<=EM+1->E1<=g∧g<=EM+2->(0<=m∧m<=EM)->(gone=true∨c.AQ=true->0<=c.zz->k=c.zz)->(k=-1∨(k=c.zz∧0<=c.zz∧(gone=true∨c.AQ=true)))->(Qn=true->E1<g)->(e<g∨(e=g∧m=(x.lv sn).sq∧(x.lv sn).has=true∧k=j))->(∀a,a<c.n->z a (s.HJ a sn))->y (s.NN sn) ->
   (∃j,(((kd=3∨(kd≠3∧(x.lv sn).has=false)∨(kd≠3∧(x.lv sn).has=true∧ya-(x.lv sn).sc>10))∧m=0∧(WW (WE c s x W.z sn cn kd da E1 gone Qn) g k m->Way (WE c s x W.z sn cn kd da E1 gone Qn) j g k)∧(∀a I,z a I->Rf (WE c s x W.z sn cn kd da E1 gone Qn) E1 a I)∧∀n,y n->∃q C,n=⟨E1-1,q,C,j⟩∧(q=0∨q=c.Ar)) ∨
   ((kd≠3∧(x.lv sn).has=true∧ya-(x.lv sn).sc<=10)∧(∃b0,x.lv sn=⟨true,g,k,m,b0⟩)∧(∀a I,z a I->Rb (WE c s x W.z sn cn kd da E1 gone Qn) g k a I)∧∀n,y n->Lp (WE c s x W.z sn cn kd da E1 gone Qn) g k n))) ->
   OpG c s x W sn cn kd da ya last EM M (WE c s x W.z sn cn kd da E1 gone Qn) g k m gone z y:=λE1 g k m Qn z y cm a8 a9 N T bb a0 bd bg b5=>by
  have a4:cZ (WE c s x W.z sn cn kd da E1 gone Qn):=Ue X O D o (by rw[an];omega) yq V b6;have aR:∀a:Nat,a<c.n->(a:Int)≠k->(a:Int)≠c.zz∨(gone=false∧c.AQ=false):=λa h p=>by
   by_cases b:(a:Int)=c.zz
   ·refine .inr ?_
    cases J:gone with
    |true=>exact absurd (b.trans (N (.inl J) yq).symm) p
    |false=>
     cases ac:c.AQ with
     |true=>exact absurd (b.trans (N (.inr ac) yq).symm) p
     |false=>exact⟨rfl,rfl⟩
   ·exact .inl b
  have a3:Wk (WE c s x W.z sn cn kd da E1 gone Qn) g k:=⟨⟨a8.1,yq⟩,by rcases T with b|⟨b,_⟩<;>(show -1<=k∧k<(c.n:Int));omega;omega,λcl V=>by obtain⟨f,l,d⟩:=Sc V;rw[f];exact(N d l).symm,bb⟩;have a6:DM (WE c s x W.z sn cn kd da E1 gone Qn) g k (m+1):=λa h p=>by
   obtain⟨t,u,w,H,i,v,ad,P,Q,K,E⟩:=G a h ((aR a h p).imp_right λb=>b.1);have S:(WE c s x W.z sn cn kd da E1 gone Qn).R0 a=s.HJ a sn:=rfl;replace i:s.HJ a sn=_:=i;rw[S,i];show Xi u w g (m+1)=true∧¬(u=g∧w=m+1);unfold Xi;rcases a0 with b|⟨b,l,d,r⟩
   ·exact⟨by rw[ej];exact .inl (dc yq),yq⟩
   ·have A:=(E d (by rw[<-r];exact p)).2;by_cases U:u=e
    ·have co:=A U;exact⟨by rw[ej,ch];exact .inr ⟨dc yq,dc yq⟩,yq⟩
    ·exact⟨by rw[ej];exact .inl (dc yq),yq⟩
  have aV:WW (WE c s x W.z sn cn kd da E1 gone Qn) g k m:=⟨a3,yq,cb,λb=>⟨a5 b,OC a4 a3 (a5 b),a6⟩,λb f=>by
   rcases T with l|⟨l,d,r⟩
   ·exact absurd l f
   ·have A:c.AQ=false:=by
     cases ac:c.AQ with
     |true=>have:=cf b ac;omega
     |false=>rfl
    have U:gone=true:=r.resolve_right (by rw[A];exact λb=>Bool.noConfusion b);exact⟨by show(if gone=true then c.zz else -1)=k;rw[aA U,l],by show(if c.AQ=true then c.zz else -1)<0;rw[A];exact(by decide:(-1:Int)<0)⟩⟩
  refine⟨a4,⟨E1,Qn,rfl⟩,aV,a6,yq,a9.2,N,T,o.XQ,bs,λa h p=>?_,λa h b9=>?_,λa h f l=>?_,Gb O bd bg,?_⟩
  ·obtain⟨t,u,w,H,i,v,ad,P,Q,K,E⟩:=G a h ((aR a h p).imp_right λb=>b.1);have S:(WE c s x W.z sn cn kd da E1 gone Qn).R0 a=s.HJ a sn:=rfl;replace i:s.HJ a sn=_:=i;rw[S,i];exact K ((aR a h p).imp_right λb=>b.2)
  ·obtain⟨t,u,w,H,i,v,ad,P,Q,K,E⟩:=G a h b9;refine⟨t,u,w,H,i,yq,P,Q,K,λp cq=>?_⟩;rcases a0 with b|⟨b,l,d,r⟩
   ·omega
   ·rw[l];exact(E d (by rw[<-r];exact p)).2 yq
  ·obtain⟨t,i,_⟩:=o.XR a h f l;exact⟨t,i⟩
  ·obtain⟨j,b⟩:=b5;rcases b with⟨f,l,d,r⟩|⟨f,l,d⟩
   ·exact⟨j,.inl ⟨f,l,d aV,r⟩⟩
   ·exact⟨j,.inr ⟨f,aV,l,d⟩⟩
 have b7:∀a,a<c.n->0<=(s.HJ a sn).Bf∧(s.HJ a sn).Bf<=e:=λa h=>by
  by_cases b:(a:Int)=c.zz∧gone=true
  ·obtain⟨t,i,v⟩:=o.XR a h b.1 b.2;rw[an]at v;replace i:s.HJ a sn=_:=i;rw[i];exact v
  ·obtain⟨t,u,w,H,i,v,_⟩:=G a h (by
    by_cases f:(a:Int)=c.zz
    ·refine .inr ?_
     cases J:gone with
     |true=>exact absurd ⟨f,J⟩ b
     |false=>rfl
    ·exact .inl f)
   replace i:s.HJ a sn=_:=i;rw[i];exact v
 have ak:∀(E1 g:Int)(Qn:Bool)(a:Nat),a<c.n->e<=g->Rf (WE c s x W.z sn cn kd da E1 gone Qn) g a (s.HJ a sn):=λE1 g Qn a h b=>⟨(s.HJ a sn).Bf,by have:=b7 a h;omega,rfl⟩;by_cases B:kd≠3∧(x.lv sn).has=true∧ya-(x.lv sn).sc<=10
 ·obtain⟨b1,b2,cs,b3⟩:=b8 B.2.1;have R:gone=true∨c.AQ=true->0<=c.zz->j=c.zz:=λf l=>by
   rcases o.out with⟨_,d⟩|⟨d,_⟩
   ·have:=d f l;rw[B.2.1]at this;cases this
   ·exact d
  refine⟨_,e,j,(x.lv sn).sq,gone,_,_,aq e e j (x.lv sn).sq false (Rb (WE c s x W.z sn cn kd da e gone false) e j) (Lp (WE c s x W.z sn cn kd da e gone false) e j) yq yq ca R ?_ (λb=>by cases b) (.inr ⟨rfl,rfl,B.2.1,rfl⟩) (λa h=>?_) ?_ ⟨j,.inr ⟨B,⟨(x.lv sn).sc,?_⟩,λ_ _ b=>b,λ_ b=>b⟩⟩⟩
  ·rcases o.out with⟨d,_⟩|d
   ·exact .inl d
   ·exact .inr d
  ·by_cases f:(a:Int)=j∨(a:Int)=(WE c s x W.z sn cn kd da e gone false).z
   ·exact .inl ⟨f,ak e e false a h (cS _)⟩
   ·refine .inr ⟨f,?_⟩;have l:(a:Int)≠c.zz∨gone=false:=by
     by_cases d:(a:Int)=c.zz
     ·refine .inr ?_
      cases J:gone with
      |true=>exact absurd (.inl (d.trans (R (.inl J) yq).symm)) f
      |false=>rfl
     ·exact .inl d
    obtain⟨t,u,w,H,i,v,ad,P,Q,K,E⟩:=G a h l;replace i:s.HJ a sn=_:=i;have d:=(E B.2.1 (λb=>f (.inl b))).1;show s.HJ a sn={ s.HJ a sn with Bf:=e};rw[i,d]
  ·rw[Z,b3];exact⟨C,rfl⟩
  ·have A:x.lv sn=⟨(x.lv sn).has,(x.lv sn).ep,(x.lv sn).ou,(x.lv sn).sq,(x.lv sn).sc⟩:=rfl;rw[B.2.1,b1,b2]at A;exact A
 ·have a2:kd=3∨(kd≠3∧(x.lv sn).has=false)∨(kd≠3∧(x.lv sn).has=true∧ya-(x.lv sn).sc>10):=by
   by_cases d:kd=3
   ·exact .inl d
   ·cases bt:(x.lv sn).has with
    |false=>exact .inr (.inl ⟨d,rfl⟩)
    |true=>
     refine .inr (.inr ⟨d,rfl,?_⟩);by_cases r:ya-(x.lv sn).sc<=10
     ·exact absurd ⟨d,bt,r⟩ B
     ·omega
  have a1:∀n,n=s.NN sn->∃q C,n=⟨e+1-1,q,C,j⟩∧(q=0∨q=c.Ar):=λn b=>⟨q,C,by rw[b,Z,show e+1-1=e by omega],bk⟩;by_cases F:(gone=true∨c.AQ=true)∧0<=c.zz∧j≠c.zz
  ·have bl:j=-1:=by
    rcases o.out with⟨d,_⟩|⟨d,_⟩
    ·exact d
    ·exact absurd d F.2.2
   refine⟨_,e+2,c.zz,0,gone,_,_,aq (e+1) (e+2) c.zz 0 gone (Rf (WE c s x W.z sn cn kd da (e+1) gone gone) (e+1)) (λn=>n=s.NN sn) yq yq yq (λ_ _=>rfl) (.inr ⟨rfl,F.2.1,F.1⟩) (λ_=>yq) (.inl yq) (λa h=>ak _ _ _ a h yq) rfl ⟨j,.inl ⟨a2,rfl,λY=>⟨Y,.inr ⟨by show e+2=e+1+1;omega,bl,⟨?_,F.2.1⟩,λb=>?_⟩⟩,λ_ _ b=>b,a1⟩⟩⟩
   ·rcases F.1 with b|b
    ·exact .inr (by show c.zz=if gone=true then c.zz else -1;rw[aA b])
    ·exact .inl (by show c.zz=if c.AQ=true then c.zz else -1;rw[aA b])
   ·replace b:0<=if gone=true then c.zz else -1:=b;show gone=true;split at b
    ·assumption
    ·omega
  ·have R:gone=true∨c.AQ=true->0<=c.zz->j=c.zz:=λf l=>Decidable.byContradiction λd=>F ⟨f,l,d⟩;refine⟨_,e+1,j,0,gone,_,_,aq (e+1) (e+1) j 0 false (Rf (WE c s x W.z sn cn kd da (e+1) gone false) (e+1)) (λn=>n=s.NN sn) yq yq yq R ?_ (λb=>by cases b) (.inl yq) (λa h=>ak _ _ _ a h yq) rfl ⟨j,.inl ⟨a2,rfl,λY=>⟨Y,.inl ⟨rfl,rfl,rfl⟩⟩,λ_ _ b=>b,a1⟩⟩⟩;rcases o.out with⟨d,_⟩|d
   ·exact .inl d
   ·exact .inr d
end Go.Proofs.YtcmpkkapkdlfhaaGreat
