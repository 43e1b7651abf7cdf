import Derived.Test.YtcmpkkapkdlfhaaGreatRef17e
namespace Go.Proofs.YtcmpkkapkdlfhaaGreat
open Go.RowKit Tryz
set_option maxHeartbeats 4000000
set_option maxRecDepth 100000
section
variable (a d e O k:Int)(n b h i f c:Nat)(w:World)
def pf:av:=[yt (ae b) n f,yt (ae h) 2 2,yt (ae i) 2 2]
def wz:av:=rp 3 (i6 0)++[bO_ false]++rp 3 (i6 0)++[sT ⟨#[]⟩,bO_ false]++rp 3 (i6 0)++[sT ⟨#[]⟩]
def PQ:av:=([i6 k,i6 a,i6 O]++ka)
@[simp] def GS:ax:=[⟨c,119,false,pf n b h i f⟩,⟨w.z,73,true,[i6 a,i6 d,i6 e,i6 O]⟩,⟨w.z+1,63,true,wz⟩]
theorem UG(sn:Int)(a:Int)(d:Int)(e:Int)(O:Int)(k:Int)(n:Nat)(b:Nat)(h:Nat)(i:Nat)(f:Nat)(c:Nat)(w:World):Out.prune [3,6,8,14,15] (fp prog 22 w z8 ((aj (aa (al f98) [1,0])).toList.take 7) ⟨[(0,pt c 0),(1,i6 sn),(3,i6 k),(6,pt w.z 0),(8,pt (w.z+1) 0)],GS a d e O n b h i f c w,[],w.z+2⟩ [.op y2,.op y2,.op y2,.op (oA 0 0 1),.op y2,.op (oA 1 0 4),.op HA])=some ⟨[(0:Int)<=sn∧sn<((n:Nat):Int)],aX [(c,0,1),(w.z,0,4)],⟨[(3,i6 k),(6,pt w.z 0),(8,pt (w.z+1) 0),(14,.agg #[i6 a,i6 d,i6 e,i6 O]),(15,pt b (0+(Int.toNat sn)*4))],GS a d e O n b h i f c w,[],w.z+2⟩⟩:=v7
end
variable (sn fr ya c i:Int)
theorem rH(m i O k:Int)(L:List cQ)(n a f e d b v8:Nat)(U:0<=sn∧sn<n)(T:L.length=n)(w:World)(u:A2 w b 119 [yt (ae a) n d,yt (ae f) 2 2,yt (ae e) 2 2])(r:ah w v8 73 4 (ae a) n d (ai cQ.cells L)):aC 98 #[pt b 0,i6 sn,.agg #[i6 c,i6 m,i6 i,i6 O],i6 k] w (λD q=>D=.returned (.agg #[i6 k,i6 c,i6 O,bO_ false,i6 0,i6 0,i6 0,sT ⟨#[]⟩,bO_ false,i6 0,i6 0,i6 0,sT ⟨#[]⟩])∧ah q v8 73 4 (ae a) n d (ai cQ.cells (L.set (Int.toNat sn) ⟨c,m,i,O⟩))∧au (λg=>g=a) w q):=by
 refine cH (S:=z8) (n:=22) func98 (ab.start (bk:=[⟨b,119,false,pf n a f e d⟩]) (wn:=[]) (λz h=>by obtain rfl:=aG.1 h;exact u) z1 z1 z1) ?_;have V:=(r.own a ⟨_,rfl,rfl⟩).2;have W:a≠b:=λK=>absurd (bS (r.ty a ⟨_,rfl,rfl⟩) (K▸aw u)) (by decide);refine Aq 9 (dz 2 0) [0,1,3,6,8] [] [] [.code [1,0],.code [1,1]] ⟨[(0,pt b 0),(1,i6 sn),(3,i6 k),(6,pt w.z 0),(8,pt (w.z+1) 0)],GS c m i O n a f e d b w,[],w.z+2⟩ ?_;refine eT (f:=1) (ls:=bA 8 127) 7 _ _ v7 v7 v7 v7 (UG sn c m i O k n a f e d b w) ⟨⟨yq,yq⟩,trivial⟩ λJ A=>?_;replace A:w.z+2<=J:=A;refine oK (i:=7) (w:=w) (S':=(λg=>g=a)) (ls':=bA 8 255) (x:=Instr.storeAt 73 (pt a (0+(Int.toNat sn)*4)) (.agg #[i6 c,i6 m,i6 i,i6 O])) (λC=>ah C v8 73 4 (ae a) n d (ai cQ.cells (L.set (Int.toNat sn) ⟨c,m,i,O⟩))) v7 v7 v7 v7 (λI l=>?_) (λB M R=>?_)
 ·have N:=r.x2 l.x2 (λ_ _ p=>p);have Q:=l.wide (S':=(λg=>g=a)) (λ_ p=>p.elim);obtain⟨q,E,s,F,_⟩:=fj (P:=prog) (t:=73) (v:=.agg #[i6 c,i6 m,i6 i,i6 O]) (0+Int.toNat sn*4) 4 N rfl yq v7 (aU rfl);rw[show 0+Int.toNat sn*4=Int.toNat sn*4 by omega,show(.agg #[i6 c,i6 m,i6 i,i6 O]:Value).cells.toList=cQ.cells ⟨c,m,i,O⟩from rfl,gF pS yq]at s;exact⟨q,E,s,Q.A3 (λ_ p=>p) F (λg ⟨y,j,o⟩=>.inl (by cases j;exact o)) (λz h ⟨y,j,o⟩=>by cases j;simp at h;rcases h with rfl|rfl|rfl<;>simp only at o<;>omega)⟩
 refine cd v7 ?_;refine z6 13 (dz 7 0xd00280010318001001800) [8] [] [(w.z,0,1),(w.z,3,1),(w.z+1,0,13)] [y6 15] [⟨b,119,false,pf n a f e d⟩,⟨w.z,73,true,[i6 c,i6 m,i6 i,i6 O]⟩,⟨w.z+1,63,true,PQ c O k⟩] [] B.z ?_;refine B1 [[⟨false,2,0,13⟩]] [aE (PQ c O k)] [(w.z+1,0,13)] ?_;intro I l;exact⟨rfl,M.x2 l.x2 (λg ⟨y,j,o⟩ ⟨z,h,H,G⟩=>by cases j;simp at h;rcases h with rfl|rfl|rfl<;>simp at H G o<;>omega),(ab.A0 R l).x2⟩
section
variable (sn fr ya c m i O:Int)(n a f e d b:Nat)(w:World)(h l:Nat)
def pg:av:=(pf n a f e d)
def ph:av:=[i6 8,i6 sn]++rp 6 (i6 0)++[sT ⟨#[]⟩]
def wA:av:=wz
def BE:av:=([i6 1,i6 (c+1),i6 O]++ka)
def GT:aH:=[1,1,1,1,0,1,0,1,1,1,1,1,0]
def BF:aH:=[1,1,1,1,0,1,0,1,1,1,1,1,1]
def PR:cj:=(bA 10 255)
def GU:cj:=(bA 10 511)
def PS:cj:=(bA 10 1023)
@[simp] def nf:ax:=[⟨b,119,false,pg n a f e d⟩,⟨w.z,59,true,ph sn⟩,⟨w.z+1,63,true,wA⟩]
@[simp] def PT:ax:=[⟨b,119,false,pg n a f e d⟩,⟨w.z,59,true,ph sn⟩,⟨w.z+1,63,true,wA⟩,⟨h,73,true,[i6 0,i6 0,i6 0,i6 0]⟩]
@[simp] def PU:ax:=[⟨b,119,false,pg n a f e d⟩,⟨w.z,59,true,ph sn⟩,⟨w.z+1,63,true,wA⟩,⟨h,73,true,[i6 c,i6 m,i6 i,i6 O]⟩]
@[simp] def BG:ax:=[⟨b,119,false,pg n a f e d⟩,⟨w.z,59,true,ph sn⟩,⟨w.z+1,63,true,wA⟩,⟨h,73,true,[i6 (c+1),i6 fr,i6 (ya+30),i6 O]⟩]
def PV(L:List cQ)(n:Nat)(a:Nat)(d:Nat)(v8:Nat)(w:World):Exit->Act->aI:=bodyPost prog f62 (λf b=>f=.returned (aE (BE c O))∧ah b v8 73 4 (ae a) n d (ai cQ.cells (L.set (Int.toNat sn) ⟨c+1,fr,ya+30,O⟩))∧au (λe=>e=a) w b)
theorem UH(z2:Nat):Out.prune [0,1,2,7,8,29] (fu prog 139 w z8 (aj (aa (al f62) (Ac 28))) (aj (aa (al f62) (Ac 28))).toList ⟨[(0,pt b 0),(1,i6 ya),(2,i6 fr),(7,pt w.z 0),(8,pt (w.z+1) 0),(9,bO_ true)],nf sn n a f e d b w,[],z2⟩ [(false,.op y2),(false,.op y2),(false,.op y2),(false,.op y2),(false,.op (oA 1 0 1)),(false,.op y2),(false,.op ⟨false,3,[]⟩),(false,.op y2),(false,.op y2),(false,.op (oA 1 1 1)),(false,.op y2),(false,.op y2),(false,.op y2),(false,.op (oA 0 0 1)),(false,.op y2),(false,.op y2),(false,.op ⟨false,3,[]⟩)])=some ⟨(MA 13),aX [(w.z,0,1),(w.z,1,1),(b,0,1)],⟨[(0,pt b 0),(1,i6 ya),(2,i6 fr),(7,pt w.z 0),(8,pt (w.z+1) 0),(29,bO_ (decide ((sn:Int)>=(n:Int))))],nf sn n a f e d b w,[],z2⟩⟩:=v7
theorem UI(z4:Nat):Out.prune [0,1,2,7,8,38] (fp prog 139 w z8 ((aj (aa (al f62) (Ac 30))).toList.take 8) ⟨[(0,pt b 0),(1,i6 ya),(2,i6 fr),(7,pt w.z 0),(8,pt (w.z+1) 0)],nf sn n a f e d b w,[⟨a,0+(Int.toNat sn)*4,[i6 c,i6 m,i6 i,i6 O]⟩],z4⟩ [.op y2,.op y2,.op y2,.op (oA 0 0 1),.op y2,.op (oA 1 1 1),.op HA,.op ⟨false,0,[⟨true,0,0,4⟩]⟩])=some ⟨[(0:Int)<=sn∧sn<((n:Nat):Int)],aX [(b,0,1),(w.z,1,1),(a,0+(Int.toNat sn)*4,4)],⟨[(0,pt b 0),(1,i6 ya),(2,i6 fr),(7,pt w.z 0),(8,pt (w.z+1) 0),(38,.agg #[i6 c,i6 m,i6 i,i6 O])],nf sn n a f e d b w,[⟨a,0+(Int.toNat sn)*4,[i6 c,i6 m,i6 i,i6 O]⟩],z4⟩⟩:=v7
theorem UJ:iC [0,1,2,7,8,10] (fY prog 139 (aj (aa (al f62) (Ac 30))) 1 GU ⟨[(10,pt h 0),(0,pt b 0),(1,i6 ya),(2,i6 fr),(7,pt w.z 0),(8,pt (w.z+1) 0),(38,.agg #[i6 c,i6 m,i6 i,i6 O])],PT sn n a f e d b w h,[⟨a,0+(Int.toNat sn)*4,[i6 c,i6 m,i6 i,i6 O]⟩],l⟩ [(9,false,oA 3 0 4)])=some (⟨[],aX [(h,0,4)],⟨[(0,pt b 0),(1,i6 ya),(2,i6 fr),(7,pt w.z 0),(8,pt (w.z+1) 0),(10,pt h 0)],PU sn c m i O n a f e d b w h,[⟨a,0+(Int.toNat sn)*4,[i6 c,i6 m,i6 i,i6 O]⟩],l⟩⟩,0,PS):=v7
theorem UK:iC [0,1,2,7,8,10] (fY prog 139 (aj (aa (al f62) (Ac 30))) 2 PR ⟨[(0,pt b 0),(1,i6 ya),(2,i6 fr),(7,pt w.z 0),(8,pt (w.z+1) 0),(38,.agg #[i6 c,i6 m,i6 i,i6 O])],nf sn n a f e d b w,[⟨a,0+(Int.toNat sn)*4,[i6 c,i6 m,i6 i,i6 O]⟩],l⟩ [(8,false,y2),(9,false,oA 3 0 4)])=some (⟨[],aX [(l,0,4)],⟨[(0,pt b 0),(1,i6 ya),(2,i6 fr),(7,pt w.z 0),(8,pt (w.z+1) 0),(10,pt l 0)],[⟨b,119,false,pg n a f e d⟩,⟨w.z,59,true,ph sn⟩,⟨w.z+1,63,true,wA⟩,⟨l,73,true,[i6 c,i6 m,i6 i,i6 O]⟩],[⟨a,0+(Int.toNat sn)*4,[i6 c,i6 m,i6 i,i6 O]⟩],l+1⟩⟩,0,PS):=v7
end
theorem BH(m i O:Int)(L:List cQ)(n a f e d b v8:Nat)(ad:0<=sn∧sn<n)(aV:n<=8)(W:L.length=n)(an:0<=c∧c<16777215)(a2:0<=ya∧ya<=1099511627776)(V:L[Int.toNat sn]?=some ⟨c,m,i,O⟩)(M:m=0∨m=fr)(w:World)(D:A2 w b 119 [yt (ae a) n d,yt (ae f) 2 2,yt (ae e) 2 2])(r:ah w v8 73 4 (ae a) n d (ai cQ.cells L)):aC 62 #[pt b 0,i6 ya,i6 fr,.agg #[i6 8,i6 sn,i6 0,i6 0,i6 0,i6 0,i6 0,i6 0,sT ⟨#[]⟩]] w (λC y=>C=.returned (.agg #[i6 1,i6 (c+1),i6 O,bO_ false,i6 0,i6 0,i6 0,sT ⟨#[]⟩,bO_ false,i6 0,i6 0,i6 0,sT ⟨#[]⟩])∧ah y v8 73 4 (ae a) n d (ai cQ.cells (L.set (Int.toNat sn) ⟨c+1,fr,ya+30,O⟩))∧au (λj=>j=a) w y):=by
 refine cH (S:=z8) (n:=139) func62 (ab.start (bk:=[⟨b,119,false,pg n a f e d⟩]) (wn:=[]) (λE p=>by obtain rfl:=aG.1 p;exact D) z1 z1 z1) ?_;have ak:=(r.own a ⟨_,rfl,rfl⟩).2;have a1:a≠b:=λT=>absurd (bS (r.ty a ⟨_,rfl,rfl⟩) (T▸aw D)) (by decide);refine z6 11 (dz 3 151001088) [0,1,2,7,8,11] [] [(w.z,0,9)] [.ops [1,0] [1,2],.code [1,1]] (nf sn n a f e d b w) [] (w.z+2) ?_;refine DV (bO_ true) _ _ (some 12) [] tI rfl (λs q=>Mb sn yq s) λz a0=>?_;refine Aq 7 [y2] [0,1,2,7,8,9] [] [] [y6 28,y6 29,y6 15] ⟨[(0,pt b 0),(1,i6 ya),(2,i6 fr),(7,pt w.z 0),(8,pt (w.z+1) 0),(9,bO_ true)],nf sn n a f e d b w,[],z⟩ ?_;refine dm _ _ v7 v7 v7 (UH sn fr ya n a f e d b w z) ⟨rfl,rfl,rfl,rfl,rfl,rfl,rfl,rfl,rfl,rfl,rfl,rfl,rfl,trivial⟩ λo F=>?_;replace F:z<=o:=F;refine aD [⟨a,0+Int.toNat sn*4,[i6 c,i6 m,i6 i,i6 O]⟩] (λ_ j k=>?_) ?_
 ·simp only[bj,cv,or_false]at k;subst k;exact⟨λg=>g,ak,dj pS r V⟩
 refine Aq 6 [y2] [0,1,2,7,8] [dF ((sn:Int)>=(n:Int))] [] [y6 30,y6 31] ⟨[(0,pt b 0),(1,i6 ya),(2,i6 fr),(7,pt w.z 0),(8,pt (w.z+1) 0)],nf sn n a f e d b w,[⟨a,0+(Int.toNat sn)*4,[i6 c,i6 m,i6 i,i6 O]⟩],o⟩ ?_;have B:∀(h l:Nat),o<=h->o<=l->aF [] prog (al f62) 139 w z8 (PV sn fr ya c O L n a d v8 w) [y6 31] ⟨[(0,pt b 0),(1,i6 ya),(2,i6 fr),(7,pt w.z 0),(8,pt (w.z+1) 0),(10,pt h 0)],PU sn c m i O n a f e d b w h,[⟨a,0+(Int.toNat sn)*4,[i6 c,i6 m,i6 i,i6 O]⟩],l⟩:=by
  intro h l X u;suffices A:aF [] prog (al f62) 139 w z8 (PV sn fr ya c O L n a d v8 w) [.ops GT [4,5],.code BF,y6 63] ⟨[(0,pt b 0),(1,i6 ya),(2,i6 fr),(7,pt w.z 0),(8,pt (w.z+1) 0),(10,pt h 0),(75,pt b 0),(77,i6 sn),(78,.agg #[i6 (c+1),i6 fr,i6 (ya+30),i6 O])],BG sn fr ya c O n a f e d b w h,[⟨a,0+(Int.toNat sn)*4,[i6 c,i6 m,i6 i,i6 O]⟩],l⟩by
   by_cases v:m=0
   ·skip;refine Aq 68 (dz 40 0x400380101180001023802001013800010038020100380000100380040000040000000101380100100180) [0,1,2,7,8,10,75,77,78] ([tT]++rE 5 (oE ((m != 0)=false) (c8.2 v))++[fF,fF,fF,fF,fF,fF,dF ((c:Int)>=16777215),JL (c+1),JL (ya+30)]) [(w.z,0,1),(h,1,1),(h,0,1),(h,0,1),(h,0,1),(h,1,1),(h,2,1),(w.z,1,1),(h,0,4)] [.ops GT [4,5],.code BF,y6 63] ⟨[(0,pt b 0),(1,i6 ya),(2,i6 fr),(7,pt w.z 0),(8,pt (w.z+1) 0),(10,pt h 0),(75,pt b 0),(77,i6 sn),(78,.agg #[i6 (c+1),i6 fr,i6 (ya+30),i6 O])],BG sn fr ya c O n a f e d b w h,[⟨a,0+(Int.toNat sn)*4,[i6 c,i6 m,i6 i,i6 O]⟩],l⟩ ?_;exact A
   ·skip;have x:m=fr:=M.resolve_left v;refine Aq 68 (dz 40 0x40038010118000102380200101380001003802010038000010038004000003110101391000101380100100180) [0,1,2,7,8,10,75,77,78] ([tT]++rE 5 (oE ((m != 0)=true) (bne_iff_ne.2 v))++rE 5 (oE ((m != fr)=false) (c8.2 x))++[fF,dF ((c:Int)>=16777215),JL (c+1),JL (ya+30)]) [(w.z,0,1),(h,1,1),(h,1,1),(h,0,1),(h,0,1),(h,0,1),(h,1,1),(h,2,1),(w.z,1,1),(h,0,4)] [.ops GT [4,5],.code BF,y6 63] ⟨[(0,pt b 0),(1,i6 ya),(2,i6 fr),(7,pt w.z 0),(8,pt (w.z+1) 0),(10,pt h 0),(75,pt b 0),(77,i6 sn),(78,.agg #[i6 (c+1),i6 fr,i6 (ya+30),i6 O])],BG sn fr ya c O n a f e d b w h,[⟨a,0+(Int.toNat sn)*4,[i6 c,i6 m,i6 i,i6 O]⟩],l⟩ ?_;exact A
  refine aD [] (λ_ _ g=>by cases g) ?_;refine Ip (w:=w) (S':=(λj=>j=a)) (Y:=Unit) (λ_=>aE (BE c O)) (λ_=>BG sn fr ya c O n a f e d b w h) (λ_ I=>ah I v8 73 4 (ae a) n d (ai cQ.cells (L.set (Int.toNat sn) ⟨c+1,fr,ya+30,O⟩))) (v7:_=some (98,[pt b 0,i6 sn,.agg #[i6 (c+1),i6 fr,i6 (ya+30),i6 O],i6 1],some 79,[])) tI (λs q=>?_) (λaq H U ac=>?_)
  ·have Z:=q.wide (S':=(λj=>j=a)) (λ_ g=>g.elim);refine(rH sn (c+1) fr (ya+30) O 1 L n a f e d b v8 ad W s (q.at_ 0 rfl) (r.x2 q.x2 (λ_ _ g=>g))).mono λC y Q=>?_;obtain⟨x,J,K⟩:=Q;exact⟨(),x,J,Z.A3 (λ_ g=>g) K (λj k=>.inl k) (λE p k=>by simp at p;rcases p with rfl|rfl|rfl|rfl<;>simp only at k<;>omega)⟩
  refine z6 5 [oA 2 0 13] [0,1,2,7,8,10] [] [(w.z+1,0,13)] [.code BF,y6 63] [⟨b,119,false,pg n a f e d⟩,⟨w.z,59,true,ph sn⟩,⟨w.z+1,63,true,BE c O⟩,⟨h,73,true,[i6 (c+1),i6 fr,i6 (ya+30),i6 O]⟩] [] H.z ?_;refine B1 [[⟨false,2,0,13⟩]] [aE (BE c O)] [(w.z+1,0,13)] ?_;intro s q;exact⟨rfl,U.x2 q.x2 (λj ⟨aR,N,k⟩ ⟨E,p,R,P⟩=>by cases N;simp at p;rcases p with rfl|rfl|rfl|rfl<;>simp at R P k<;>omega),(ab.A0 ac q).x2⟩
 have G:∀(h l:Nat),o<=h->o<=l->aF [] prog (al f62) 139 w z8 (PV sn fr ya c O L n a d v8 w) (.any [1,1,1,0] 1 GU::[y6 31]) ⟨[(10,pt h 0),(0,pt b 0),(1,i6 ya),(2,i6 fr),(7,pt w.z 0),(8,pt (w.z+1) 0),(38,.agg #[i6 c,i6 m,i6 i,i6 O])],PT sn n a f e d b w h,[⟨a,0+(Int.toNat sn)*4,[i6 c,i6 m,i6 i,i6 O]⟩],l⟩:=by
  intro h l X u;refine dI cW _ _ (UJ sn fr ya c m i O n a f e d b w h l) trivial ?_;refine cd v7 ?_;exact B h _ yq yq
 refine ii (fl:=8) (t:=73) (d:=10) (cs:=[i6 0,i6 0,i6 0,i6 0]) (Xq:=PR) (Xj:=GU) (f:=1) 8 _ _ v7 v7 v7 v7 (by decide) v7 v7 v7 (UI sn fr ya c m i O n a f e d b w o) ⟨⟨yq,yq⟩,trivial⟩ G ?_;intro l u;replace u:o<=l:=u;refine dI cW _ _ (UK sn fr ya c m i O n a f e d b w l) trivial ?_;refine cd v7 ?_;exact B _ _ yq yq
section
variable (sn fr ya c i j:Int)(n a f e d b:Nat)(w:World)(h l:Nat)
def pi:av:=(pf n a f e d)
def rI:av:=[i6 9,i6 sn,i6 c,i6 0,i6 0,i6 j,i6 0,i6 0,sT ⟨#[]⟩]
def wB:av:=wz
def BI:av:=([i6 1,i6 (c+1),i6 j]++ka)
def PW:cj:=(bA 10 255)
def GV:cj:=(bA 10 511)
def PX:cj:=(bA 10 1023)
@[simp] def ng:ax:=[⟨b,119,false,pi n a f e d⟩,⟨w.z,59,true,rI sn c j⟩,⟨w.z+1,63,true,wB⟩]
@[simp] def PY:ax:=[⟨b,119,false,pi n a f e d⟩,⟨w.z,59,true,rI sn c j⟩,⟨w.z+1,63,true,wB⟩,⟨h,73,true,[i6 0,i6 0,i6 0,i6 0]⟩]
@[simp] def PZ:ax:=[⟨b,119,false,pi n a f e d⟩,⟨w.z,59,true,rI sn c j⟩,⟨w.z+1,63,true,wB⟩,⟨h,73,true,[i6 c,i6 fr,i6 i,i6 (-1)]⟩]
@[simp] def P0:ax:=[⟨b,119,false,pi n a f e d⟩,⟨w.z,59,true,rI sn c j⟩,⟨w.z+1,63,true,wB⟩,⟨h,73,true,[i6 (c+1),i6 fr,i6 (ya+30),i6 j]⟩]
def Tk(L:List cQ)(n:Nat)(a:Nat)(d:Nat)(v8:Nat)(w:World):Exit->Act->aI:=bodyPost prog f62 (λf b=>f=.returned (aE (BI c j))∧ah b v8 73 4 (ae a) n d (ai cQ.cells (L.set (Int.toNat sn) ⟨c+1,fr,ya+30,j⟩))∧au (λe=>e=a) w b)
theorem UL(z2:Nat):Out.prune [0,1,2,7,8,29] (fu prog 139 w z8 (aj (aa (al f62) (Ac 28))) (aj (aa (al f62) (Ac 28))).toList ⟨[(0,pt b 0),(1,i6 ya),(2,i6 fr),(7,pt w.z 0),(8,pt (w.z+1) 0),(9,bO_ true)],ng sn c j n a f e d b w,[],z2⟩ [(false,.op y2),(false,.op y2),(false,.op y2),(false,.op y2),(false,.op (oA 1 0 1)),(false,.op y2),(false,.op ⟨false,3,[]⟩),(false,.op y2),(false,.op y2),(false,.op (oA 1 1 1)),(false,.op y2),(false,.op y2),(false,.op y2),(false,.op (oA 0 0 1)),(false,.op y2),(false,.op y2),(false,.op ⟨false,3,[]⟩)])=some ⟨(MA 13),aX [(w.z,0,1),(w.z,1,1),(b,0,1)],⟨[(0,pt b 0),(1,i6 ya),(2,i6 fr),(7,pt w.z 0),(8,pt (w.z+1) 0),(29,bO_ (decide ((sn:Int)>=(n:Int))))],ng sn c j n a f e d b w,[],z2⟩⟩:=v7
theorem UM(z4:Nat):Out.prune [0,1,2,7,8,38] (fp prog 139 w z8 ((aj (aa (al f62) (Ac 30))).toList.take 8) ⟨[(0,pt b 0),(1,i6 ya),(2,i6 fr),(7,pt w.z 0),(8,pt (w.z+1) 0)],ng sn c j n a f e d b w,[⟨a,0+(Int.toNat sn)*4,[i6 c,i6 fr,i6 i,i6 (-1)]⟩],z4⟩ [.op y2,.op y2,.op y2,.op (oA 0 0 1),.op y2,.op (oA 1 1 1),.op HA,.op ⟨false,0,[⟨true,0,0,4⟩]⟩])=some ⟨[(0:Int)<=sn∧sn<((n:Nat):Int)],aX [(b,0,1),(w.z,1,1),(a,0+(Int.toNat sn)*4,4)],⟨[(0,pt b 0),(1,i6 ya),(2,i6 fr),(7,pt w.z 0),(8,pt (w.z+1) 0),(38,.agg #[i6 c,i6 fr,i6 i,i6 (-1)])],ng sn c j n a f e d b w,[⟨a,0+(Int.toNat sn)*4,[i6 c,i6 fr,i6 i,i6 (-1)]⟩],z4⟩⟩:=v7
theorem UN:iC [0,1,2,7,8,10] (fY prog 139 (aj (aa (al f62) (Ac 30))) 1 GV ⟨[(10,pt h 0),(0,pt b 0),(1,i6 ya),(2,i6 fr),(7,pt w.z 0),(8,pt (w.z+1) 0),(38,.agg #[i6 c,i6 fr,i6 i,i6 (-1)])],PY sn c j n a f e d b w h,[⟨a,0+(Int.toNat sn)*4,[i6 c,i6 fr,i6 i,i6 (-1)]⟩],l⟩ [(9,false,oA 3 0 4)])=some (⟨[],aX [(h,0,4)],⟨[(0,pt b 0),(1,i6 ya),(2,i6 fr),(7,pt w.z 0),(8,pt (w.z+1) 0),(10,pt h 0)],PZ sn fr c i j n a f e d b w h,[⟨a,0+(Int.toNat sn)*4,[i6 c,i6 fr,i6 i,i6 (-1)]⟩],l⟩⟩,0,PX):=v7
theorem UO:iC [0,1,2,7,8,10] (fY prog 139 (aj (aa (al f62) (Ac 30))) 2 PW ⟨[(0,pt b 0),(1,i6 ya),(2,i6 fr),(7,pt w.z 0),(8,pt (w.z+1) 0),(38,.agg #[i6 c,i6 fr,i6 i,i6 (-1)])],ng sn c j n a f e d b w,[⟨a,0+(Int.toNat sn)*4,[i6 c,i6 fr,i6 i,i6 (-1)]⟩],l⟩ [(8,false,y2),(9,false,oA 3 0 4)])=some (⟨[],aX [(l,0,4)],⟨[(0,pt b 0),(1,i6 ya),(2,i6 fr),(7,pt w.z 0),(8,pt (w.z+1) 0),(10,pt l 0)],[⟨b,119,false,pi n a f e d⟩,⟨w.z,59,true,rI sn c j⟩,⟨w.z+1,63,true,wB⟩,⟨l,73,true,[i6 c,i6 fr,i6 i,i6 (-1)]⟩],[⟨a,0+(Int.toNat sn)*4,[i6 c,i6 fr,i6 i,i6 (-1)]⟩],l+1⟩⟩,0,PX):=v7
end
theorem sM(j:Int)(L:List cQ)(n a f e d b v8:Nat)(W:0<=sn∧sn<n)(an:n<=8)(R:L.length=n)(Z:1<=c∧c<16777215)(aV:0<=ya∧ya<=1099511627776)(Q:L[Int.toNat sn]?=some ⟨c,fr,i,-1⟩)(ak:0<=j∧j<=5)(w:World)(A:A2 w b 119 [yt (ae a) n d,yt (ae f) 2 2,yt (ae e) 2 2])(r:ah w v8 73 4 (ae a) n d (ai cQ.cells L)):aC 62 #[pt b 0,i6 ya,i6 fr,.agg #[i6 9,i6 sn,i6 c,i6 0,i6 0,i6 j,i6 0,i6 0,sT ⟨#[]⟩]] w (λz v=>z=.returned (.agg #[i6 1,i6 (c+1),i6 j,bO_ false,i6 0,i6 0,i6 0,sT ⟨#[]⟩,bO_ false,i6 0,i6 0,i6 0,sT ⟨#[]⟩])∧ah v v8 73 4 (ae a) n d (ai cQ.cells (L.set (Int.toNat sn) ⟨c+1,fr,ya+30,j⟩))∧au (λk=>k=a) w v):=by
 refine cH (S:=z8) (n:=139) func62 (ab.start (bk:=[⟨b,119,false,pi n a f e d⟩]) (wn:=[]) (λB p=>by obtain rfl:=aG.1 p;exact A) z1 z1 z1) ?_;have X:=(r.own a ⟨_,rfl,rfl⟩).2;have aR:a≠b:=λO=>absurd (bS (r.ty a ⟨_,rfl,rfl⟩) (O▸aw A)) (by decide);refine z6 11 (dz 3 151001088) [0,1,2,7,8,11] [] [(w.z,0,9)] [.ops [1,0] [1,2],.code [1,1]] (ng sn c j n a f e d b w) [] (w.z+2) ?_;refine DV (bO_ true) _ _ (some 12) [] tI rfl (λs q=>Mc sn c j yq yq yq s) λx aq=>?_;refine Aq 7 [y2] [0,1,2,7,8,9] [] [] [y6 28,y6 29,y6 15] ⟨[(0,pt b 0),(1,i6 ya),(2,i6 fr),(7,pt w.z 0),(8,pt (w.z+1) 0),(9,bO_ true)],ng sn c j n a f e d b w,[],x⟩ ?_;refine dm _ _ v7 v7 v7 (UL sn fr ya c j n a f e d b w x) ⟨rfl,rfl,rfl,rfl,rfl,rfl,rfl,rfl,rfl,rfl,rfl,rfl,rfl,trivial⟩ λo C=>?_;replace C:x<=o:=C;refine aD [⟨a,0+Int.toNat sn*4,[i6 c,i6 fr,i6 i,i6 (-1)]⟩] (λ_ k m=>?_) ?_
 ·simp only[bj,cv,or_false]at m;subst m;exact⟨λg=>g,X,dj pS r Q⟩
 refine Aq 6 [y2] [0,1,2,7,8] [dF ((sn:Int)>=(n:Int))] [] [y6 30,y6 31] ⟨[(0,pt b 0),(1,i6 ya),(2,i6 fr),(7,pt w.z 0),(8,pt (w.z+1) 0)],ng sn c j n a f e d b w,[⟨a,0+(Int.toNat sn)*4,[i6 c,i6 fr,i6 i,i6 (-1)]⟩],o⟩ ?_;have y:∀(h l:Nat),o<=h->o<=l->aF [] prog (al f62) 139 w z8 (Tk sn fr ya c j L n a d v8 w) [y6 31] ⟨[(0,pt b 0),(1,i6 ya),(2,i6 fr),(7,pt w.z 0),(8,pt (w.z+1) 0),(10,pt h 0)],PZ sn fr c i j n a f e d b w h,[⟨a,0+(Int.toNat sn)*4,[i6 c,i6 fr,i6 i,i6 (-1)]⟩],l⟩:=by
  intro h l T u;refine z6 91 (dz 52 0x4003801011800010238020010038020100380010338001051800001003800400000000103380000100180040010038001021800000101380000100180) [8,134,136,137] ([fF]++rE 6 (oE ((fr != fr)=false) (c8.2 rfl))++[oE ((c != c)=false) (c8.2 rfl)]++rE 8 fF++[dF ((c:Int)>=16777215),JL (c+1),JL (ya+30)]) [(w.z,0,1),(h,1,1),(w.z,2,1),(h,0,1),(w.z,0,1),(h,3,1),(h,0,1),(w.z,5,1),(h,3,1),(h,0,1),(h,0,1),(h,2,1),(w.z,1,1),(h,0,4)] [.ops (Ac 16382) [4,5],y6 16383] (P0 sn fr ya c j n a f e d b w h) [⟨a,0+(Int.toNat sn)*4,[i6 c,i6 fr,i6 i,i6 (-1)]⟩] l ?_;refine aD [] (λ_ _ g=>by cases g) ?_;refine Ip (w:=w) (S':=(λk=>k=a)) (Y:=Unit) (λ_=>aE (BI c j)) (λ_=>P0 sn fr ya c j n a f e d b w h) (λ_ F=>ah F v8 73 4 (ae a) n d (ai cQ.cells (L.set (Int.toNat sn) ⟨c+1,fr,ya+30,j⟩))) (v7:_=some (98,[pt b 0,i6 sn,.agg #[i6 (c+1),i6 fr,i6 (ya+30),i6 j],i6 1],some 138,[])) tI (λs q=>?_) (λac E P V=>?_)
  ·have U:=q.wide (S':=(λk=>k=a)) (λ_ g=>g.elim);refine(rH sn (c+1) fr (ya+30) j 1 L n a f e d b v8 W R s (q.at_ 0 rfl) (r.x2 q.x2 (λ_ _ g=>g))).mono λz v M=>?_;obtain⟨G,H,I⟩:=M;exact⟨(),G,H,U.A3 (λ_ g=>g) I (λk m=>.inl m) (λB p m=>by simp at p;rcases p with rfl|rfl|rfl|rfl<;>simp only at m<;>omega)⟩
  refine z6 5 [oA 2 0 13] [8] [] [(w.z+1,0,13)] [y6 16383] [⟨b,119,false,pi n a f e d⟩,⟨w.z,59,true,rI sn c j⟩,⟨w.z+1,63,true,BI c j⟩,⟨h,73,true,[i6 (c+1),i6 fr,i6 (ya+30),i6 j]⟩] [] E.z ?_;refine B1 [[⟨false,2,0,13⟩]] [aE (BI c j)] [(w.z+1,0,13)] ?_;intro s q;exact⟨rfl,P.x2 q.x2 (λk ⟨ad,J,m⟩ ⟨B,p,N,K⟩=>by cases J;simp at p;rcases p with rfl|rfl|rfl|rfl<;>simp at N K m<;>omega),(ab.A0 V q).x2⟩
 have D:∀(h l:Nat),o<=h->o<=l->aF [] prog (al f62) 139 w z8 (Tk sn fr ya c j L n a d v8 w) (.any [1,1,1,0] 1 GV::[y6 31]) ⟨[(10,pt h 0),(0,pt b 0),(1,i6 ya),(2,i6 fr),(7,pt w.z 0),(8,pt (w.z+1) 0),(38,.agg #[i6 c,i6 fr,i6 i,i6 (-1)])],PY sn c j n a f e d b w h,[⟨a,0+(Int.toNat sn)*4,[i6 c,i6 fr,i6 i,i6 (-1)]⟩],l⟩:=by
  intro h l T u;refine dI cW _ _ (UN sn fr ya c i j n a f e d b w h l) trivial ?_;refine cd v7 ?_;exact y h _ yq yq
 refine ii (fl:=8) (t:=73) (d:=10) (cs:=[i6 0,i6 0,i6 0,i6 0]) (Xq:=PW) (Xj:=GV) (f:=1) 8 _ _ v7 v7 v7 v7 (by decide) v7 v7 v7 (UM sn fr ya c i j n a f e d b w o) ⟨⟨yq,yq⟩,trivial⟩ D ?_;intro l u;replace u:o<=l:=u;refine dI cW _ _ (UO sn fr ya c i j n a f e d b w l) trivial ?_;refine cd v7 ?_;exact y _ _ yq yq
section
variable (sn fr ya c i O:Int)(n a f e d b:Nat)(w:World)(h l:Nat)
def pj:av:=(pf n a f e d)
def rJ:av:=(((ph sn).set 0 (i6 10)).set 2 (i6 c))
def wC:av:=wz
def BJ:av:=([i6 1,i6 c,i6 (-1)]++ka)
def P2:cj:=(bA 10 255)
def GW:cj:=(bA 10 511)
def P3:cj:=(bA 10 1023)
@[simp] def nh:ax:=[⟨b,119,false,pj n a f e d⟩,⟨w.z,59,true,rJ sn c⟩,⟨w.z+1,63,true,wC⟩]
@[simp] def P4:ax:=[⟨b,119,false,pj n a f e d⟩,⟨w.z,59,true,rJ sn c⟩,⟨w.z+1,63,true,wC⟩,⟨h,73,true,[i6 0,i6 0,i6 0,i6 0]⟩]
@[simp] def P5:ax:=[⟨b,119,false,pj n a f e d⟩,⟨w.z,59,true,rJ sn c⟩,⟨w.z+1,63,true,wC⟩,⟨h,73,true,[i6 c,i6 fr,i6 i,i6 O]⟩]
@[simp] def P6:ax:=[⟨b,119,false,pj n a f e d⟩,⟨w.z,59,true,rJ sn c⟩,⟨w.z+1,63,true,wC⟩,⟨h,73,true,[i6 c,i6 fr,i6 i,i6 (-1)]⟩]
def Tl(L:List cQ)(n:Nat)(a:Nat)(d:Nat)(v8:Nat)(w:World):Exit->Act->aI:=bodyPost prog f62 (λf b=>f=.returned (aE (BJ c))∧ah b v8 73 4 (ae a) n d (ai cQ.cells (L.set (Int.toNat sn) ⟨c,fr,i,-1⟩))∧au (λe=>e=a) w b)
theorem UP(z2:Nat):Out.prune [0,1,2,7,8,29] (fu prog 139 w z8 (aj (aa (al f62) (Ac 28))) (aj (aa (al f62) (Ac 28))).toList ⟨[(0,pt b 0),(1,i6 ya),(2,i6 fr),(7,pt w.z 0),(8,pt (w.z+1) 0),(9,bO_ true)],nh sn c n a f e d b w,[],z2⟩ [(false,.op y2),(false,.op y2),(false,.op y2),(false,.op y2),(false,.op (oA 1 0 1)),(false,.op y2),(false,.op ⟨false,3,[]⟩),(false,.op y2),(false,.op y2),(false,.op (oA 1 1 1)),(false,.op y2),(false,.op y2),(false,.op y2),(false,.op (oA 0 0 1)),(false,.op y2),(false,.op y2),(false,.op ⟨false,3,[]⟩)])=some ⟨(MA 13),aX [(w.z,0,1),(w.z,1,1),(b,0,1)],⟨[(0,pt b 0),(1,i6 ya),(2,i6 fr),(7,pt w.z 0),(8,pt (w.z+1) 0),(29,bO_ (decide ((sn:Int)>=(n:Int))))],nh sn c n a f e d b w,[],z2⟩⟩:=v7
theorem UQ(z4:Nat):Out.prune [0,1,2,7,8,38] (fp prog 139 w z8 ((aj (aa (al f62) (Ac 30))).toList.take 8) ⟨[(0,pt b 0),(1,i6 ya),(2,i6 fr),(7,pt w.z 0),(8,pt (w.z+1) 0)],nh sn c n a f e d b w,[⟨a,0+(Int.toNat sn)*4,[i6 c,i6 fr,i6 i,i6 O]⟩],z4⟩ [.op y2,.op y2,.op y2,.op (oA 0 0 1),.op y2,.op (oA 1 1 1),.op HA,.op ⟨false,0,[⟨true,0,0,4⟩]⟩])=some ⟨[(0:Int)<=sn∧sn<((n:Nat):Int)],aX [(b,0,1),(w.z,1,1),(a,0+(Int.toNat sn)*4,4)],⟨[(0,pt b 0),(1,i6 ya),(2,i6 fr),(7,pt w.z 0),(8,pt (w.z+1) 0),(38,.agg #[i6 c,i6 fr,i6 i,i6 O])],nh sn c n a f e d b w,[⟨a,0+(Int.toNat sn)*4,[i6 c,i6 fr,i6 i,i6 O]⟩],z4⟩⟩:=v7
theorem UR:iC [0,1,2,7,8,10] (fY prog 139 (aj (aa (al f62) (Ac 30))) 1 GW ⟨[(10,pt h 0),(0,pt b 0),(1,i6 ya),(2,i6 fr),(7,pt w.z 0),(8,pt (w.z+1) 0),(38,.agg #[i6 c,i6 fr,i6 i,i6 O])],P4 sn c n a f e d b w h,[⟨a,0+(Int.toNat sn)*4,[i6 c,i6 fr,i6 i,i6 O]⟩],l⟩ [(9,false,oA 3 0 4)])=some (⟨[],aX [(h,0,4)],⟨[(0,pt b 0),(1,i6 ya),(2,i6 fr),(7,pt w.z 0),(8,pt (w.z+1) 0),(10,pt h 0)],P5 sn fr c i O n a f e d b w h,[⟨a,0+(Int.toNat sn)*4,[i6 c,i6 fr,i6 i,i6 O]⟩],l⟩⟩,0,P3):=v7
theorem US:iC [0,1,2,7,8,10] (fY prog 139 (aj (aa (al f62) (Ac 30))) 2 P2 ⟨[(0,pt b 0),(1,i6 ya),(2,i6 fr),(7,pt w.z 0),(8,pt (w.z+1) 0),(38,.agg #[i6 c,i6 fr,i6 i,i6 O])],nh sn c n a f e d b w,[⟨a,0+(Int.toNat sn)*4,[i6 c,i6 fr,i6 i,i6 O]⟩],l⟩ [(8,false,y2),(9,false,oA 3 0 4)])=some (⟨[],aX [(l,0,4)],⟨[(0,pt b 0),(1,i6 ya),(2,i6 fr),(7,pt w.z 0),(8,pt (w.z+1) 0),(10,pt l 0)],[⟨b,119,false,pj n a f e d⟩,⟨w.z,59,true,rJ sn c⟩,⟨w.z+1,63,true,wC⟩,⟨l,73,true,[i6 c,i6 fr,i6 i,i6 O]⟩],[⟨a,0+(Int.toNat sn)*4,[i6 c,i6 fr,i6 i,i6 O]⟩],l+1⟩⟩,0,P3):=v7
end
theorem wD(O:Int)(L:List cQ)(n a f e d b v8:Nat)(W:0<=sn∧sn<n)(ak:n<=8)(R:L.length=n)(Z:1<=c∧c<16777215)(Q:L[Int.toNat sn]?=some ⟨c,fr,i,O⟩)(w:World)(z:A2 w b 119 [yt (ae a) n d,yt (ae f) 2 2,yt (ae e) 2 2])(q:ah w v8 73 4 (ae a) n d (ai cQ.cells L)):aC 62 #[pt b 0,i6 ya,i6 fr,.agg #[i6 10,i6 sn,i6 c,i6 0,i6 0,i6 0,i6 0,i6 0,sT ⟨#[]⟩]] w (λy u=>y=.returned (.agg #[i6 1,i6 c,i6 (-1),bO_ false,i6 0,i6 0,i6 0,sT ⟨#[]⟩,bO_ false,i6 0,i6 0,i6 0,sT ⟨#[]⟩])∧ah u v8 73 4 (ae a) n d (ai cQ.cells (L.set (Int.toNat sn) ⟨c,fr,i,-1⟩))∧au (λj=>j=a) w u):=by
 refine cH (S:=z8) (n:=139) func62 (ab.start (bk:=[⟨b,119,false,pj n a f e d⟩]) (wn:=[]) (λA o=>by obtain rfl:=aG.1 o;exact z) z1 z1 z1) ?_;have X:=(q.own a ⟨_,rfl,rfl⟩).2;have aq:a≠b:=λN=>absurd (bS (q.ty a ⟨_,rfl,rfl⟩) (N▸aw z)) (by decide);refine z6 11 (dz 3 151001088) [0,1,2,7,8,11] [] [(w.z,0,9)] [.ops [1,0] [1,2],.code [1,1]] (nh sn c n a f e d b w) [] (w.z+2) ?_;refine DV (bO_ true) _ _ (some 12) [] tI rfl (λr p=>GX sn c yq yq r) λv an=>?_;refine Aq 7 [y2] [0,1,2,7,8,9] [] [] [y6 28,y6 29,y6 15] ⟨[(0,pt b 0),(1,i6 ya),(2,i6 fr),(7,pt w.z 0),(8,pt (w.z+1) 0),(9,bO_ true)],nh sn c n a f e d b w,[],v⟩ ?_;refine dm _ _ v7 v7 v7 (UP sn fr ya c n a f e d b w v) ⟨rfl,rfl,rfl,rfl,rfl,rfl,rfl,rfl,rfl,rfl,rfl,rfl,rfl,trivial⟩ λm B=>?_;replace B:v<=m:=B;refine aD [⟨a,0+Int.toNat sn*4,[i6 c,i6 fr,i6 i,i6 O]⟩] (λ_ j k=>?_) ?_
 ·simp only[bj,cv,or_false]at k;subst k;exact⟨λg=>g,X,dj pS q Q⟩
 refine Aq 6 [y2] [0,1,2,7,8] [dF ((sn:Int)>=(n:Int))] [] [y6 30,y6 31] ⟨[(0,pt b 0),(1,i6 ya),(2,i6 fr),(7,pt w.z 0),(8,pt (w.z+1) 0)],nh sn c n a f e d b w,[⟨a,0+(Int.toNat sn)*4,[i6 c,i6 fr,i6 i,i6 O]⟩],m⟩ ?_;have x:∀(h l:Nat),m<=h->m<=l->aF [] prog (al f62) 139 w z8 (Tl sn fr c i L n a d v8 w) [y6 31] ⟨[(0,pt b 0),(1,i6 ya),(2,i6 fr),(7,pt w.z 0),(8,pt (w.z+1) 0),(10,pt h 0)],P5 sn fr c i O n a f e d b w h,[⟨a,0+(Int.toNat sn)*4,[i6 c,i6 fr,i6 i,i6 O]⟩],l⟩:=by
  intro h l T s;refine z6 48 (dz 26 0x40038010118000103380100100180040010038001021800000101380000100180) [0,1,7,8,10,100,102,103] ([fF]++rE 6 (oE ((fr != fr)=false) (c8.2 rfl))++[oE ((c != c)=false) (c8.2 rfl),tT]) [(w.z,0,1),(h,1,1),(w.z,2,1),(h,0,1),(w.z,0,1),(h,3,1),(w.z,1,1),(h,0,4)] [.ops (Ac 4074) [4,5],y6 4075,y6 255] (P6 sn fr c i n a f e d b w h) [⟨a,0+(Int.toNat sn)*4,[i6 c,i6 fr,i6 i,i6 O]⟩] l ?_;refine aD [] (λ_ _ g=>by cases g) ?_;refine Ip (w:=w) (S':=(λj=>j=a)) (Y:=Unit) (λ_=>aE (BJ c)) (λ_=>P6 sn fr c i n a f e d b w h) (λ_ E=>ah E v8 73 4 (ae a) n d (ai cQ.cells (L.set (Int.toNat sn) ⟨c,fr,i,-1⟩))) (v7:_=some (98,[pt b 0,i6 sn,.agg #[i6 c,i6 fr,i6 i,i6 (-1)],i6 1],some 104,[])) tI (λr p=>?_) (λac D P V=>?_)
  ·have U:=p.wide (S':=(λj=>j=a)) (λ_ g=>g.elim);refine(rH sn c fr i (-1) 1 L n a f e d b v8 W R r (p.at_ 0 rfl) (q.x2 p.x2 (λ_ _ g=>g))).mono λy u K=>?_;obtain⟨F,G,H⟩:=K;exact⟨(),F,G,U.A3 (λ_ g=>g) H (λj k=>.inl k) (λA o k=>by simp at o;rcases o with rfl|rfl|rfl|rfl<;>simp only at k<;>omega)⟩
  refine z6 5 [oA 2 0 13] [0,1,7,8,10] [] [(w.z+1,0,13)] [y6 4075,y6 255] [⟨b,119,false,pj n a f e d⟩,⟨w.z,59,true,rJ sn c⟩,⟨w.z+1,63,true,BJ c⟩,⟨h,73,true,[i6 c,i6 fr,i6 i,i6 (-1)]⟩] [] D.z ?_;refine B1 [[⟨false,2,0,13⟩]] [aE (BJ c)] [(w.z+1,0,13)] ?_;intro r p;exact⟨rfl,P.x2 p.x2 (λj ⟨ad,I,k⟩ ⟨A,o,M,J⟩=>by cases I;simp at o;rcases o with rfl|rfl|rfl|rfl<;>simp at M J k<;>omega),(ab.A0 V p).x2⟩
 have C:∀(h l:Nat),m<=h->m<=l->aF [] prog (al f62) 139 w z8 (Tl sn fr c i L n a d v8 w) (.any [1,1,1,0] 1 GW::[y6 31]) ⟨[(10,pt h 0),(0,pt b 0),(1,i6 ya),(2,i6 fr),(7,pt w.z 0),(8,pt (w.z+1) 0),(38,.agg #[i6 c,i6 fr,i6 i,i6 O])],P4 sn c n a f e d b w h,[⟨a,0+(Int.toNat sn)*4,[i6 c,i6 fr,i6 i,i6 O]⟩],l⟩:=by
  intro h l T s;refine dI cW _ _ (UR sn fr ya c i O n a f e d b w h l) trivial ?_;refine cd v7 ?_;exact x h _ yq yq
 refine ii (fl:=8) (t:=73) (d:=10) (cs:=[i6 0,i6 0,i6 0,i6 0]) (Xq:=P2) (Xj:=GW) (f:=1) 8 _ _ v7 v7 v7 v7 (by decide) v7 v7 v7 (UQ sn fr ya c i O n a f e d b w m) ⟨⟨yq,yq⟩,trivial⟩ C ?_;intro l s;replace s:m<=l:=s;refine dI cW _ _ (US sn fr ya c i O n a f e d b w l) trivial ?_;refine cd v7 ?_;exact x _ _ yq yq
section
variable (sn fr ya o j q p e2 o2:Int)(n a f e d b:Nat)(w:World)(_:Unit)
def BK:av:=[i6 q,i6 sn,i6 p,i6 0,i6 0,i6 j,i6 0,i6 0,sT ⟨#[]⟩]
def ki:av:=([i6 1,i6 e2,i6 o2]++ka)
def GY:av:=(pf n a f e d)
def UT:av:=wz
@[simp] def ni:ax:=[⟨b,119,false,GY n a f e d⟩,⟨w.z,59,true,BK sn j q p⟩,⟨w.z+1,63,true,UT⟩]
def SL:bu:=[(0,pt b 0),(1,i6 ya),(2,i6 fr),(3,i6 o),(9,pt w.z 0),(10,pt (w.z+1) 0),(11,bO_ false),(12,i6 (fr-200))]
def JN(_:Unit):List (Option Value):=[some (pt b 0),some (pt b 0),some (pt b 2),some (yt (ae e) 2 2),some (i6 (fr-200)),some (pt b 0),some (i6 ya),some (i6 fr),some (aE (BK sn j q p)),some (aE (ki e2 o2)),some (.pointer (some ⟨e,0+(Int.toNat (fr-200))*13,none⟩)),some (.tuple #[])]
def JO(_:Unit)(k:Nat):Bool:=(fL 12 [])[k]?.getD true
def BM(_:Unit):List (ax):=[ni sn j q p n a f e d b w,ni sn j q p n a f e d b w,ni sn j q p n a f e d b w]
abbrev BN(sn:Int)(fr:Int)(e2:Int)(c:Int)(g:Int)(o2:Int)(L:List cQ)(n:Nat)(a:Nat)(f:Nat)(e:Nat)(d:Nat)(v8:Nat)(ids:bB)(ss:List dw)(h:Nat)(_:Unit)(b:World):Prop:=match h with|0=>ah b v8 73 4 (ae a) n d (ai cQ.cells L)∧ah b v8 3 1 (ae f) 2 2 (ai bo ids)∧ah b v8 63 13 (ae e) 2 2 (ai dw.cells ss)|1=>ah b v8 73 4 (ae a) n d (ai cQ.cells (L.set (Int.toNat sn) ⟨e2,c,g,o2⟩))∧ah b v8 3 1 (ae f) 2 2 (ai bo ids)∧ah b v8 63 13 (ae e) 2 2 (ai dw.cells ss)|2=>ah b v8 73 4 (ae a) n d (ai cQ.cells (L.set (Int.toNat sn) ⟨e2,c,g,o2⟩))∧ah b v8 3 1 (ae f) 2 2 (ai bo ids)∧ah b v8 63 13 (ae e) 2 2 (ai dw.cells (ss.set (Int.toNat (fr-200)) ⟨1,e2,o2,⟨false,0,0,0,⟨#[]⟩,false,0,0,0,⟨#[]⟩⟩⟩))|_=>True
def tB(h:Int)(i:Int)(o2:Int)(L:List cQ)(n:Nat)(a:Nat)(f:Nat)(e:Nat)(d:Nat)(b:Nat)(v8:Nat)(w:World)(ids:bB)(ss:List dw)(l:Nat):Prop:=cY prog f39 [1,1,1,1,1,0,1,0,0] 77 [] (bodyPost prog f39 (λk g=>k=.returned (.tuple #[aE (ki e2 o2),bO_ true])∧ah g v8 73 4 (ae a) n d (ai cQ.cells (L.set (Int.toNat sn) ⟨e2,h,i,o2⟩))∧ah g v8 3 1 (ae f) 2 2 (ai bo (ids.set (Int.toNat (fr-200)) o))∧ah g v8 63 13 (ae e) 2 2 (ai dw.cells (ss.set (Int.toNat (fr-200)) ⟨1,e2,o2,⟨false,0,0,0,⟨#[]⟩,false,0,0,0,⟨#[]⟩⟩⟩))∧au (λc=>c=a∨c=f∨c=e) w g)) [y6 1013,y6 127] (SL fr ya o b w) (V7 12 [9,11]) 2 (JN sn fr ya j q p e2 o2 e b) JO w (λc=>c=a∨c=f∨c=e) (BM sn j q p n a f e d b w) (w.z+2) (BN sn fr e2 h i o2 L n a f e d v8 ids ss) l
end
theorem P7(q p j e2 A H o2:Int)(L:List cQ)(n a f e d b v8:Nat)(co:0<=ya∧ya<=1099511627776)(o v:Int)(ids:bB)(ss:List dw)(b3:200<=fr∧fr<202)(b4:1<=o∧o<=1099511627776∧v<o)(a0:ids[Int.toNat (fr-200)]?=some v)(b5:ids.length=2)(ca:ss.length=2)(bb:∀I,A2 I b 119 [yt (ae a) n d,yt (ae f) 2 2,yt (ae e) 2 2]->ah I v8 73 4 (ae a) n d (ai cQ.cells L)->aC 62 #[pt b 0,i6 ya,i6 fr,.agg #[i6 q,i6 sn,i6 p,i6 0,i6 0,i6 j,i6 0,i6 0,sT ⟨#[]⟩]] I (λW F=>W=.returned (.agg #[i6 1,i6 e2,i6 o2,bO_ false,i6 0,i6 0,i6 0,sT ⟨#[]⟩,bO_ false,i6 0,i6 0,i6 0,sT ⟨#[]⟩])∧ah F v8 73 4 (ae a) n d (ai cQ.cells (L.set (Int.toNat sn) ⟨e2,A,H,o2⟩))∧au (λi=>i=a) I F))(w:World)(U:A2 w b 119 [yt (ae a) n d,yt (ae f) 2 2,yt (ae e) 2 2])(O:ah w v8 73 4 (ae a) n d (ai cQ.cells L))(M:ah w v8 3 1 (ae f) 2 2 (ai bo ids))(Q:ah w v8 63 13 (ae e) 2 2 (ai dw.cells ss)):aC 39 #[pt b 0,i6 ya,i6 fr,i6 o,.agg #[i6 q,i6 sn,i6 p,i6 0,i6 0,i6 j,i6 0,i6 0,sT ⟨#[]⟩]] w (λW F=>W=.returned (.tuple #[.agg #[i6 1,i6 e2,i6 o2,bO_ false,i6 0,i6 0,i6 0,sT ⟨#[]⟩,bO_ false,i6 0,i6 0,i6 0,sT ⟨#[]⟩],bO_ true])∧ah F v8 73 4 (ae a) n d (ai cQ.cells (L.set (Int.toNat sn) ⟨e2,A,H,o2⟩))∧ah F v8 3 1 (ae f) 2 2 (ai bo (ids.set (Int.toNat (fr-200)) o))∧ah F v8 63 13 (ae e) 2 2 (ai dw.cells (ss.set (Int.toNat (fr-200)) ⟨1,e2,o2,⟨false,0,0,0,⟨#[]⟩,false,0,0,0,⟨#[]⟩⟩⟩))∧au (λi=>i=a∨i=f∨i=e) w F):=by
 refine cH (S:=z8) (n:=77) func39 (ab.start (bk:=[⟨b,119,false,GY n a f e d⟩]) (wn:=[]) (λr c=>by obtain rfl:=aG.1 c;exact U) z1 z1 z1) ?_;have cl:=(O.own a ⟨_,rfl,rfl⟩).2;have cm:a≠b:=λE=>absurd (bS (O.ty a ⟨_,rfl,rfl⟩) (E▸aw U)) (by decide);have bd:=(M.own f ⟨_,rfl,rfl⟩).2;have cp:=(Q.own e ⟨_,rfl,rfl⟩).2;have cn:f≠b:=λE=>absurd (bS (M.ty f ⟨_,rfl,rfl⟩) (E▸aw U)) (by decide);have cq:e≠b:=λE=>absurd (bS (Q.ty e ⟨_,rfl,rfl⟩) (E▸aw U)) (by decide);have b7:a≠f:=λE=>absurd (bS (O.ty a ⟨_,rfl,rfl⟩) (E▸M.ty f ⟨_,rfl,rfl⟩)) (by decide);have b8:a≠e:=λE=>absurd (bS (O.ty a ⟨_,rfl,rfl⟩) (E▸Q.ty e ⟨_,rfl,rfl⟩)) (by decide);have b6:f≠e:=λE=>absurd (bS (M.ty f ⟨_,rfl,rfl⟩) (E▸Q.ty e ⟨_,rfl,rfl⟩)) (by decide);have a9:ya=jC (mv ya 0) 1099511627776:=by unfold jC mv;split<;>split<;>omega
 have b9:Int.toNat (fr-200)<2:=by omega
 refine Aq 51 (dz 31 0x200101080000040000002004000000220000) [0,1,2,3,9,10,11,12,31,32,38] ([vV,vV]++rE 3 (dF ((fr:Int)<200))++[dF ((fr:Int)>=202),JL (fr-200)]++rE 3 (dF ((o:Int)<1))++rE 7 (dF ((o:Int)>1099511627776))++[oE ((0:Int)<=(fr-200)∧(fr-200)<((2:Nat):Int))]) [(b,1,1)] [.ops (Ac 124) [14,15,16],y6 125,y6 63] ⟨[(0,pt b 0),(1,i6 (jC (mv ya 0) 1099511627776)),(2,i6 fr),(3,i6 o),(9,pt w.z 0),(10,pt (w.z+1) 0),(11,bO_ false),(12,i6 (fr-200)),(31,bO_ (decide ((o:Int)>1099511627776))),(32,i6 o),(38,.pointer (some ⟨f,0+(Int.toNat (fr-200))*1,none⟩))],ni sn j q p n a f e d b w,[],w.z+2⟩ ?_;refine Ny (congrArg (λaq:Int=>(⟨[(0,pt b 0),(1,i6 (aq)),(2,i6 fr),(3,i6 o),(9,pt w.z 0),(10,pt (w.z+1) 0),(11,bO_ false),(12,i6 (fr-200)),(31,bO_ (decide ((o:Int)>1099511627776))),(32,i6 o),(38,.pointer (some ⟨f,0+(Int.toNat (fr-200))*1,none⟩))],ni sn j q p n a f e d b w,[],w.z+2⟩:St)) a9) ?_;refine aD [⟨f,0+(Int.toNat (fr-200))*1,[i6 v]⟩] (λ_ i g=>?_) ?_
 ·simp only[bj,cv,or_false]at g;subst g;exact⟨λC=>C,bd,dj (f:=bo) (λ_=>rfl) M a0⟩
 refine Aq 24 [⟨false,0,[⟨true,0,0,1⟩]⟩,y2,⟨false,3,[]⟩,y2,y2,y2,y2,y2,oA 0 1 1,y2,HA,⟨false,0,[⟨true,0,0,1⟩]⟩,y2,FN] [0,1,2,3,9,10,11,12] (rE 3 (dF ((o:Int)>1099511627776))++[dF ((o:Int)<v),oE ((0:Int)<=(fr-200)∧(fr-200)<((2:Nat):Int)),dT ((o:Int)>v)]) [(f,0+(Int.toNat (fr-200))*1,1),(b,1,1),(f,0+(Int.toNat (fr-200))*1,1)] [y6 1012,y6 1013,y6 127] ⟨[(0,pt b 0),(1,i6 ya),(2,i6 fr),(3,i6 o),(9,pt w.z 0),(10,pt (w.z+1) 0),(11,bO_ false),(12,i6 (fr-200))],ni sn j q p n a f e d b w,[⟨f,0+(Int.toNat (fr-200))*1,[i6 v]⟩],w.z+2⟩ ?_;have bt:eh w (λi=>i=a∨i=f∨i=e) (BM sn j q p n a f e d b w) (BN sn fr e2 A H o2 L n a f e d v8 ids ss):=by
  intro Y D I F bk c B u J
  match Y,c,u with
  |0,c,u=>
   obtain rfl:=ap c;exact⟨u.1.x2 J (λi ⟨y,h,g⟩ ⟨r,c,m,k⟩=>by cases h;simp at c;rcases c with rfl|rfl|rfl<;>simp at m k g<;>omega),u.2.1.x2 J (λi ⟨y,h,g⟩ ⟨r,c,m,k⟩=>by cases h;simp at c;rcases c with rfl|rfl|rfl<;>simp at m k g<;>omega),u.2.2.x2 J (λi ⟨y,h,g⟩ ⟨r,c,m,k⟩=>by cases h;simp at c;rcases c with rfl|rfl|rfl<;>simp at m k g<;>omega)⟩
  |1,c,u=>
   obtain rfl:=ap c;exact⟨u.1.x2 J (λi ⟨y,h,g⟩ ⟨r,c,m,k⟩=>by cases h;simp at c;rcases c with rfl|rfl|rfl<;>simp at m k g<;>omega),u.2.1.x2 J (λi ⟨y,h,g⟩ ⟨r,c,m,k⟩=>by cases h;simp at c;rcases c with rfl|rfl|rfl<;>simp at m k g<;>omega),u.2.2.x2 J (λi ⟨y,h,g⟩ ⟨r,c,m,k⟩=>by cases h;simp at c;rcases c with rfl|rfl|rfl<;>simp at m k g<;>omega)⟩
  |2,c,u=>
   obtain rfl:=ap c;exact⟨u.1.x2 J (λi ⟨y,h,g⟩ ⟨r,c,m,k⟩=>by cases h;simp at c;rcases c with rfl|rfl|rfl<;>simp at m k g<;>omega),u.2.1.x2 J (λi ⟨y,h,g⟩ ⟨r,c,m,k⟩=>by cases h;simp at c;rcases c with rfl|rfl|rfl<;>simp at m k g<;>omega),u.2.2.x2 J (λi ⟨y,h,g⟩ ⟨r,c,m,k⟩=>by cases h;simp at c;rcases c with rfl|rfl|rfl<;>simp at m k g<;>omega)⟩
  |Y+3,c,u=>exact trivial
 have b0:tB sn fr ya o j q p e2 A H o2 L n a f e d b v8 w ids ss 9:=WO (s:=0) (f:=62) (args:=λD=>[pt b 0,i6 ya,i6 fr,aE (BK sn j q p)]) (ob:=λD=>[]) (λD E=>E) (λD=>aE (ki e2 o2)) (λD=>trivial) (λD I bk c B u bg=>by
  obtain rfl:=ap c;refine(bb I (B.at_ 0 rfl) u.1).mono λE F an=>?_;obtain⟨N,A,G⟩:=an;exact⟨(),N,rfl,⟨A,u.2.1.x2 G (λi ⟨y,h,g⟩ k=>by cases h;simp only at g;omega),u.2.2.x2 G (λi ⟨y,h,g⟩ k=>by cases h;simp only at g;omega)⟩,B.A3 (λ_ C=>C) G (λi g=>.inl (.inl g)) (λr c g=>by simp at c;rcases c with rfl|rfl|rfl<;>simp only at g<;>omega),G.size⟩)
 have b1:tB sn fr ya o j q p e2 A H o2 L n a f e d b v8 w ids ss 11:=V8 (s:=1) (x:=λD=>Instr.storeAt 63 (.pointer (some ⟨e,0+(Int.toNat (fr-200))*13,none⟩)) (aE (ki e2 o2))) (λD E=>E) (λD I bk c B u bg=>by
  obtain rfl:=ap c;obtain⟨F,N,A,G,Z⟩:=fj (P:=prog) (t:=63) (v:=aE (ki e2 o2)) (0+(Int.toNat (fr-200))*13) 13 u.2.2 rfl yq v7 (aU rfl);rw[show 0+(Int.toNat (fr-200))*13=(Int.toNat (fr-200))*13 by omega,show(aE (ki e2 o2):Value).cells.toList=dw.cells ⟨1,e2,o2,⟨false,0,0,0,⟨#[]⟩,false,0,0,0,⟨#[]⟩⟩⟩from rfl,gF (f:=dw.cells) (z:=13) (λ_=>rfl) yq]at A;exact⟨(),F,N,rfl,⟨u.1.x2 G (λi ⟨y,h,g⟩ ⟨r,c,K⟩=>by cases h;cases c;simp only at g K;omega),u.2.1.x2 G (λi ⟨y,h,g⟩ ⟨r,c,K⟩=>by cases h;cases c;simp only at g K;omega),A⟩,B.A3 (λ_ C=>C) G (λi ⟨y,h,g⟩=>.inl (.inr (.inr (by cases h;exact g)))) (λr c ⟨y,h,g⟩=>by cases h;simp at c;rcases c with rfl|rfl|rfl<;>simp only at g<;>omega),bC Z.symm⟩)
 have bs:∀ak∈(f5 2 [0,1,2,4,5,6,7]++[rY 3 2 0 2 1 b,rY 8 2 1 0 9 w.z,⟨10,2,HA,λ_=>[oE ((0:Int)<=(fr-200)∧(fr-200)<((2:Nat):Int))],λ_=>[]⟩]:List (fG (Unit))),tB sn fr ya o j q p e2 A H o2 L n a f e d b v8 w ids ss ak.i:=bp _ bt (λD=>v7) v7 (λD b2=>v7);have bl:∀ac,ac<12->tB sn fr ya o j q p e2 A H o2 L n a f e d b v8 w ids ss ac:=f6 (l:=[9,11]) v7 bs ⟨b0,b1,trivial⟩;refine bD (Δ:=Unit) (λi=>i=a∨i=f∨i=e) (JN sn fr ya j q p e2 o2 e b) JO (BM sn j q p n a f e d b w) (BN sn fr e2 A H o2 L n a f e d v8 ids ss) [0,3,10,11,12] (λD=>[(0,pt b 0),(3,i6 o),(10,pt (w.z+1) 0),(11,bO_ false),(12,i6 (fr-200))]) (λD=>ni sn j q p n a f e d b w) () (λ_ C=>C.elim) v7 v7 v7 (λI B=>⟨O.x2 B.x2.drew (λ_ _ C=>C),M.x2 B.x2.drew (λ_ _ C=>C),Q.x2 B.x2.drew (λ_ _ C=>C)⟩) v7 bl (λD=>v7) (λD=>v7) (λD R cf a5 cb ad=>?_);obtain⟨a2,aR,a4⟩:ah R v8 73 4 (ae a) n d (ai cQ.cells (L.set (Int.toNat sn) ⟨e2,A,H,o2⟩))∧ah R v8 3 1 (ae f) 2 2 (ai bo ids)∧ah R v8 63 13 (ae e) 2 2 (ai dw.cells (ss.set (Int.toNat (fr-200)) ⟨1,e2,o2,⟨false,0,0,0,⟨#[]⟩,false,0,0,0,⟨#[]⟩⟩⟩)):=a5;refine Aq 11 (dz 7 0x200010108000) [0,10,11,12,68,69] [oE ((0:Int)<=(fr-200)∧(fr-200)<((2:Nat):Int))] [(b,1,1)] [.ops (Ac 1013) [7],y6 127] ⟨[(0,pt b 0),(10,pt (w.z+1) 0),(11,bO_ false),(12,i6 (fr-200)),(68,i6 o),(69,.pointer (some ⟨f,0+(Int.toNat (fr-200))*1,none⟩))],ni sn j q p n a f e d b w,[],R.z⟩ ?_;refine iF (w:=w) (S':=(λi=>i=a∨i=f∨i=e)) (x:=Instr.storeAt 3 (.pointer (some ⟨f,0+(Int.toNat (fr-200))*1,none⟩)) (i6 o)) (λV=>ah V v8 73 4 (ae a) n d (ai cQ.cells (L.set (Int.toNat sn) ⟨e2,A,H,o2⟩))∧ah V v8 3 1 (ae f) 2 2 (ai bo (ids.set (Int.toNat (fr-200)) o))∧ah V v8 63 13 (ae e) 2 2 (ai dw.cells (ss.set (Int.toNat (fr-200)) ⟨1,e2,o2,⟨false,0,0,0,⟨#[]⟩,false,0,0,0,⟨#[]⟩⟩⟩))) v7 v7 (λI B=>?_) (λT a6 a8=>?_)
 ·have a7:=ab.Wb ad B (λx u=>by obtain⟨r,c,m,k⟩:=u;exact(ad.own r c m).imp_left (λC=>k▸C) |>.imp_right (λC=>k▸C));have a1:=aR.x2 B.x2 (λi ⟨y,h,g⟩ ⟨r,c,m,k⟩=>by cases h;simp at c;rcases c with rfl|rfl|rfl<;>simp at m k g<;>omega);obtain⟨F,N,A,G,Z⟩:=fj (P:=prog) (t:=3) (v:=i6 o) (0+(Int.toNat (fr-200))*1) 1 a1 rfl yq v7 (aU rfl);rw[show 0+(Int.toNat (fr-200))*1=(Int.toNat (fr-200))*1 by omega,show(i6 o:Value).cells.toList=bo o from rfl,gF (f:=bo) (z:=1) (λ_=>rfl) yq]at A;exact⟨F,N,⟨(a2.x2 B.x2 (λi ⟨y,h,g⟩ ⟨r,c,m,k⟩=>by cases h;simp at c;rcases c with rfl|rfl|rfl<;>simp at m k g<;>omega)).x2 G (λi ⟨y,h,g⟩ ⟨r,c,K⟩=>by cases h;cases c;simp only at g K;omega),A,(a4.x2 B.x2 (λi ⟨y,h,g⟩ ⟨r,c,m,k⟩=>by cases h;simp at c;rcases c with rfl|rfl|rfl<;>simp at m k g<;>omega)).x2 G (λi ⟨y,h,g⟩ ⟨r,c,K⟩=>by cases h;cases c;simp only at g K;omega)⟩,a7.A3 (λ_ C=>C) G (λi ⟨y,h,g⟩=>.inl (.inr (.inl (by cases h;exact g)))) (λr c ⟨y,h,g⟩=>by cases h;simp at c;rcases c with rfl|rfl|rfl<;>simp only at g<;>omega)⟩
 obtain⟨a3,aV,X⟩:ah T v8 73 4 (ae a) n d (ai cQ.cells (L.set (Int.toNat sn) ⟨e2,A,H,o2⟩))∧ah T v8 3 1 (ae f) 2 2 (ai bo (ids.set (Int.toNat (fr-200)) o))∧ah T v8 63 13 (ae e) 2 2 (ai dw.cells (ss.set (Int.toNat (fr-200)) ⟨1,e2,o2,⟨false,0,0,0,⟨#[]⟩,false,0,0,0,⟨#[]⟩⟩⟩)):=a6;refine aD [⟨e,0+(Int.toNat (fr-200))*13,ki e2 o2⟩] (λ_ i g=>?_) ?_
 ·simp only[bj,cv,or_false]at g;subst g;exact⟨λ⟨r,c,m,k⟩=>(by simp at c;rcases c with rfl|rfl|rfl<;>simp at m k<;>omega),(X.own e ⟨_,rfl,rfl⟩).2,dj (f:=dw.cells) (λ_=>rfl) X (x:=⟨1,e2,o2,⟨false,0,0,0,⟨#[]⟩,false,0,0,0,⟨#[]⟩⟩⟩) (by rw[List.getElem?_set_self yq])⟩
 refine z6 16 [y2,y2,y2,oA 0 2 1,y2,HA,⟨false,0,[⟨true,0,0,13⟩]⟩,oA 2 0 13,y2] [10,11] [oE ((0:Int)<=(fr-200)∧(fr-200)<((2:Nat):Int))] [(b,2,1),(e,0+(Int.toNat (fr-200))*13,13),(w.z+1,0,13)] [y6 255] [⟨b,119,false,GY n a f e d⟩,⟨w.z,59,true,BK sn j q p⟩,⟨w.z+1,63,true,ki e2 o2⟩] [⟨e,0+(Int.toNat (fr-200))*13,ki e2 o2⟩] T.z ?_;refine B1 [[⟨false,2,0,13⟩]] [aE (ki e2 o2),.bool true] [(w.z+1,0,13)] ?_;intro I B;exact⟨rfl,a3.x2 B.x2 (λi ⟨y,h,g⟩ ⟨r,c,m,k⟩=>by cases h;simp at c;rcases c with rfl|rfl|rfl<;>simp at m k g<;>omega),aV.x2 B.x2 (λi ⟨y,h,g⟩ ⟨r,c,m,k⟩=>by cases h;simp at c;rcases c with rfl|rfl|rfl<;>simp at m k g<;>omega),X.x2 B.x2 (λi ⟨y,h,g⟩ ⟨r,c,m,k⟩=>by cases h;simp at c;rcases c with rfl|rfl|rfl<;>simp at m k g<;>omega),(ab.A0 a8 B).x2⟩
structure bK where
 (N S sb kb gO cO gL cL gI gS:Nat)
 row:Nat->Nat×Nat
 HJ:Nat->Nat->aZ
 NN:Nat->cQ
 ids:bB
 says:List dw
 pd:Value
def bK.Xg(s:bK)(n:Nat):av:=[yt (ae ((s.row n).1)) s.S (s.row n).2]
def bK.Wd(s:bK)(n:Nat):List aZ:=(List.range s.S).map (s.HJ n)
def bK.T1(s:bK):List cQ:=(List.range s.S).map s.NN
def bK.cells(s:bK):av:=[i6 (s.N:Int),i6 (s.S:Int),yt (ae s.gO) s.N s.cO,pt s.kb 0,s.pd]
def bK.W5(s:bK):av:=[yt (ae s.gL) s.S s.cL,yt (ae s.gI) 2 2,yt (ae s.gS) 2 2]
structure cy(w:World)(b:Nat)(s:bK):Prop where
 KS:A2 w s.sb 54 s.cells
 Xf:A2 w s.kb 119 s.W5
 rws:ah w 0 83 1 (ae s.gO) s.N s.cO (ai s.Xg (List.range s.N))
 Wz:∀n,n<s.N->ah w 0 61 10 (ae ((s.row n).1)) s.S (s.row n).2 (ai aZ.cells (s.Wd n))
 one:∀n m,n<s.N->m<s.N->(s.row n).1=(s.row m).1->n=m
 NN:ah w 0 73 4 (ae s.gL) s.S s.cL (ai cQ.cells s.T1)
 ids:ah w 0 3 1 (ae s.gI) 2 2 (ai bo s.ids)
 say:ah w 0 63 13 (ae s.gS) 2 2 (ai dw.cells s.says)
 low:s.sb<b∧s.kb<b∧s.gO<b∧s.gL<b∧s.gI<b∧s.gS<b∧∀n,n<s.N->(s.row n).1<b
variable {w a c:World}{b i:Nat}{s:bK}
theorem cy.x2{T:br}(h:cy w b s)(k:au T w a)(u:∀i,T i->b<=i∨cI [98,124] w i):cy a b s:=by
 obtain⟨x,y,z,A,B,C,D⟩:=h.low;have j:∀{d:Nat}{c:TypeId},d<b->fm w c d->([98,124]:List TypeId).contains c=false->¬T d:=λq v e l=>by
  rcases u _ l with p|p
  ·omega
  ·exact aN e v p
 have f:∀{c:TypeId}{m d g n:Nat}{o:av},ah w 0 c m (ae d) g n o->d<b->([98,124]:List TypeId).contains c=false->ah a 0 c m (ae d) g n o:=λr q e=>
  r.x2 k (λi t l=>by have c:=gG i t;subst c;exact j q (r.ty _ t) e l)
 exact⟨h.KS.x2 k (j x (aw h.KS) rfl),h.Xf.x2 k (j y (aw h.Xf) rfl),f h.rws z rfl,λg e=>f (h.Wz g e) (D g e) rfl,h.one,f h.NN A rfl,f h.ids B rfl,f h.say C rfl,h.low⟩
def bK.Wg(s:bK)(n i:Nat)(r:aZ):bK:={s with HJ:=λb a=>if b=n∧a=i then r else s.HJ b a}
theorem yh{α:Type}(f:Nat->α)(m i:Nat)(r:α):((List.range m).map f).set i r=(List.range m).map (λb=>if b=i then r else f b):=by
 apply List.ext_getElem?;intro b;rw[List.getElem?_set,ew,ew,ey,List.length_range];by_cases c:b<m
 ·rw[ek c];by_cases a:i=b
  ·subst a;simp[c]
  ·simp[a,Ne.symm a]
 ·rw[List.getElem?_eq_none (by simpa using c)];by_cases a:i=b
  ·subst a;simp[c]
  ·simp[a]
theorem Mo(s:bK)(n i:Nat)(r:aZ):(s.Wg n i r).Wd n=(s.Wd n).set i r:=by
 unfold bK.Wd;rw[yh];apply ft;intro a _;simp[bK.Wg]
theorem Mp(s:bK){n m:Nat}(r:aZ)(h:m≠n):(s.Wg n i r).Wd m=s.Wd m:=by
 unfold bK.Wd;apply ft;intro a _;simp[bK.Wg,h]
theorem cy.Wg{n:Nat}{r:aZ}(h:cy w b s)(k:n<s.N)(j:au (λe=>e=(s.row n).1) w a)(l:ah a 0 61 10 (ae ((s.row n).1)) s.S (s.row n).2 (ai aZ.cells ((s.Wd n).set i r))):cy a b (s.Wg n i r):=by
 have B:=(h.Wz n k).ty _ ⟨_,rfl,rfl⟩;have o:∀{d:Nat}{c:TypeId},fm w c d->Nat.beq c 61=false->¬d=(s.row n).1:=λz A f=>by
  subst f;exact Nat.ne_of_beq_eq_false A (bS z B)
 have g:∀{c:TypeId}{q d x t:Nat}{u:av},ah w 0 c q (ae d) x t u->Nat.beq c 61=false->ah a 0 c q (ae d) x t u:=λl k=>
  l.x2 j (λe m f=>by have c:=gG e m;subst c;exact o (l.ty _ m) k f)
 refine⟨h.KS.x2 j (o (aw h.KS) rfl),h.Xf.x2 j (o (aw h.Xf) rfl),g h.rws rfl,λp v=>?_,h.one,g h.NN rfl,g h.ids rfl,g h.say rfl,h.low⟩;by_cases c:p=n
 ·subst c;rw[Mo];exact l
 ·rw[Mp s r c];refine(h.Wz p v).x2 j (λe m f=>?_);have y:=gG e m;subst y;exact c (h.one p n v k f)
def bK.WL(s:bK)(i:Nat)(l:cQ)(p:Nat)(id:Int)(y:dw):bK:={s with NN:=λa=>if a=i then l else s.NN a,ids:=s.ids.set p id,says:=s.says.set p y}
theorem cy.WL{p:Nat}{l:cQ}{f:Int}{y:dw}(h:cy w b s)(d:au (λy=>y=s.gL∨y=s.gI∨y=s.gS) w a)(k:ah a 0 73 4 (ae s.gL) s.S s.cL (ai cQ.cells (s.T1.set i l)))(m:ah a 0 3 1 (ae s.gI) 2 2 (ai bo (s.ids.set p f)))(n:ah a 0 63 13 (ae s.gS) 2 2 (ai dw.cells (s.says.set p y))):cy a b (s.WL i l p f y):=by
 have c:∀y,(y=s.gL∨y=s.gI∨y=s.gS)->cI [73,3,63] w y:=by
  rintro y (rfl|rfl|rfl)
  ·exact⟨73,z1,h.NN.ty _ ⟨_,rfl,rfl⟩⟩
  ·exact⟨3,z1,h.ids.ty _ ⟨_,rfl,rfl⟩⟩
  ·exact⟨63,z1,h.say.ty _ ⟨_,rfl,rfl⟩⟩
 have j:(s.WL i l p f y).T1=s.T1.set i l:=by
  unfold bK.T1;rw[yh];rfl
 exact⟨h.KS.x2 d (λe=>aN rfl (aw h.KS) (c _ e)),h.Xf.x2 d (λe=>aN rfl (aw h.Xf) (c _ e)),h.rws.y4 d c rfl,λg o=>(h.Wz g o).y4 d c rfl,h.one,by rw[j];exact k,m,n,h.low⟩
theorem cy.YX(h:cy w b s):∀a,(a=s.gL∨a=s.gI∨a=s.gS)->a<b:=by
 obtain⟨c,d,e,f,g,i,j⟩:=h.low;rintro a (rfl|rfl|rfl)<;>assumption
def fw:List TypeId:=[98,124,141,4,61,178,180,73,3,63,54,119,83]
def DA(w:World)(y:Nat):Prop:=cI fw w y
def dx(lo:Nat)(w:World)(y:Nat):Prop:=DA w y∧lo<=y
theorem fq{lo:Nat}(i:au (dx lo w) w c):∀a,dx lo c a->dx lo w a∨w.z<=a:=by
 rintro a ⟨⟨e,h,k,f,d⟩,j⟩;by_cases g:a<w.z
 ·by_cases b:dx lo w a
  ·exact .inl b
  ·rw[i.block a g b]at d;exact absurd ⟨⟨e,h,k,f,d⟩,j⟩ b
 ·exact .inr yq
theorem kx(h:au (dx w.z w) w a):au z8 w a:=h.mono λc d b=>absurd b.2 (by omega)
def xV(lo:Nat)(s:bK):Prop:=lo<=s.gL∧lo<=s.gI∧lo<=s.gS∧∀a,a<s.N->lo<=(s.row a).1
def W6(F:aI):Prop:=∀w a (T:br) (es:List TypeId),F w->au T w a->(∀b,T b->cI es w b)->es.all (λc=>!(fw.contains c))=true->F a
def mM(F:aI):Prop:=∀w a (T:br) (es:List TypeId),F w->au T w a->(∀b,T b->cI es w b)->es.all (λc=>!((65::fw).contains c))=true->F a
theorem SU:∀a,DA c a∨(b<=a∧fm c 65 a)->cI (65::fw) c a:=by
 rintro a (⟨e,he,h⟩|⟨_,h⟩)
 ·exact⟨e,by simp at he ⊢;exact .inr he,h⟩
 ·exact⟨65,z1,h⟩
theorem MC{lo:Nat}:∀a,dx lo c a∨(b<=a∧fm c 65 a)->cI (65::fw) c a:=λa d=>SU a (d.imp_left λd=>d.1)
theorem lI{es:List TypeId}(he:es.all (λa=>!(fw.contains a))=true):∀a,fw.contains a=true->es.contains a=false:=λa c=>by
 cases d:es.contains a with
 |false=>rfl
 |true=>
  have b:=bE.1 he a (by simpa using d)
  rw[c]at b
  cases b
theorem cy.Bw:W6 (λj=>cy j b s):=λ_ _ _ _ a e d n=>by
 have c:=lI n
 have g:∀{k:Nat}{h:TypeId}{m:av},A2 _ k h m->fw.contains h=true->_:=λi f=>i.x2 e (λo=>aN (c _ f) (aw i) (d _ o))
 exact⟨g a.KS rfl,g a.Xf rfl,a.rws.y4 e d (c _ rfl),λl f=>(a.Wz l f).y4 e d (c _ rfl),a.one,a.NN.y4 e d (c _ rfl),a.ids.y4 e d (c _ rfl),a.say.y4 e d (c _ rfl),a.low⟩
section
variable (c a b S:Nat)(w:World)
def vb(d:Option Nat×Option Nat×Nat):av:=[z7,yt (ae (d.1.getD 0)) 2 2,yt (ae (d.2.1.getD 0)) 2 2]
def pT:av:=rp 3 (i6 0)++[bO_ false]++rp 3 (i6 0)++[sT ⟨#[]⟩,bO_ false]++rp 3 (i6 0)++[sT ⟨#[]⟩]++rp 3 (i6 0)++[bO_ false]++rp 3 (i6 0)++[sT ⟨#[]⟩,bO_ false]++rp 3 (i6 0)++[sT ⟨#[]⟩]
@[simp] def Do(i:Nat)(c:Nat)(a:Nat)(b:Nat)(A:aY)(cp:Nat):ax:=[⟨c,119,true,[yt A i cp,yt (ae a) 2 2,yt (ae b) 2 2]⟩]
@[simp] def IB:ax:=[⟨c,119,true,[z7,yt (ae a) 2 2,yt (ae b) 2 2]⟩]
def VV:Exit->Act->aI:=bodyPost prog f28 (λg a=>∃d b c e f,g=.returned (.tuple #[pt d 0,i6 0])∧w.z<=d∧A2 a d 119 [yt e S f,yt (ae b) 2 2,yt (ae c) 2 2]∧ah a w.z 73 4 e S f (ai cQ.cells (List.replicate S ⟨0,0,0,-1⟩))∧(w.z<=b∧A2 a b 3 [i6 0,i6 0]∧w.z<=c∧A2 a c 63 (pT))∧au z8 w a)
def TZ:bu:=[(0,i6 (S:Int)),(2,.pointer none),(3,i6 0)]
def NL(d:Option Nat×Option Nat×Nat):List (Option Value):=[some (yt (ae (d.1.getD 0)) 2 2),some (yt (ae (d.2.1.getD 0)) 2 2),some (aE (vb d)),some (pt d.2.2 0),some (pt d.2.2 0)]
def NM(d:Option Nat×Option Nat×Nat)(k:Nat):Bool:=(fL 5 [(0,d.1.isSome),(1,d.2.1.isSome)])[k]?.getD true
def Fw(d:Option Nat×Option Nat×Nat):List (ax):=[[],[],[⟨d.2.2,119,true,vb d⟩]]
abbrev Fx(w:World)(c:Nat)(d:Option Nat×Option Nat×Nat)(b:World):Prop:=match c with|0=>(True)∧(∀a,d.1=some a->w.z<=a∧A2 b a 3 [i6 0,i6 0])∧(∀a,d.2.1=some a->w.z<=a∧A2 b a 63 (pT))|1=>(w.z<=(d.1.getD 0)∧A2 b (d.1.getD 0) 3 [i6 0,i6 0]∧w.z<=(d.2.1.getD 0)∧A2 b (d.2.1.getD 0) 63 (pT))∧True|2=>(w.z<=(d.1.getD 0)∧A2 b (d.1.getD 0) 3 [i6 0,i6 0]∧w.z<=(d.2.1.getD 0)∧A2 b (d.2.1.getD 0) 63 (pT))∧True|_=>True
def qX(a:Nat):Prop:=cY prog f28 [1,1,0] 32 [] (VV S w) [y6 15] (TZ S) (V7 5 [2,3]) 2 (NL) NM w z8 (Fw) w.z (Fx w) a
end
def KnI(S:Nat)(e:Nat)(b:Nat)(c:Nat)(w:World)  (m:Nat) (st:St) (a:World):Prop:=
 ∃(i:Nat)(A:aY)(d:Nat)(z:Nat),m+i=S∧i<=S∧ah a w.z 73 4 A i d (ai cQ.cells (List.replicate i ⟨0,0,0,-1⟩))∧(w.z<=b∧A2 a b 3 [i6 0,i6 0]∧w.z<=c∧A2 a c 63 (pT))∧st=⟨[(0,i6 (S:Int)),(2,.pointer none),(3,i6 0),(4,pt e 0),(5,i6 (i:Int))],Do i e b c A d,[],z⟩
theorem Fy(S:Nat)(cL:1<=S∧S<=8)(w:World):aC 28 #[i6 (S:Int)] w (λW m=>∃aq ac ad a4 a8,W=.returned (.tuple #[pt aq 0,i6 0])∧w.z<=aq∧A2 m aq 119 [yt a4 S a8,yt (ae ac) 2 2,yt (ae ad) 2 2]∧ah m w.z 73 4 a4 S a8 (ai cQ.cells (List.replicate S ⟨0,0,0,-1⟩))∧(w.z<=ac∧A2 m ac 3 [i6 0,i6 0]∧w.z<=ad∧A2 m ad 63 ([i6 0,i6 0,i6 0]++ka++[i6 0,i6 0,i6 0]++ka))∧au z8 w m):=by
 refine cH (S:=z8) (n:=32) func28 (ab.none w _) ?_;refine Aq 21 (dz 9 1073741824) [0,2,3] (rE 3 (dF (((S:Int):Int)<1))++[dF (((S:Int):Int)>8)]) [] [y6 14,y6 15] ⟨[(0,i6 (S:Int)),(2,.pointer none),(3,i6 0)],[],[],w.z⟩ ?_;have a1:eh w z8 (Fw) (Fx w):=by
  intro u a j m L d c e y
  match u,d,e with
  |0,d,e=>
   obtain rfl:=ap d;exact⟨trivial,λq E=>⟨(e.2.1 q E).1,(e.2.1 q E).2.x2 y (λ⟨V,d,_⟩=>(by cases d))⟩,λq E=>⟨(e.2.2 q E).1,(e.2.2 q E).2.x2 y (λ⟨V,d,_⟩=>by cases d)⟩⟩
  |1,d,e=>
   obtain rfl:=ap d;obtain⟨⟨J,B,K,C⟩,_⟩:=e;exact⟨⟨J,B.x2 y (λb=>aN rfl (aw B) (ag c _ b)),K,C.x2 y (λb=>aN rfl (aw C) (ag c _ b))⟩,trivial⟩
  |2,d,e=>
   obtain rfl:=ap d;obtain⟨⟨J,B,K,C⟩,_⟩:=e;exact⟨⟨J,B.x2 y (λb=>aN rfl (aw B) (ag c _ b)),K,C.x2 y (λb=>aN rfl (aw C) (ag c _ b))⟩,trivial⟩
  |u+3,d,e=>exact trivial
 have co:qX S w 0:=W1 0 3 [i6 0,i6 0] (λa o=>(some o,a.2)) (λo=>yt (ae o) 2 2) (λu a j m L D d c e y Z ak=>by
  have r:=a1 u a j m L d c e y
  match u,d,e,r,D with
  |0,d,e,r,D=>exact⟨r.1,⟨(λq E=>by obtain rfl:=ap E;exact⟨Z,ak⟩),r.2.2⟩⟩
  |u+1,d,e,r,D=>exact absurd D yq)
 have cp:qX S w 1:=W1 0 63 (pT) (λa o=>(a.1,some o,a.2.2)) (λo=>yt (ae o) 2 2) (λu a j m L D d c e y Z ak=>by
  have r:=a1 u a j m L d c e y
  match u,d,e,r,D with
  |0,d,e,r,D=>exact⟨r.1,⟨r.2.1,(λq E=>by obtain rfl:=ap E;exact⟨Z,ak⟩)⟩⟩
  |u+1,d,e,r,D=>exact absurd D yq)
 have cq:qX S w 2:=Xa (s:=0) (x:=λa=>Instr.build 119 #[(1,yt (ae (a.1.getD 0)) 2 2),(2,yt (ae (a.2.1.getD 0)) 2 2)]) (λ(a:Option Nat×Option Nat×Nat)(_:Unit)=>a) (λa=>aE (vb a)) (λa j L d c e a0=>by
  obtain rfl:=ap d;obtain⟨cP,aR⟩:∃q,a.1=some q:=cV.1 (a0 0 (aS (i:=0) v7) (d9 (k:=12) v7));obtain⟨cR,aV⟩:∃q,a.2.1=some q:=cV.1 (a0 1 (aS (i:=1) v7) (d9 (k:=13) v7));obtain⟨_,cf,cl⟩:=e;obtain⟨J,B⟩:=cf _ aR;obtain⟨K,C⟩:=cl _ aV;exact⟨(),j,(show(Instr.build 119 #[(1,yt (ae (a.1.getD 0)) 2 2),(2,yt (ae (a.2.1.getD 0)) 2 2)]).run prog j=.ok (aE (vb a)) j by kernel_rfl),rfl,⟨⟨by rw[aR];exact J,by rw[aR];exact B,by rw[aV];exact K,by rw[aV];exact C⟩,trivial⟩,c,bT _⟩)
 have cr:qX S w 3:=Xa (s:=1) (x:=λa=>Instr.box 119 (aE (vb a))) (λ(a:Option Nat×Option Nat×Nat)(o:Nat)=>(a.1,a.2.1,o)) (λa=>pt a.2.2 0) (λa j L d c e a0=>by
  obtain rfl:=ap d;obtain⟨⟨J,B,K,C⟩,_⟩:=e;obtain⟨m,Q,R,I,a5⟩:=IC (P:=prog) j 119 (aE (vb a));exact⟨j.z,m,Q,rfl,⟨⟨J,B.x2 I (λb=>b),K,C.x2 I (λb=>b)⟩,trivial⟩,c.Wc (I.mono (λ_ _ b=>b.elim)) R c.x2.size (λV d W=>absurd (c.zq V d).lt (by dsimp only at W;omega)),a5⟩)
 have cn:∀b1∈(f5 2 [4]:List (fG (Option Nat×Option Nat×Nat))),qX S w b1.i:=bp _ a1 (λa=>v7) v7 (λa cO=>v7);have cm:∀a6,a6<5->qX S w a6:=f6 (l:=[0,1,2,3]) v7 cn ⟨co,cp,cq,cr,trivial⟩;refine bD (Δ:=Option Nat×Option Nat×Nat) z8 (NL) NM (Fw) (Fx w) [0,2,3,4] (λa=>[(0,i6 (S:Int)),(2,.pointer none),(3,i6 0),(4,pt a.2.2 0)]) (λa=>[⟨a.2.2,119,true,vb a⟩]) (none,none,0) (λ_ b=>b) v7 v7 v7 (λj c=>⟨tI,(λ_ b=>by cases b),(λ_ b=>by cases b)⟩) v7 cm (λa=>v7) (λa=>v7) (λa H bg b9 c2 O=>?_);obtain⟨g,bd⟩:∃o,a.1=some o:=cV.1 (bg 0 (Nat.le_of_ble_eq_true v7) (d9 (k:=12) v7));obtain⟨h,z6⟩:∃o,a.2.1=some o:=cV.1 (bg 1 (Nat.le_of_ble_eq_true v7) (d9 (k:=13) v7));obtain⟨cC,cK,f⟩:=a;dsimp only at bd z6;subst bd z6;obtain⟨G,_⟩:=b9;replace G:w.z<=g∧A2 H g 3 [i6 0,i6 0]∧w.z<=h∧A2 H h 63 (pT):=G;replace O:ab w z8 (IB f g h) [] H.z H:=O;change aF _ _ _ _ H (ao (IB f g h)) _ [y6 15] ⟨[(0,i6 (S:Int)),(2,.pointer none),(3,i6 0),(4,pt f 0)],IB f g h,[],H.z⟩;refine Aq 9 [y2] [0,2,3,4,5] [] [] [y6 122,.zq 0,y6 31] ⟨[(0,i6 (S:Int)),(2,.pointer none),(3,i6 0),(4,pt f 0),(5,i6 0)],IB f g h,[],H.z⟩ ?_;refine bm (w:=w) (S':=λ_=>False) (KnI S f g h w) S v7 (λcB c=>⟨⟨0,none,0,_,yq,yq,ah.nil _ _ _ _,⟨G.1,G.2.1.x2 c.x2 (λb=>aN rfl (aw G.2.1) (ag O _ b)),G.2.2.1,G.2.2.2.x2 c.x2 (λb=>aN rfl (aw G.2.2.2) (ag O _ b))⟩,rfl⟩,ab.A0 O c⟩) ?_;rintro bk _ F ⟨i,t,v,cA,c1,cU,a9,p,rfl⟩ A a2 b2;have cb:w.z<=f:=(A.own _ (aS (i:=0) rfl) rfl).resolve_left (λb=>b);by_cases Q:i<S
 rotate_left
 ·skip;refine z6 18 (dz 7 0) [2,3] [dF (((i:Int):Int)<(S:Int))] [] [y6 63] (Do i f g h t v) [] F.z ?_;refine B1 [] [pt f 0,i6 0] [] ?_;intro j c;obtain rfl:i=S:=by omega
  exact⟨f,g,h,t,v,rfl,cb,c.at_ 0 rfl,a9.kT c A,⟨p.1,p.2.1.x2 c.x2 (λb=>aN rfl (aw p.2.1) (ag A _ b)),p.2.2.1,p.2.2.2.x2 c.x2 (λb=>aN rfl (aw p.2.2.2) (ag A _ b))⟩,(ab.A0 A c).x2⟩
 refine Aq 22 (dz 11 0x1000800001000) [0,2,3,4,5,21,25,27] [dT (((i:Int):Int)<(S:Int))] [(f,0,1)] [.ops (Ac 1956) [7,8,9,10],.zq 1,y6 979,.inv a2,.zq 0,y6 31] ⟨[(0,i6 (S:Int)),(2,.pointer none),(3,i6 0),(4,pt f 0),(5,i6 (i:Int)),(21,pt f 0),(25,yt t i v),(27,yt (ae F.z) 1 1)],[⟨f,119,true,[yt t i v,yt (ae g) 2 2,yt (ae h) 2 2]⟩,⟨F.z,73,true,[i6 0,i6 0,i6 0,i6 (-1)]⟩],[],F.z+1⟩ ?_;refine dE (w:=w) (S':=z8) (Y:=aO) (dst:=some 28) (x:=Builtin.append_ #[116,116] 116 #[yt t i v,yt (ae F.z) 1 1]) (λz=>yt z.1 (i+1) z.2) (Do i f g h t v) (λz X=>ah X w.z 73 4 z.1 (i+1) z.2 (ai cQ.cells (List.replicate (i+1) ⟨0,0,0,-1⟩))∧(w.z<=g∧A2 X g 3 [i6 0,i6 0]∧w.z<=h∧A2 X h 63 (pT))) (λz=>[(28,yt z.1 (i+1) z.2),(0,i6 (S:Int)),(2,.pointer none),(3,i6 0),(4,pt f 0),(5,i6 (i:Int)),(21,pt f 0),(25,yt t i v),(27,yt (ae F.z) 1 1)]) v7 v7 (λ_=>rfl) (λj c=>?_) (λz bt ca U=>?_)
 ·have T:=a9.kT c A;have an:=ab.A0 A c;have N:w.z<=g∧A2 j g 3 [i6 0,i6 0]∧w.z<=h∧A2 j h 63 (pT):=⟨p.1,p.2.1.x2 c.x2 (λb=>aN rfl (aw p.2.1) (ag A _ b)),p.2.2.1,p.2.2.2.x2 c.x2 (λb=>aN rfl (aw p.2.2.2) (ag A _ b))⟩;obtain⟨bs,b7,m,Q,R,I,a5⟩:=ce (P:=prog) j w.z 116 116 73 (.agg #[i6 0,i6 0,i6 0,i6 0]) 4 32 t i v (ai cQ.cells (List.replicate i ⟨0,0,0,-1⟩)) ⟨F.z,0,none⟩ 1 1 [i6 0,i6 0,i6 0,i6 (-1)] v7 v7 v7 (by decide) T rfl (λcs x b4=>by rw[bY,bG];exact(c.at_ 1 rfl).at_ b4) (aU rfl) yq (by decide) an.x2.size;rw[show[i6 0,i6 0,i6 0,i6 (-1)]=cQ.cells ⟨0,0,0,-1⟩from rfl,eU,<-List.replicate_succ']at R;have bb:=bW T;exact⟨(bs,b7),m,Q,⟨R,N.1,N.2.1.x2 I (λb=>aN rfl (aw N.2.1) (bb _ b)),N.2.2.1,N.2.2.2.x2 I (λb=>aN rfl (aw N.2.2.2) (bb _ b))⟩,(an.sub (Ex:=Do i f g h t v) z1).A3 (λ_ b=>b) I (λbl b5=>.inr (T.own bl b5).1) (bI (an.sub (Ex:=Do i f g h t v) z1) (bW T) rfl)⟩
 obtain⟨a3,a7⟩:=z;obtain⟨b8,M⟩:=ca;refine Aq 13 (dz 6 0x2001000800) [0,2,3,4,5] [JL ((i:Int)+1)] [(f,0,1)] [.inv a2,.zq 0,y6 31] ⟨[(0,i6 (S:Int)),(2,.pointer none),(3,i6 0),(4,pt f 0),(5,i6 ((i:Int)+1))],[⟨f,119,true,[yt a3 (i+1) a7,yt (ae g) 2 2,yt (ae h) 2 2]⟩],[],bt.z⟩ ?_;rw[<-aW i];intro b0 b6 b3 c;exact b2 (bk-1) _ b0 b6 yq ⟨i+1,a3,a7,_,yq,yq,b8.kT c U,⟨M.1,M.2.1.x2 c.x2 (λb=>aN rfl (aw M.2.1) (ag U _ b)),M.2.2.1,M.2.2.2.x2 c.x2 (λb=>aN rfl (aw M.2.2.2) (ag U _ b))⟩,rfl⟩ b3 (ab.A0 U c)
def d7:ByteArray:=bX (List.replicate 16 0)
def RL:dw:=⟨0,0,0,⟨false,0,0,0,⟨#[]⟩,false,0,0,0,⟨#[]⟩⟩⟩
variable {w W:World}{g b S kb gI gS cp n gL cL:Nat}{A:aY}{row:Nat->Nat×Nat}
theorem Dp{v8:Nat}{e:TypeId}{z:Nat}{cs:av}(a:v8<=g)(h:A2 w g e cs)(b:cs.length=2*z)(_hz:2*z<=100:=by omega):ah w v8 e z (ae g) 2 2 cs:=
 jn (r:=[]) a (by rw[dD];exact h) (bT _) (by simp only[maxLen];omega) yq (by rw[dD];omega)
def qY:aZ:=⟨true,0,0,0,d7,false,0,0,0,⟨#[]⟩⟩
structure Lh(W:World)(b S kb gI gS:Nat)(A:aY)(cp:Nat):Prop where
 h0:b<=kb
 h1:A2 W kb 119 [yt A S cp,yt (ae gI) 2 2,yt (ae gS) 2 2]
 h2:ah W b 73 4 A S cp (ai cQ.cells (List.replicate S ⟨0,0,0,-1⟩))
 h3:b<=gI
 h4:A2 W gI 3 [i6 0,i6 0]
 h5:b<=gS
 h6:A2 W gS 63 ([i6 0,i6 0,i6 0]++ka++[i6 0,i6 0,i6 0]++ka)
theorem Lh.some_(h:Lh W b S kb gI gS A cp)(d:1<=S∧S<=8):∃g,A=some ⟨g,0,none⟩:=by
 obtain⟨g,c,_⟩:=ah.cell (j:=0) (v:=i6 0) h.h2 (by obtain⟨a,rfl⟩:∃a,S=a+1:=⟨S-1,yq⟩;rfl);exact⟨g,c⟩
theorem yP:u4 (List.replicate 16 0):=λb a=>by rw[List.eq_of_mem_replicate a];decide
theorem i4{es b:List TypeId}{y:Nat}(h:cI es w y)(hs:es.all b.contains=true):cI b w y:=by
 obtain⟨a,c,d⟩:=h;exact⟨a,by have e:=bE.1 hs a (by simpa using c);simpa using e,d⟩
theorem NO(h:ah W b 61 10 A S cp (ai aZ.cells (List.replicate S qY)))(d:1<=S∧S<=8):∃g,A=some ⟨g,0,none⟩:=by
 obtain⟨g,c,_⟩:=ah.cell (j:=0) (v:=bO_ true) h (by obtain⟨a,rfl⟩:∃a,S=a+1:=⟨S-1,yq⟩;rfl);exact⟨g,c⟩
def kM(S:Nat)(row:Nat->Nat×Nat)(m:Nat):av:=[yt (ae ((row m).1)) S (row m).2]
def vc(row:Nat->Nat×Nat)(n g c:Nat):Nat->Nat×Nat:=λa=>if a=n then(g,c)else row a
theorem Li{c:Nat}:ai (kM S row) (List.range n)++[yt (ae g) S c]=ai (kM S (vc row n g c)) (List.range (n+1)):=by
 rw[List.range_succ];unfold ai;rw[List.map_append,List.flatten_append];have b:List.map (kM S row) (List.range n)=List.map (kM S (vc row n g c)) (List.range n):=by
  apply ft;intro e a;have a:=bn.1 a;unfold kM vc;rw[ay yq]
 have d:[Value.slice (ae g) S c]=(List.map (kM S (vc row n g c)) [n]).flatten:=by
  simp[kM,vc]
 rw[b,d]
structure mh(w:World)(S kb gI gS gL cL n:Nat)(row:Nat->Nat×Nat)(b:Nat)(W:World):Prop where
 key:Lh W w.z S kb gI gS (ae gL) cL
 Wz:∀m,m<n->ah W w.z 61 10 (ae ((row m).1)) S (row m).2 (ai aZ.cells (List.replicate S qY))
 one:∀m m',m<n->m'<n->(row m).1=(row m').1->m=m'
 low:kb<b∧gI<b∧gS<b∧gL<b∧∀m,m<n->(row m).1<b
theorem mh.x2{l:World}{T:br}(h:mh w S kb gI gS gL cL n row b W)(e:au T W l)(o:∀a,T a->b<=a∨cI [23,54,83] W a):mh w S kb gI gS gL cL n row b l:=by
 obtain⟨r,s,t,u,v⟩:=h.low;have d:∀{g:Nat}{c:TypeId},g<b->fm W c g->([23,54,83]:List TypeId).contains c=false->¬T g:=λx q p f=>by
  rcases o _ f with m|m
  ·omega
  ·exact aN p q m
 refine⟨⟨h.key.h0,h.key.h1.x2 e (d r (aw h.key.h1) rfl),h.key.h2.x2 e (λa i f=>?_),h.key.h3,h.key.h4.x2 e (d s (aw h.key.h4) rfl),h.key.h5,h.key.h6.x2 e (d t (aw h.key.h6) rfl)⟩,λj k=>(h.Wz j k).x2 e (λa i f=>?_),h.one,h.low⟩
 ·have c:=gG a i;subst c;exact d u (h.key.h2.ty _ i) rfl f
 ·have c:=gG a i;subst c;exact d (v j k) ((h.Wz j k).ty _ i) rfl f
theorem mh.mono{a:Nat}(h:mh w S kb gI gS gL cL n row b W)(f:b<=a):mh w S kb gI gS gL cL n row a W:=by
 obtain⟨g,i,j,k,e⟩:=h.low;exact{ h with low:=⟨yq,yq,yq,yq,λc d=>by have:=e c d;omega⟩}
theorem mh.start(h:Lh W w.z S kb gI gS (ae gL) cL):mh w S kb gI gS gL cL 0 row W.z W:=
 ⟨h,λ_ h=>absurd h (Nat.not_lt_zero _),λ_ _ h=>absurd h (Nat.not_lt_zero _),h.h1.lt,h.h4.lt,h.h6.lt,(h.h2.own _ ⟨_,rfl,rfl⟩).2,λ_ h=>absurd h (Nat.not_lt_zero _)⟩
theorem mh.add{c:Nat}(h:mh w S kb gI gS gL cL n row b W)(o:w.z<=b)(j:ah W b 61 10 (ae g) S c (ai aZ.cells (List.replicate S qY))):mh w S kb gI gS gL cL (n+1) (vc row n g c) W.z W:=by
 have l:=j.own _ ⟨_,rfl,rfl⟩;obtain⟨p,q,r,s,i⟩:=h.low;have t:b<=g:=l.1;have u:g<W.z:=l.2;refine⟨h.key,λd k=>?_,λd f k v=>?_,yq,yq,yq,yq,λd k=>?_⟩
 ·unfold vc;by_cases a:d=n
  ·simp only[aA a];exact j.below o
  ·simp only[ay a];exact h.Wz d yq
 ·unfold vc;by_cases a:d=n
  ·by_cases e:f=n
   ·intro _;omega
   ·simp only[aA a,ay e];intro m;have:=i f yq;omega
  ·by_cases e:f=n
   ·simp only[ay a,aA e];intro m;have:=i d yq;omega
   ·simp only[ay a,ay e];exact h.one d f yq yq
 ·unfold vc;by_cases a:d=n
  ·simp only[aA a];omega
  ·simp only[ay a];have:=i d yq;omega
structure Vn(N S:Nat)(s:bK):Prop where
 sN:s.N=N
 sS:s.S=S
 HJ:s.HJ=λ_ _=>qY
 NN:s.NN=λ_=>⟨0,0,0,-1⟩
 ids:s.ids=[0,0]
 says:s.says=[RL,RL]
 pd:s.pd=yt none 0 0
theorem xW{α:Type}(n:Nat)(x:α):(List.range n).map (λ_=>x)=List.replicate n x:=by simp[List.map_const']
theorem NQ{N c:Nat}(B:3<=N∧N<=6)(h:mh w S kb gI gS gL cL N row W.z W)(d:ah W w.z 83 1 A N cp (ai (kM S row) (List.range N)))(o:A2 W c 54 [i6 (N:Int),i6 (S:Int),yt A N cp,pt kb 0,z7])(p:au z8 w W)(z:w.z<=c):∃b:bK,(Ending.returned (pt c 0))=.returned (pt b.sb 0)∧cy W W.z b∧(Vn N S b∧xV w.z b∧w.z<=b.sb)∧au z8 w W:=by
 obtain⟨g,rfl,_⟩:=ah.cell (j:=0) (v:=yt (ae ((row 0).1)) S (row 0).2) d (by obtain⟨a,rfl⟩:∃a,N=a+1:=⟨N-1,yq⟩;rw[List.range_succ_eq_map];rfl);obtain⟨s,t,u,x,y⟩:=h.low;have e:∀{k:TypeId}{l n i:Nat}{f:aY}{m:av},ah W w.z k l f n i m->ah W 0 k l f n i m:=λh=>h.below (Nat.zero_le _);refine⟨⟨N,S,c,kb,g,cp,gL,cL,gI,gS,row,λ_ _=>qY,λ_=>⟨0,0,0,-1⟩,[0,0],[RL,RL],z7⟩,rfl,⟨o,h.key.h1,e d,λa q=>?_,h.one,?_,Dp (Nat.zero_le _) h.key.h4 rfl,Dp (Nat.zero_le _) h.key.h6 rfl,o.lt,s,(d.own _ ⟨_,rfl,rfl⟩).2,x,t,u,y⟩,⟨⟨rfl,rfl,rfl,rfl,rfl,rfl,rfl⟩,⟨(h.key.h2.own _ ⟨_,rfl,rfl⟩).1,h.key.h3,h.key.h5,λn r=>((h.Wz n r).own _ ⟨_,rfl,rfl⟩).1⟩,z⟩,p⟩
 ·show ah W 0 61 10 (ae ((row a).1)) S (row a).2 (ai aZ.cells ((List.range S).map (λ_=>qY)))
  rw[xW];exact e (h.Wz a q)
 ·show ah W 0 73 4 (ae gL) S cL (ai cQ.cells ((List.range S).map (λ_=>(⟨0,0,0,-1⟩:cQ))))
  rw[xW];exact e h.key.h2
section
variable (N S n kb:Nat)(A:aY)(cp:Nat)(w:World)
def zg:av:=[i6 (N:Int),i6 (S:Int),yt A n cp,pt kb 0,z7]
def T2:av:=[i6 (N:Int),i6 (S:Int),z7,.pointer none,z7]
def NR:av:=rp 16 (.int .u8 0)
def NT:aH:=[1,1,1,0,1,0,0,1,0,0,1,0,1,0,0,1,0,0]
def vd:aH:=[1,1,1,0,1,0,0,1,0,0,1,1]
def ve:aH:=[1,1,1,0,1,0,0,1,1]
@[simp] def jF:ax:=[⟨w.z,23,true,[i6 (N:Int),i6 (S:Int)]⟩,⟨w.z+1,54,true,zg N S n kb A cp⟩]
@[simp] def vf:ax:=[⟨w.z,23,true,[i6 (N:Int),i6 (S:Int)]⟩,⟨w.z+1,54,true,T2 N S⟩]
end
def VW(N:Nat)(S:Nat)(kb:Nat)(gL:Nat)(cL:Nat)(gI:Nat)(gS:Nat)(w:World)  (m:Nat) (st:St) (a:World):Prop:=
 ∃(n:Nat)(A:aY)(cp:Nat)(row:Nat->Nat×Nat)(z:Nat),m+n=N∧n<=N∧mh w S kb gI gS gL cL n row a.z a∧ah a w.z 83 1 A n cp (ai (kM S row) (List.range n))∧st=⟨[(1,pt w.z 0),(2,.pointer none),(3,pt (w.z+1) 0),(4,i6 (n:Int))],jF N S n kb A cp w,[],z⟩
def VX(N:Nat)(S:Nat)(n:Nat)(kb:Nat)(gL:Nat)(cL:Nat)(gI:Nat)(gS:Nat)(A:aY)(cp:Nat)(row:Nat->Nat×Nat)(w:World)(b:World)  (m:Nat) (st:St) (a:World):Prop:=
 ∃(i:Nat)(B:aY)(c:Nat)(z:Nat),m+i=S∧i<=S∧b.z<=a.z∧mh w S kb gI gS gL cL n row b.z a∧ah a w.z 83 1 A n cp (ai (kM S row) (List.range n))∧ah a b.z 61 10 B i c (ai aZ.cells (List.replicate i qY))∧st=⟨[(1,pt w.z 0),(2,.pointer none),(3,pt (w.z+1) 0),(4,i6 (n:Int)),(5,yt B i c),(6,i6 (i:Int))],jF N S n kb A cp w,[],z⟩
theorem RM(N S:Nat)(bb:3<=N∧N<=6)(V:1<=S∧S<=8)(w:World):aC 9 #[.agg #[i6 (N:Int),i6 (S:Int)]] w (λaV u=>∃G:bK,aV=.returned (pt G.sb 0)∧cy u u.z G∧(Vn N S G∧xV w.z G∧w.z<=G.sb)∧au z8 w u):=by
 refine cH (S:=z8) (n:=48) func9 (ab.none w _) ?_;refine Aq 20 (dz 9 0x101080000002000800) [1,2,3,11,13] [] [(w.z,0,2),(w.z,1,1)] [.ops (Ac 14) [3,4,5,6,7,8,9],y6 15] ⟨[(1,pt w.z 0),(2,.pointer none),(3,pt (w.z+1) 0),(11,pt (w.z+1) 0),(13,i6 (S:Int))],vf N S w,[],w.z+2⟩ ?_;refine fh (w:=w) (S':=z8) (Y:=Nat×Nat×Nat×aO) (λc=>.tuple #[pt c.1 0,i6 0]) (λc=>vf N S w) (λc m=>Lh m w.z S c.1 c.2.1 c.2.2.1 c.2.2.2.1 c.2.2.2.2) (λc=>[(14,.tuple #[pt c.1 0,i6 0]),(1,pt w.z 0),(2,.pointer none),(3,pt (w.z+1) 0),(11,pt (w.z+1) 0),(13,i6 (S:Int))]) (v7:_=some (28,[i6 (S:Int)],some 14,[])) tI (λ_=>rfl) (λv a=>?_) (λc C L M=>?_)
 ·refine(Fy S V v).mono λaV u bd=>?_;obtain⟨kb,gI,gS,A,cp,D,t,o,U,J,a8⟩:=bd;have K:=a.x2.size;exact⟨(kb,gI,gS,A,cp),D,⟨az K t,o,U.below K,az K J.1,J.2.1,az K J.2.2.1,J.2.2.2⟩,a.A3 (λ_ r=>r) a8 (λ_ r=>r.elim) (λb b5 r=>r.elim)⟩
 obtain⟨kb,gI,gS,A,cL⟩:=c;replace L:Lh C w.z S kb gI gS A cL:=L;obtain⟨gL,rfl⟩:=L.some_ V;replace M:ab w z8 (vf N S w) [] C.z C:=M;change aF _ _ _ _ C (ao (vf N S w)) _ [.ops (Ac 14) [4,5,6,7,8,9],y6 15] ⟨[(14,.tuple #[pt kb 0,i6 0]),(1,pt w.z 0),(2,.pointer none),(3,pt (w.z+1) 0),(11,pt (w.z+1) 0),(13,i6 (S:Int))],vf N S w,[],C.z⟩;refine Aq 16 (dz 7 0x1031800000) [1,2,3,4] [] [(w.z+1,3,1)] [y6 122,.zq 0,y6 31] ⟨[(1,pt w.z 0),(2,.pointer none),(3,pt (w.z+1) 0),(4,i6 0)],[⟨w.z,23,true,[i6 (N:Int),i6 (S:Int)]⟩,⟨w.z+1,54,true,[i6 (N:Int),i6 (S:Int),z7,pt kb 0,z7]⟩],[],C.z⟩ ?_;refine bm (w:=w) (S':=λ_=>False) (VW N S kb gL cL gI gS w) N v7 (λa7 a=>⟨⟨0,none,0,λ_=>(0,0),_,yq,yq,((mh.start L).x2 a.x2 (λe h=>.inr (i4 (ag M e h) rfl))).mono a.x2.size,ah.nil _ _ _ _,rfl⟩,ab.A0 M a⟩) ?_;rintro a6 _ k ⟨n,A,cp,row,b4,b9,b8,a1,a3,rfl⟩ l B a9;have cf:w.z+1<k.z:=(l.at_ 1 rfl).lt;by_cases D:n<N
 rotate_left
 ·skip;refine z6 18 (dz 7 16779264) [2] [dF (((n:Int):Int)<(N:Int))] [(w.z,0,1)] [y6 63] (jF N S n kb A cp w) [] k.z ?_;refine B1 [] [pt (w.z+1) 0] [] ?_;intro v a;obtain rfl:n=N:=by omega
  exact NQ bb ((a1.x2 a.x2 (λe h=>.inr (i4 (ag l e h) rfl))).mono a.x2.size) (a3.kT a l) (a.at_ 1 rfl) (ab.A0 l a).x2 yq
 refine Aq 25 (dz 7 0x1001000800) [1,2,3,4,5,6] [dT (((n:Int):Int)<(N:Int))] [(w.z,0,1)] [y6 31306,.zq 2,.code vd,.zq 1,.code ve,.inv B,.zq 0,y6 31] ⟨[(1,pt w.z 0),(2,.pointer none),(3,pt (w.z+1) 0),(4,i6 (n:Int)),(5,z7),(6,i6 0)],jF N S n kb A cp w,[],k.z⟩ ?_;refine bm (w:=w) (S':=λ_=>False) (VX N S n kb gL cL gI gS A cp row w k) S v7 (λa7 a=>⟨⟨0,none,0,_,yq,yq,a.x2.size,a1.x2 a.x2 (λe h=>.inr (i4 (ag l e h) rfl)),a3.kT a l,ah.nil _ _ _ _,rfl⟩,ab.A0 l a⟩) ?_;rintro bg _ i ⟨d,p,j,b6,cb,ca,a0,a2,a4,an,rfl⟩ q Q bl;by_cases t:d<S
 rotate_left
 ·skip;refine Aq 21 (dz 12 0x1021800000001010800) [1,2,3,4,37,41,43] [dF (((d:Int):Int)<(S:Int))] [(w.z,1,1),(w.z+1,2,1)] [.ops vd [7,8,9,10],.zq 1,.code ve,.inv B,.zq 0,y6 31] ⟨[(1,pt w.z 0),(2,.pointer none),(3,pt (w.z+1) 0),(4,i6 (n:Int)),(37,pt (w.z+1) 0),(41,yt A n cp),(43,yt (ae i.z) 1 1)],[⟨w.z,23,true,[i6 (N:Int),i6 (S:Int)]⟩,⟨w.z+1,54,true,zg N S n kb A cp⟩,⟨i.z,83,true,[yt p d j]⟩],[],i.z+1⟩ ?_;obtain rfl:S=d:=by omega
  obtain⟨I,rfl⟩:∃g,p=some ⟨g,0,none⟩:=NO an V;have b2:=l.x2.size;refine dE (w:=w) (S':=z8) (Y:=aO) (dst:=some 44) (x:=Builtin.append_ #[51,51] 51 #[yt A n cp,yt (ae i.z) 1 1]) (λc=>yt c.1 (n+1) c.2) (jF N S n kb A cp w) (λc m=>k.z<=m.z∧mh w S kb gI gS gL cL n row k.z m∧ah m k.z 61 10 (ae I) S j (ai aZ.cells (List.replicate S qY))∧ah m w.z 83 1 c.1 (n+1) c.2 (ai (kM S (vc row n I j)) (List.range (n+1)))) (λc=>[(44,yt c.1 (n+1) c.2),(1,pt w.z 0),(2,.pointer none),(3,pt (w.z+1) 0),(4,i6 (n:Int)),(37,pt (w.z+1) 0),(41,yt A n cp),(43,yt (ae i.z) 1 1)]) v7 v7 (λ_=>rfl) (λv a=>?_) (λc R aR s=>?_)
  ·have y:=a4.kT a q;have z:=ab.A0 q a;have ak:=a2.x2 a.x2 (λe h=>.inr (i4 (ag q e h) rfl));have bt:=an.kT a q;obtain⟨O,ac,u,D,t,o,U⟩:=ce (P:=prog) v w.z 51 51 83 z7 1 24 A n cp (ai (kM S row) (List.range n)) ⟨i.z,0,none⟩ 1 1 [yt (ae I) S j] v7 v7 v7 (by decide) y rfl (λa5 x X=>by rw[bY,bG];exact(a.at_ 2 rfl).at_ X) (aU rfl) yq (by decide) (by have:=z.x2.size;have:=a.x2.size;omega);rw[Li]at t;have E:=bW y;exact⟨(O,ac),u,D,⟨az a0 (az a.x2.size o.size),ak.x2 o (λe h=>.inr (i4 (E e h) rfl)),bt.y4 o E rfl,t⟩,(z.sub (Ex:=jF N S n kb A cp w) z1).A3 (λ_ r=>r) o (λe h=>.inr (by have:=(y.own e h).1;have:=l.x2.size;omega)) (bI (z.sub (Ex:=jF N S n kb A cp w) z1) E rfl)⟩
  obtain⟨F,H⟩:=c;obtain⟨_,ad,aq,bs⟩:=aR;refine di (f:=13) (hs:=[y2,y2,oA 1 2 1,y2,HA,y2]) [1,2,3,4] [true,true] (v7:_=some (Res.mk [T0 .i64 ((n:Int)+1)] (aX [(w.z+1,2,1)]) [.inv B,.zq 0,y6 31] ⟨[(1,pt w.z 0),(2,.pointer none),(3,pt (w.z+1) 0),(4,i6 ((n:Int)+1))],[⟨w.z,23,true,[i6 (N:Int),i6 (S:Int)]⟩,⟨w.z+1,54,true,[i6 (N:Int),i6 (S:Int),yt F (n+1) H,pt kb 0,z7]⟩],[],R.z⟩)) ⟨i0 yq,trivial⟩ ?_;rw[<-aW n];intro T Z W a;exact a9 (a6-1) _ T Z yq ⟨n+1,F,H,vc row n I j,_,yq,yq,mh.add (ad.x2 a.x2 (λe h=>.inr (i4 (ag s e h) rfl))) yq (aq.kT a s),bs.kT a s,rfl⟩ W (ab.A0 s a)
 refine Aq 18 (dz 7 0x1001010800) [1,2,3,4,5,6,31,32] [dT (((d:Int):Int)<(S:Int))] [(w.z,1,1)] [.ops NT [2,3,4,5,6],.zq 3,y6 250451,.inv Q,.zq 2,.code vd,.zq 1,.code ve,.inv B,.zq 0,y6 31] ⟨[(1,pt w.z 0),(2,.pointer none),(3,pt (w.z+1) 0),(4,i6 (n:Int)),(5,yt p d j),(6,i6 (d:Int)),(31,yt p d j),(32,yt (ae i.z) 16 16)],[⟨w.z,23,true,[i6 (N:Int),i6 (S:Int)]⟩,⟨w.z+1,54,true,zg N S n kb A cp⟩,⟨i.z,5,true,NR⟩],[],i.z+1⟩ ?_;refine fy (dst:=some 33) (x:=convert 34 9 (yt (ae i.z) 16 16)) (sT d7) v7 v7 rfl (λv a=>?_) ?_
 ·exact mA (P:=prog) v 34 9 5 _ _ _ _ _ (List.replicate 16 0) [] [] v7 v7 v7 (a.at_ 2 rfl) rfl rfl yP
 refine Aq 5 (dz 2 0) [1,2,3,4,5,6,31,35] [] [] [.ops NT [5,6],.zq 3,y6 250451,.inv Q,.zq 2,.code vd,.zq 1,.code ve,.inv B,.zq 0,y6 31] ⟨[(1,pt w.z 0),(2,.pointer none),(3,pt (w.z+1) 0),(4,i6 (n:Int)),(5,yt p d j),(6,i6 (d:Int)),(31,yt p d j),(35,yt (ae (i.z+1)) 1 1)],[⟨w.z,23,true,[i6 (N:Int),i6 (S:Int)]⟩,⟨w.z+1,54,true,zg N S n kb A cp⟩,⟨i.z,5,true,NR⟩,⟨i.z+1,61,true,[bO_ true,i6 0,i6 0,i6 0,sT d7,bO_ false,i6 0,i6 0,i6 0,sT ⟨#[]⟩]⟩],[],i.z+2⟩ ?_;refine dE (w:=w) (S':=z8) (Y:=aO) (dst:=some 36) (x:=Builtin.append_ #[83,83] 83 #[yt p d j,yt (ae (i.z+1)) 1 1]) (λc=>yt c.1 (d+1) c.2) (jF N S n kb A cp w) (λc m=>k.z<=m.z∧mh w S kb gI gS gL cL n row k.z m∧ah m w.z 83 1 A n cp (ai (kM S row) (List.range n))∧ah m k.z 61 10 c.1 (d+1) c.2 (ai aZ.cells (List.replicate (d+1) qY))) (λc=>[(36,yt c.1 (d+1) c.2),(1,pt w.z 0),(2,.pointer none),(3,pt (w.z+1) 0),(4,i6 (n:Int)),(5,yt p d j),(6,i6 (d:Int)),(31,yt p d j),(35,yt (ae (i.z+1)) 1 1)]) v7 v7 (λ_=>rfl) (λv a=>?_) (λc R aR s=>?_)
 ·have y:=an.kT a q;have z:=ab.A0 q a;have ak:=a2.x2 a.x2 (λe h=>.inr (i4 (ag q e h) rfl));have b1:=a4.kT a q;obtain⟨O,ac,u,D,t,o,U⟩:=ce (P:=prog) v k.z 83 83 61 (.agg #[bO_ false,i6 0,i6 0,i6 0,sT ⟨#[]⟩,bO_ false,i6 0,i6 0,i6 0,sT ⟨#[]⟩]) 10 96 p d j (ai aZ.cells (List.replicate d qY)) ⟨i.z+1,0,none⟩ 1 1 [bO_ true,i6 0,i6 0,i6 0,sT d7,bO_ false,i6 0,i6 0,i6 0,sT ⟨#[]⟩] v7 v7 v7 (by decide) y rfl (λa5 x X=>by rw[bY,bG];exact(a.at_ 3 rfl).at_ X) (aU rfl) yq (by decide) (by have:=z.x2.size;have:=a.x2.size;omega);rw[show[bO_ true,i6 0,i6 0,i6 0,sT d7,bO_ false,i6 0,i6 0,i6 0,sT ⟨#[]⟩]=aZ.cells qY from rfl,eU,<-List.replicate_succ']at t;have E:=bW y;exact⟨(O,ac),u,D,⟨az a0 (az a.x2.size o.size),ak.x2 o (λe h=>.inl (y.own e h).1),b1.y4 o E rfl,t⟩,(z.sub (Ex:=jF N S n kb A cp w) z1).A3 (λ_ r=>r) o (λe h=>.inr (by have:=(y.own e h).1;have:=l.x2.size;omega)) (bI (z.sub (Ex:=jF N S n kb A cp w) z1) E rfl)⟩
 obtain⟨F,H⟩:=c;obtain⟨bk,ad,b0,aq⟩:=aR;refine di (f:=11) (hs:=[y2,y2,HA,y2]) [1,2,3,4,5,6] [true,true] (v7:_=some (Res.mk [T0 .i64 ((d:Int)+1)] (aX []) [.inv Q,.zq 2,.code vd,.zq 1,.code ve,.inv B,.zq 0,y6 31] ⟨[(1,pt w.z 0),(2,.pointer none),(3,pt (w.z+1) 0),(4,i6 (n:Int)),(5,yt F (d+1) H),(6,i6 ((d:Int)+1))],jF N S n kb A cp w,[],R.z⟩)) ⟨i0 yq,trivial⟩ ?_;rw[<-aW d];intro T Z W a;exact bl (bg-1) _ T Z yq ⟨d+1,F,H,_,yq,yq,az bk a.x2.size,ad.x2 a.x2 (λe h=>.inr (i4 (ag s e h) rfl)),b0.kT a s,aq.kT a s,rfl⟩ W (ab.A0 s a)
def Wu(N sn a:Nat)(b:Int)(da:ByteArray)(M:Nat->Nat->ByteArray)(m i:Nat):ByteArray:=if i=sn∧b=2 then(if m=(a+sn)%N then da else if m=(N-1+sn)%N then bX (fQ (fQ (aK (M ((N-1+sn)%N) sn)) (aK (M ((a+sn)%N) sn))) (aK da))else M m i)else M m i
def V6(j:Nat)(s:ByteArray):Nat:=((aK s)[j]?.getD 0).toNat
variable {a b:ByteArray}{N:Nat}
theorem kK(c:a.size=16)(d:b.size=16){j:Nat}(e:j<16):V6 j (iE a b)=V6 j a^^^V6 j b:=by
 have f:(aK a).length=16:=by rw[dr,c]
 have g:(aK b).length=16:=by rw[dr,d]
 unfold V6 iE;rw[iW (kL (dY a) (dY b)),fQ,List.getElem?_zipWith,cx (show j<(aK a).length by omega),cx (show j<(aK b).length by omega)];simp[jo]
theorem zb(g:a.size=16)(i:b.size=16)(h:∀c,c<16->V6 c a=V6 c b):a=b:=by
 rw[<-ke a,<-ke b];refine congrArg _ (List.ext_getElem? λc=>?_);have k:(aK a).length=16:=by rw[dr,g]
 have l:(aK b).length=16:=by rw[dr,i]
 by_cases j:c<16
 ·have f:=h c j;unfold V6 at f;have d:=cx (show c<(aK a).length by omega);have e:=cx (show c<(aK b).length by omega);have m:=dY a _ (aS d);have n:=dY b _ (aS e);rw[d,e]at f;rw[d,e];simp only[Option.getD_some]at f;exact congrArg some yq
 ·rw[List.getElem?_eq_none yq,List.getElem?_eq_none yq]
def Xs(f:Nat->Nat):Nat->Nat
 |0=>0
 |a+1=>Xs f a^^^f a
theorem zc{f g:Nat->Nat}{m:Nat}(h:∀b,b≠m->g b=f b):∀a,Xs g a=if m<a then Xs f a^^^(f m^^^g m)else Xs f a
 |0=>rfl
 |a+1=>by
  show Xs g a^^^g a=_
  rw[zc h a]
  by_cases c:m<a
  ·rw[aA c,aA (by omega),h a (by omega)]
   show _=(Xs f a^^^f a)^^^_
   ac_rfl
  ·rw[ay c]
   by_cases d:m=a
   ·subst d
    rw[aA (by omega)]
    show _=(Xs f m^^^f m)^^^(f m^^^g m)
    rw[<-Nat.xor_assoc,Nat.xor_assoc (Xs f m),Nat.xor_self,Nat.xor_zero]
   ·rw[ay (by omega),h a (by omega)]
    rfl
theorem NJ{L:ct}{t:ByteArray}(h:1<=L.length):kw (L++[t])=iE (kw L) t:=by
 cases L with
 |nil=>simp at h
 |cons b a=>show(a++[t]).foldl iE b=_;rw[List.foldl_append];rfl
theorem zd{F:Nat->ByteArray}{j:Nat}(d:j<16):∀b,(∀a,a<b+1->(F a).size=16)->V6 j (kw ((List.range (b+1)).map F))=Xs (λa=>V6 j (F a)) (b+1)
 |0,_=>by
  show V6 j (F 0)=0^^^V6 j (F 0)
  rw[Nat.zero_xor]
 |b+1,c=>by
  rw[List.range_succ,List.map_append,List.map_cons,List.map_nil,NJ (by simp),kK (qF (by
   intro g f
   obtain⟨a,e,rfl⟩:=aT.1 f
   exact c a (by have:=bn.1 e;omega)) (by simp)) (c _ (by omega)) d,zd d b λa e=>c a (by omega)]
  rfl
theorem ti{j:Nat}(a:j<16):V6 j d7=0:=by
 unfold V6 d7;rw[iW (by intro c b;rw[List.eq_of_mem_replicate b];omega),List.getElem?_replicate,aA a];rfl
theorem ze{F:Nat->ByteArray}(j:1<=N)(h:∀a,a<N->(F a).size=16):kw ((List.range N).map F)=d7↔∀c,c<16->Xs (λa=>V6 c (F a)) N=0:=by
 obtain⟨d,rfl⟩:∃d,N=d+1:=⟨N-1,yq⟩;constructor
 ·intro e c b;rw[<-zd b d h,e,ti b]
 ·intro e;refine zb (qF (by
   intro i g;obtain⟨a,f,rfl⟩:=aT.1 g;exact h a (by have:=bn.1 f;omega)) z1) (by decide) λc b=>?_
  rw[zd b d h,e c b,ti b]
theorem mH{c:ByteArray}:bX (fQ (fQ (aK a) (aK b)) (aK c))=iE (iE a b) c:=by
 unfold iE;rw[iW (kL (dY a) (dY b))]
theorem tj{a b s:Nat}(f:a<N)(g:b<N)(h:(a+s)%N=(b+s)%N):a=b:=by
 have d:=Nat.div_add_mod (a+s) N;have e:=Nat.div_add_mod (b+s) N;rcases Nat.lt_trichotomy ((a+s)/N) ((b+s)/N)with c|c|c
 ·have:=Nat.mul_le_mul_left N (show(a+s)/N+1<=(b+s)/N by omega);rw[Nat.mul_add,Nat.mul_one]at this;omega
 ·rw[c]at d;omega
 ·have:=Nat.mul_le_mul_left N (show(b+s)/N+1<=(a+s)/N by omega);rw[Nat.mul_add,Nat.mul_one]at this;omega
def Yr(N:Nat)(M:Nat->Nat->ByteArray)(q:Nat):ByteArray:=M ((q%(N-1)+q/(N-1))%N) (q/(N-1))
structure X8(N S:Nat)(L:ct)(M:Nat->Nat->ByteArray):Prop where
 len:L.length=S*(N-1)
 at_:∀q,q<S*(N-1)->L[q]?=some (Yr N M q)
 sz:∀i,i<S->∀m,m<N->(M m i).size=16
 X1:∀i,i<S->kw ((List.range N).map λm=>M m i)=d7
theorem RJ{S:Nat}(h:3<=N∧N<=6):X8 N S (List.replicate (S*(N-1)) d7) (λ_ _=>d7):=by
 refine⟨nD,λg c=>by rw[List.getElem?_replicate,aA c];rfl,λ_ _ _ _=>by decide,λe _=>(ze yq λ_ _=>by decide).2 λf b=>?_⟩;simp only[ti b];generalize N=a
 induction a with
 |zero=>rfl
 |succ a d=>show Xs _ a^^^0=0;rw[d];rfl
theorem RK{t a b d:Nat}:(t^^^(a^^^d))^^^(b^^^((b^^^a)^^^d))=t:=by
 have c:(t^^^(a^^^d))^^^(b^^^((b^^^a)^^^d))=t^^^((a^^^a)^^^((d^^^d)^^^(b^^^b))):=by ac_rfl
 rw[c];simp
theorem Ld{S q:Nat}{L:ct}{M:Nat->Nat->ByteArray}{da:ByteArray}(K:3<=N∧N<=6)(z:q<S*(N-1))(v:da.size=16)(h:X8 N S L M):X8 N S (L.set q da) (Wu N (q/(N-1)) (q%(N-1)) 2 da M):=by
 have H:q%(N-1)<N-1:=Nat.mod_lt _ yq;have t:q/(N-1)<S:=(Nat.div_lt_iff_lt_mul yq).2 z;have w:=Nat.div_add_mod q (N-1);obtain⟨c,x⟩:∃c,q/(N-1)=c:=⟨_,rfl⟩;obtain⟨b,u⟩:∃b,q%(N-1)=b:=⟨_,rfl⟩;rw[x]at t w;rw[u]at H w;rw[x,u];have C:(b+c)%N≠(N-1+c)%N:=λi=>by have:=tj (show b<N by omega) (show N-1<N by omega) i;omega
 have l:(b+c)%N<N:=Nat.mod_lt _ yq;have n:(N-1+c)%N<N:=Nat.mod_lt _ yq;have I:(iE (iE (M ((N-1+c)%N) c) (M ((b+c)%N) c)) da).size=16:=fW (fW (h.sz _ t _ n) (h.sz _ t _ l)) v;have D:∀a,a<S->∀m,m<N->(Wu N c b 2 da M m a).size=16:=λa d m y=>by
  unfold Wu;rw[mH];split
  ·split
   ·exact v
   ·split
    ·exact I
    ·exact h.sz a d m y
  ·exact h.sz a d m y
 refine⟨by rw[List.length_set];exact h.len,λj J=>?_,D,λa d=>?_⟩
 ·have O:j%(N-1)<N-1:=Nat.mod_lt _ yq;have E:=Nat.div_add_mod j (N-1);by_cases i:j=q
  ·subst i;rw[List.getElem?_set_self (by rw[h.len];exact z)];unfold Yr Wu;rw[x,u,aA ⟨rfl,rfl⟩,aA rfl]
  ·rw[List.getElem?_set_ne (Ne.symm i),h.at_ j J];refine congrArg some ?_;unfold Yr Wu;by_cases k:j/(N-1)=c
   ·rw[k]at E;rw[k,aA ⟨rfl,rfl⟩,ay,ay]
    ·intro o;have:=tj (show j%(N-1)<N by omega) (show N-1<N by omega) o;omega
    ·intro o;have:=tj (show j%(N-1)<N by omega) (show b<N by omega) o;exact i (by rw[<-w,<-E,this])
   ·rw[ay (λp=>k p.1)]
 ·by_cases i:a=c
  ·subst i;have G:=(ze yq (h.sz a d)).1 (h.X1 a d);refine(ze yq (D a d)).2 λe r=>?_;have A:=zc (f:=λm=>V6 e (M m a)) (g:=λm=>V6 e (if m=(b+a)%N then da else M m a)) (m:=(b+a)%N) (λF s=>by simp only[ay s]) N;have B:=zc (f:=λm=>V6 e (if m=(b+a)%N then da else M m a)) (g:=λm=>V6 e (Wu N a b 2 da M m a)) (m:=(N-1+a)%N) (λF s=>by unfold Wu;simp only[ay s,and_self,if_true]) N;rw[aA l,G e r]at A;rw[aA n,A]at B;rw[B];simp only[if_true,ay (Ne.symm C)];rw[show V6 e (Wu N a b 2 da M ((N-1+a)%N) a)=(V6 e (M ((N-1+a)%N) a)^^^V6 e (M ((b+a)%N) a))^^^V6 e da by
    unfold Wu;rw[aA ⟨rfl,rfl⟩,ay (Ne.symm C),aA rfl,mH,kK (fW (h.sz _ d _ n) (h.sz _ d _ l)) v r,kK (h.sz _ d _ n) (h.sz _ d _ l) r]]
   exact RK
  ·have k:(λm=>Wu N c b 2 da M m a)=λm=>M m a:=by
    funext m;unfold Wu;rw[ay (λp=>i p.1)]
   rw[k];exact h.X1 a d
def bU(c n:Int):Int:=(if c<0 then -(c+1)else c)%n
theorem fx(c n:Int)(h:0<n):0<=bU c n∧bU c n<n:=⟨eY _ (by omega),gy _ h⟩
variable (c n v:Int)
theorem OI(h:bU c n=v)(a:c<0)(d:1<=n)(e:n<=9223372036854775807)(f:-9223372036854775808<=c∧c<=9223372036854775807)(w:World):aC 11 #[i6 c,i6 n] w (bf (i6 v) w):=by
 refine cH (S:=z8) (n:=13) Tryz.func11 (ab.none w _) ?_;refine z6 27 (dz 12 0x20002201000) [4] [oE ((decide ((c:Int)<0))=true) (dc a),JL (c+1),JL (0-(c+1)),oE ((0:Int)<=(0-(c+1))∧(0:Int)<n)] [] [y6 15] [] [] w.z ?_;refine B1 [] [i6 ((0-(c+1))%n)] [] ?_;intro g b;refine⟨?_,b.x2⟩;subst h;simp only[kH,bU,aA a];congr 3;omega
theorem OJ(h:bU c n=v)(a:¬c<0)(d:1<=n)(e:n<=9223372036854775807)(f:-9223372036854775808<=c∧c<=9223372036854775807)(w:World):aC 11 #[i6 c,i6 n] w (bf (i6 v) w):=by
 refine cH (S:=z8) (n:=13) Tryz.func11 (ab.none w _) ?_;refine z6 22 (dz 8 33554432) [4] [dF ((c:Int)<0),oE ((0:Int)<=c∧(0:Int)<n)] [] [y6 15] [] [] w.z ?_;refine B1 [] [i6 (c%n)] [] ?_;intro g b;refine⟨?_,b.x2⟩;subst h;simp only[kH,bU,ay a]
theorem uG(h:bU c n=v)(w:World)(a:1<=n)(b:n<=9223372036854775807)(d:-9223372036854775808<=c∧c<=9223372036854775807):aC 11 #[i6 c,i6 n] w (bf (i6 v) w):=by
 by_cases e:c<0
 ·exact OI c n v h e a b d w
 ·exact OJ c n v h e a b d w
def FG(ops:Array Oper)(b:bu)(i:Nat):Option (Option Nat×Prop):=
 match ops[i]? with
 |none=>none
 |some a=>match iw b a with
  |false=>none
  |true=>match a.guard with
   |none=>some (a.dst,True)
   |some (d,want)=>match (ops[d]?).bind (·.dst)with
    |none=>none
    |some e=>match gh b e with
     |some (.bool c)=>some (a.dst,c=want)
     |_=>none
theorem xg{D:List Deferred}{n:Nat}{ops:Array Oper}{d:bu}{i:Nat}{dst:bi}{ob:Prop}{a:Act}(h:FG ops d i=some (dst,ob))(q:ob)(p:dy D n d a) :
  ∃b,ops[i]?=some b∧iw d b=true∧b.dst=dst∧Region.wanted b (yielded ops a.tmps)=true:=by
 unfold FG at h;split at h
 ·cases h
 ·rename_i b g;split at h
  ·cases h
  ·rename_i f;split at h
   ·rename_i c;simp only[aB,bw]at h;exact⟨b,g,f,h.1,by simp[Region.wanted,c]⟩
   ·rename_i j u c;split at h
    ·cases h
    ·rename_i k r;split at h
     ·rename_i e t;simp only[aB,bw]at h;obtain⟨l,m⟩:=h;subst m;have o:e=u:=q;have s:yielded ops a.tmps j=some e:=by
       have:=p.val k _ t;simp[yielded,r,this]
      exact⟨b,g,f,l,by simp[Region.wanted,c,s,o]⟩
     ·cases h
section
variable {D:List Deferred}{P:Program}{body:Code}{n:Nat}{w0:World}{S:br}{Q:Exit->Act->aI}
theorem FA{p:aH}{i:Nat}{l:aH}{k:List KI}{st:St}{dst:bi}{ob:Prop}{x:Sem Value}(v:Value){e:bu}
  (m:FG (aj (aa body p)) st.sl i=some (dst,ob)) (r:ob) (c:ex (aj (aa body p)) st.sl i=some (Wx x)) (s:gw n st.sl dst v=some e)
  (t:∀a,ab w0 S st.bk st.wn st.sz a->x.run P a=.ok v a)
  (o:aF D P body n w0 S Q (.ops p l::k) ⟨e,st.bk,st.wn,st.sz⟩):aF D P body n w0 S Q (.ops p (i::l)::k) st:=by
 intro g a b d;simp only[sem];rw[wpOps_cons];obtain⟨h,f,q,w,u⟩:=xg m r b;unfold ex at c;simp only[f,aB]at c;simp only[wpOp,f,aA u];refine .inl ?_;have j:(execOp g.eval h).run P a=.ok (.value v) a:=by
  rw[b.RS q,c];simp only[Wx,Sem.run_bind,t a d,dS,Sem.run_pure]
 simp only[Oper.wp,j,Oper.upon_value];rw[w];exact o _ _ (b.put s) d
end
variable (c n v:Int)
theorem Sg(h:bU c n=v)(a:c<0)(d:1<=n)(e:n<=9223372036854775807)(f:-9223372036854775808<=c∧c<=9223372036854775807)(w:World):aC 25 #[i6 c,i6 n] w (bf (i6 v) w):=by
 refine cH (S:=z8) (n:=13) Tryz.func25 (ab.none w _) ?_;refine z6 27 (dz 12 0x20002201000) [4] [oE ((decide ((c:Int)<0))=true) (dc a),JL (c+1),JL (0-(c+1)),oE ((0:Int)<=(0-(c+1))∧(0:Int)<n)] [] [y6 15] [] [] w.z ?_;refine B1 [] [i6 ((0-(c+1))%n)] [] ?_;intro g b;refine⟨?_,b.x2⟩;subst h;simp only[kH,bU,aA a];congr 3;omega
theorem Sh(h:bU c n=v)(a:¬c<0)(d:1<=n)(e:n<=9223372036854775807)(f:-9223372036854775808<=c∧c<=9223372036854775807)(w:World):aC 25 #[i6 c,i6 n] w (bf (i6 v) w):=by
 refine cH (S:=z8) (n:=13) Tryz.func25 (ab.none w _) ?_;refine z6 22 (dz 8 33554432) [4] [dF ((c:Int)<0),oE ((0:Int)<=c∧(0:Int)<n)] [] [y6 15] [] [] w.z ?_;refine B1 [] [i6 (c%n)] [] ?_;intro g b;refine⟨?_,b.x2⟩;subst h;simp only[kH,bU,ay a]
theorem Th(h:bU c n=v)(w:World)(a:1<=n)(b:n<=9223372036854775807)(d:-9223372036854775808<=c∧c<=9223372036854775807):aC 25 #[i6 c,i6 n] w (bf (i6 v) w):=by
 by_cases e:c<0
 ·exact Sg c n v h e a b d w
 ·exact Sh c n v h e a b d w
end Go.Proofs.YtcmpkkapkdlfhaaGreat
