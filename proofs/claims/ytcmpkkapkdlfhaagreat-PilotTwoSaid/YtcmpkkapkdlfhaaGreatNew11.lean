import Derived.Test.YtcmpkkapkdlfhaaGreatSim3
import Derived.Test.YtcmpkkapkdlfhaaGreatPil6
namespace Go.Proofs.YtcmpkkapkdlfhaaGreat
open Go.RowKit
structure OpC where
 (lo B0 b pb n S sn cn:Nat)
 (kd at_:Int)
 da:ByteArray
 (frm now last E:Int)
 x0:PilC
 s0:SimM
structure OpOk(k:OpC):Prop where
 hn:3<=k.n∧k.n<=6
 hS:1<=k.S∧k.S<=8
 hsn:k.sn<k.S
 hcn:k.cn<k.n-1
 hfrm:200<=k.frm∧k.frm<202
 hnow:0<=k.now∧k.now<=1000000
 hlast:0<=k.last∧k.last<=1000000000
 hE:1<=k.E∧k.E<=16777215
 xN:k.x0.N=(k.n:Int)
 xS:k.x0.S=(k.S:Int)
 hed:0<=k.x0.ed∧k.x0.ed<1099511627776
 sN:k.s0.N=k.n
 sS:k.s0.S=k.S
 hlea:∃H U,k.s0.lea k.sn=⟨k.E-1,H,U,-1⟩∧U<=k.now
 hids:∃v,k.s0.ids[Int.toNat (k.frm-200)]?=some v∧v<=k.last
 hil:k.s0.ids.length=2
 hsl:k.s0.says.length=2
 hb:k.b<=k.B0
 hlo:k.lo<=k.pb∧k.lo<=k.x0.cb∧k.lo<=k.B0∧SimLo k.lo k.s0
 hrec:∀m,m<k.n->∃F d q B,k.s0.recs m k.sn=⟨true,F,d,q,B,false,0,0,0,⟨#[]⟩⟩∧(0<=F∧F<=k.E)∧(0<=d∧d<k.E)∧(0<=q∧q<=16777215)∧B.size=16
def OthT(k:OpC)(w:World)(y:Nat):Prop:=y=k.pb∨y=k.x0.cb∨(k.B0<=y∧¬TyIn w 3 y)∨(¬TysIn [98,124] w y∧(TyIn w 3 y->y<k.b))
def OthOk(k:OpC)(F:World->Prop):Prop:=∀w w' (T:Nat->Prop),F w->Kept T w w'->(∀y,T y->OthT k w y)->F w'
def OpC.fen(k:OpC)(m:Nat):RecM:={ k.s0.recs m k.sn with fence:=k.E }
def SimQ(k:OpC)(R:Nat->RecM)(W:World):Prop:=∃s,SimAt W k.b s∧s={ k.s0 with recs:=s.recs,lea:=s.lea,ids:=s.ids,says:=s.says }∧(∀m i,i≠k.sn->s.recs m i=k.s0.recs m i)∧(∀m,m<k.n->s.recs m k.sn=R m)∧s.lea=(fun i=>if i=k.sn then⟨k.E,k.frm,k.now+30,-1⟩else k.s0.lea i)∧s.ids=k.s0.ids.set (Int.toNat (k.frm-200)) (k.last+1)∧s.says.length=2
theorem SimQ.kept{k:OpC}{R:Nat->RecM}{w w':World}{T:Nat->Prop}(h:SimQ k R w)(hk:Kept T w w')(hT:∀y,T y->k.b<=y∨TysIn [98,124] w y):SimQ k R w':=by
 obtain⟨s,h1,h2⟩:=h
 exact⟨s,h1.kept hk hT,h2⟩
theorem pilT_sim{k:OpC}{w:World}{base lb:Nat}{x:PilC}{c:CM}{es:List TypeId}(h:PilS w base k.pb x c)(hb:k.b<=base)(hl:k.b<=lb):∀y,PilT es base lb k.pb x.cb w y->k.b<=y∨TysIn [98,124] w y:=by
 rintro y (rfl|rfl|⟨h1,_⟩|⟨h1,_⟩)
 ·exact .inr ⟨98,by simp,blk_ty h.1⟩
 ·exact .inr ⟨124,by simp,h.2.blk⟩
 ·exact .inl (by omega)
 ·exact .inl (by omega)
theorem pilT_lo{k:OpC}(hk:OpOk k){w:World}{lb:Nat}{es:List TypeId}(hl:k.B0<=lb):∀y,PilT es k.B0 lb k.pb k.x0.cb w y->k.lo<=y:=by
 have h:=hk.hlo
 rintro y (rfl|rfl|⟨h1,_⟩|⟨h1,_⟩)
 ·exact h.1
 ·exact h.2.1
 ·omega
 ·omega
theorem pilT_oth{k:OpC}{w:World}{lb:Nat}{es:List TypeId}(hl:k.B0<=lb)(he:es.contains 3=false):∀y,PilT es k.B0 lb k.pb k.x0.cb w y->OthT k w y:=by
 rintro y (rfl|rfl|⟨h1,h2⟩|⟨h1,h2⟩)
 ·exact .inl rfl
 ·exact .inr (.inl rfl)
 ·exact .inr (.inr (.inl ⟨h1,fun h3=>tysIn_not he h3 h2⟩))
 ·exact .inr (.inr (.inl ⟨by omega,fun h3=>absurd (tyIn_one h3 h2) (by decide)⟩))
theorem simQ_ans{k:OpC}(hk:OpOk k){R R':Nat->RecM}{m:Nat}(hm:m<k.n){r':RecM}{o:OneM}{sy:SayR}(hto:o.to=(m:Int))(hst:o.q.stripe=(k.sn:Int))(hR:∀j,j<k.n->R' j=if j=m then r' else R j)(hap:∀wx,Calls Tryz.prog 40 #[.agg (R m).cells.toArray,.agg #[i6 o.q.kind,i6 o.q.stripe,i6 o.q.epoch,i6 o.q.seq,i6 o.q.mask,i6 o.q.node,i6 o.q.oe,i6 o.q.os,sT o.q.block]] wx (RetK (.tuple #[.agg r'.cells.toArray,.agg #[i6 sy.st,i6 sy.ep,i6 sy.ou,.bool sy.rc.used,i6 sy.rc.fence,i6 sy.rc.de,i6 sy.rc.ds,sT sy.rc.block,.bool sy.rc.op,i6 sy.rc.ie,i6 sy.rc.is,i6 sy.rc.mask,sT sy.rc.staged]]) wx)){W:World}(hW:SimQ k R W)(hb:k.b<=W.heap.size)(frm now:Int) :
  Calls Tryz.prog 18 #[.pointer (some ⟨k.s0.sb,0,none⟩),i6 now,.agg #[i6 frm,i6 o.to,i6 o.id,.bool false,i6 o.q.kind,i6 o.q.stripe,i6 o.q.epoch,i6 o.q.seq,i6 o.q.mask,i6 o.q.node,i6 o.q.oe,i6 o.q.os,sT o.q.block,i6 0,i6 0,i6 0,.bool false,i6 0,i6 0,i6 0,sT ⟨#[]⟩,.bool false,i6 0,i6 0,i6 0,sT ⟨#[]⟩]] W (fun e w'=>e=.returned (.tuple #[.agg #[i6 o.to,i6 frm,i6 o.id,.bool true,i6 0,i6 0,i6 0,i6 0,i6 0,i6 0,i6 0,i6 0,sT ⟨#[]⟩,i6 sy.st,i6 sy.ep,i6 sy.ou,.bool sy.rc.used,i6 sy.rc.fence,i6 sy.rc.de,i6 sy.rc.ds,sT sy.rc.block,.bool sy.rc.op,i6 sy.rc.ie,i6 sy.rc.is,i6 sy.rc.mask,sT sy.rc.staged],.bool true])∧SimQ k R' w'∧Kept (TysIn [61] W) W w'∧Kept (fun y=>k.lo<=y∧y<k.b) W w'):=by
 obtain⟨s,h1,h2,h3,h4,h5,h6,h7⟩:=hW
 have eN:s.N=k.n:=by rw[h2]; exact hk.sN
 have eS:s.S=k.S:=by rw[h2]; exact hk.sS
 have eb:s.sb=k.s0.sb:=by rw[h2]
 have hq:=ans_node s k.b m k.sn now frm o.id o.q (R m) r' sy (by rw[eN]; exact hm) (by rw[eS]; exact hk.hsn) (by rw[eN]; exact hk.hn.2) (h4 m hm) W h1 hb (by rw[<-hst]; exact hap)
 rw[eb,<-hto,<-hst]at hq
 refine hq.mono fun e w' h=>?_
 obtain⟨q1,q2,q3⟩:=h
 refine⟨q1,⟨_,q2,congrArg (fun t=>SimM.setR t m k.sn r') h2,fun m' i hi=>?_,fun m' hm'=>?_,h5,h6,h7⟩,q3.mono fun y _ hy=>?_,q3.mono fun y _ hy=>?_⟩
 ·show(if m'=m∧i=k.sn then r' else s.recs m' i)=_
  rw[if_neg (fun h=>hi h.2)]
  exact h3 m' i hi
 ·show(if m'=m∧k.sn=k.sn then r' else s.recs m' k.sn)=_
  rw[hR m' hm',h4 m' hm']
  by_cases e:m'=m<;>simp[e]
 ·subst hy
  exact⟨61,by simp,(h1.rcd m (by rw[eN]; exact hm)).ty _ ⟨_,rfl,rfl⟩⟩
 ·subst hy
  obtain⟨l1,l2,l3,l4,l5,l6,l7⟩:=h1.low
  have l8:=hk.hlo.2.2.2.2.2.2 m (by rw[hk.sN]; exact hm)
  have er:s.row=k.s0.row:=by rw[h2]
  rw[<-er]at l8
  exact⟨l8,l7 m (by rw[eN]; exact hm)⟩
theorem sayOk_1{e ou:Int}{r:RecM}(h:0<=e∧e<=16777215)(ho:-1<=ou∧ou<6)(hr:okB r=true)(hop:r.op=false:=by rfl):SayOk ⟨1,e,ou,r⟩:=⟨⟨(by decide:(1:Int)<=1),(by decide:(1:Int)<=7)⟩,h,ho,hr,hop⟩
theorem okB_rec{F d q:Int}{B:ByteArray}(hF:0<=F∧F<=16777215)(hd:0<=d∧d<=16777215)(hq:0<=q∧q<=16777215)(hB:B.size=16):okB ⟨true,F,d,q,B,false,0,0,0,⟨#[]⟩⟩=true:=by
 simp[okB,n24,fitB,tagB,hF,hd,hq,hB]
 rfl
def OpC.xL(k:OpC):PilC:={ k.x0 with lv:=lvS k.x0.lv k.sn lea0,busy:=true,kd:=k.kd,at_:=k.at_,da:=k.da,sn:=(k.sn:Int),cn:=(k.cn:Int),nx:=.func (.func 54) #[.pointer (some ⟨k.pb,0,none⟩)] #[],lg:=true,en:=k.now,ep:=0,ou:=-1,db:=false,te:=0,ts:=0,kn:=.slice none 0 0,rc:=.slice none 0 0,stl:=false,rd:=.slice none 0 0,wr:=.slice none 0 0,bl:=noB,ud:=.pointer none }
def OpC.oL(k:OpC):OneM:=⟨100,k.last+1,⟨8,(k.sn:Int),0,0,0,0,0,0,⟨#[]⟩⟩,k.now,k.now⟩
def OpC.cL(k:OpC):CM:=⟨k.frm,k.last+1,[k.oL]⟩
def OpC.syL(k:OpC):SayR:=⟨1,k.E,-1,recZ⟩
theorem ans_lease{k:OpC}(hk:OpOk k){W:World}(hW:SimAt W k.b k.s0)(hb:k.b<=W.heap.size)(o:OneM)(sy:SayR)(frm:Int)(ho:o=k.oL)(hsy:sy=k.syL)(hfrm:frm=k.frm) :
  Calls Tryz.prog 18 #[.pointer (some ⟨k.s0.sb,0,none⟩),i6 k.now,.agg #[i6 frm,i6 o.to,i6 o.id,.bool false,i6 o.q.kind,i6 o.q.stripe,i6 o.q.epoch,i6 o.q.seq,i6 o.q.mask,i6 o.q.node,i6 o.q.oe,i6 o.q.os,sT o.q.block,i6 0,i6 0,i6 0,.bool false,i6 0,i6 0,i6 0,sT ⟨#[]⟩,.bool false,i6 0,i6 0,i6 0,sT ⟨#[]⟩]] W (fun e w'=>e=.returned (.tuple #[.agg #[i6 o.to,i6 frm,i6 o.id,.bool true,i6 0,i6 0,i6 0,i6 0,i6 0,i6 0,i6 0,i6 0,sT ⟨#[]⟩,i6 sy.st,i6 sy.ep,i6 sy.ou,.bool sy.rc.used,i6 sy.rc.fence,i6 sy.rc.de,i6 sy.rc.ds,sT sy.rc.block,.bool sy.rc.op,i6 sy.rc.ie,i6 sy.rc.is,i6 sy.rc.mask,sT sy.rc.staged],.bool true])∧SimQ k (fun m=>k.s0.recs m k.sn) w'∧Kept (TysIn [73,3,63] W) W w'∧Kept (fun y=>k.lo<=y∧y<k.b) W w'):=by
 subst ho hsy hfrm
 obtain⟨H,U,hl,hU⟩:=hk.hlea
 obtain⟨v,hv,hvl⟩:=hk.hids
 have h1:=hk.hE
 have h2:=hk.hnow
 have h3:=hk.hlast
 have hq:=ans_keeper k.s0 k.b k.sn k.now k.frm (k.last+1) (k.E-1) H U (-1) v (by rw[hk.sS]; exact hk.hsn) (by rw[hk.sS]; exact hk.hS.2) hl hU (by omega) (by omega) hk.hfrm (by omega) hv hk.hil hk.hsl W hW hb
 rw[show k.E-1+1=k.E by omega]at hq
 refine hq.mono fun e w' h=>?_
 obtain⟨q1,q2,q3⟩:=h
 refine⟨q1,⟨_,q2,rfl,fun _ _ _=>rfl,fun _ _=>rfl,rfl,rfl,?_⟩,q3.mono fun y _ hy=>?_,q3.mono fun y _ hy=>⟨by have l:=hk.hlo.2.2.2; rcases hy with rfl|rfl|rfl; exact l.1; exact l.2.1; exact l.2.2.1,hW.tyK y hy⟩⟩
 ·exact(List.length_set ..).trans hk.hsl
 ·rcases hy with rfl|rfl|rfl
  ·exact⟨73,by simp,hW.lea.ty _ ⟨_,rfl,rfl⟩⟩
  ·exact⟨3,by simp,hW.ids.ty _ ⟨_,rfl,rfl⟩⟩
  ·exact⟨63,by simp,hW.say.ty _ ⟨_,rfl,rfl⟩⟩
def OpC.xF(k:OpC)(g:Nat×Nat):PilC:={ k.xL with nx:=.func (.func 114) #[.pointer (some ⟨k.pb,0,none⟩)] #[],lg:=false,ep:=k.E,ou:=-1,kn:=.slice (some ⟨g.1,0,none⟩) k.n k.n,rc:=.slice (some ⟨g.2,0,none⟩) k.n k.n }
def OpC.lsF(k:OpC):List OneM:=onesF k.now (k.sn:Int) k.E (k.last+1) k.n
def OpC.cF(k:OpC)(i:Nat):CM:=⟨k.frm,k.last+1+(k.n:Int),k.lsF.drop i⟩
def OpC.KS(k:OpC)(i:Nat):List Bool:=(List.range k.n).map fun c=>decide ((c+k.sn)%k.n<i)
def OpC.gF(k:OpC)(i:Nat)(g:Nat×Nat)(W:World):Prop:=∃RS:List RecM,RS.length=k.n∧(∀r∈RS,r.op=false)∧OwnR W k.B0 4 1 (some ⟨g.1,0,none⟩) k.n k.n (flatV boolC (k.KS i))∧OwnR W k.B0 61 10 (some ⟨g.2,0,none⟩) k.n k.n (flatV RecM.cells RS)
theorem OpC.gF_stb(k:OpC)(i:Nat)(g:Nat×Nat):StbG (k.gF i g):=fun w w' T es h hk hT he=>by
 obtain⟨RS,h1,h2,h3,h4⟩:=h
 have H:∀e,([98,124,141,65,59]:List TypeId).contains e=false->es.contains e=false:=fun e h5=>by
  cases h6:es.contains e with
  |false=>rfl
  |true=>
   have h7:=List.all_eq_true.1 he e (by simpa using h6)
   rw[h5]at h7
   cases h7
 exact⟨RS,h1,h2,h3.keptT hk hT (H _ rfl),h4.keptT hk hT (H _ rfl)⟩
theorem OpC.KS0(k:OpC):k.KS 0=List.replicate k.n false:=by
 unfold OpC.KS
 simp[List.map_const']
theorem recv_lease{k:OpC}(hk:OpOk k){W:World}(hS:PilS W k.B0 k.pb k.xL k.cL)(hb:k.B0<=W.heap.size)(o:OneM)(sy:SayR)(frm:Int)(ho:o=k.oL)(hsy:sy=k.syL)(hfrm:frm=k.frm) :
  Calls Tryz.prog 19 #[.pointer (some ⟨k.pb,0,none⟩),i6 k.now,.agg #[i6 o.to,i6 frm,i6 o.id,.bool true,i6 0,i6 0,i6 0,i6 0,i6 0,i6 0,i6 0,i6 0,sT ⟨#[]⟩,i6 sy.st,i6 sy.ep,i6 sy.ou,.bool sy.rc.used,i6 sy.rc.fence,i6 sy.rc.de,i6 sy.rc.ds,sT sy.rc.block,.bool sy.rc.op,i6 sy.rc.ie,i6 sy.rc.is,i6 sy.rc.mask,sT sy.rc.staged]] W (fun e w'=>∃g A ca,e=.returned (.slice A k.lsF.length ca)∧OwnR w' W.heap.size 65 26 A k.lsF.length ca (lettersC frm k.lsF)∧PilS w' k.B0 k.pb (k.xF g) (k.cF 0)∧k.gF 0 g w'∧Kept (PilT [141] k.B0 W.heap.size k.pb k.x0.cb W) W w'∧Kept (LawT W) W w'):=by
 subst ho hsy hfrm
 have h0:=hk.hn
 have h1:=hk.hE
 have h2:=hk.hnow
 have h3:=hk.hlast
 have hwn:=within_id (n:=k.now) (by omega)
 refine(recv_any (x:=k.xL) (c:=k.cL) (α:=Nat×Nat) k.xF (fun _=>k.cF 0) (fun _=>k.lsF) (k.gF 0) [141] rfl rfl (fun _=>True) (fun _ _ _ _ _ _ _ _=>trivial) (fun g=>(k.gF_stb 0 g).s) (fun _=>rfl) 54 (.inl rfl) [] k.oL k.syL k.now hS rfl rfl rfl (.inr (.inl rfl)) hk.hfrm (by show 1<=k.last+1∧k.last+1<=_; omega) (sayOk_1 (by omega) (by omega) rfl) hb trivial (fun wx hX _ hbx=>?_)).mono fun e w' hq=>?_
 ·rw[hwn]
  have hq:=pilX_onLease { k.xL with lb:=W.heap.size } { k.cL with opn:=[] } [] k.pb k.B0 k.n k.now 100 k.E k.oL.q recZ (by omega) hk.xN (by have h4:k.x0.N=_:=hk.xN; show 3<=k.x0.N∧k.x0.N<=6; omega) (by omega) (by show 0<=k.last+1∧k.last+1+6<_; omega) (by simp) wx hX hbx
  refine hq.mono fun e w' h=>?_
  obtain⟨gK,gR,e1,e2,e3,e4,e5⟩:=h
  refine⟨e1,⟨(gK,gR),e2,List.replicate k.n recZ,List.length_replicate,fun r hr=>?_,?_,e4⟩,e5⟩
  ·rw[List.eq_of_mem_replicate hr]; rfl
  ·rw[k.KS0]; exact e3
 ·obtain⟨g,A,ca,q1,q2,q3,q4,q5,q6⟩:=hq
  exact⟨g,A,ca,q1,q2,q3,q4,q5,q6⟩
end Go.Proofs.YtcmpkkapkdlfhaaGreat
namespace Go.Proofs.YtcmpkkapkdlfhaaGreat
open Go.RowKit
set_option maxHeartbeats 4000000
set_option maxRecDepth 100000
section
variable (kb gI gS S:Nat)(w:World)
def kn_v1(d:Option Nat×Option Nat×Nat):List Value:=[.slice none 0 0,.slice (some ⟨(d.1.getD 0),0,none⟩) 2 2,.slice (some ⟨(d.2.1.getD 0),0,none⟩) 2 2]
def kn_v2:List Value:=rp 3 (i6 0)++[.bool false]++rp 3 (i6 0)++[sT ⟨#[]⟩,.bool false]++rp 3 (i6 0)++[sT ⟨#[]⟩]++rp 3 (i6 0)++[.bool false]++rp 3 (i6 0)++[sT ⟨#[]⟩,.bool false]++rp 3 (i6 0)++[sT ⟨#[]⟩]
@[simp] def kn_b1(i:Nat)(kb:Nat)(gI:Nat)(gS:Nat)(A:Option Addr)(cp:Nat):List Bk:=[⟨kb,119,true,[.slice A i cp,.slice (some ⟨gI,0,none⟩) 2 2,.slice (some ⟨gS,0,none⟩) 2 2]⟩]
@[simp] def kn_b2:List Bk:=[⟨kb,119,true,[.slice none 0 0,.slice (some ⟨gI,0,none⟩) 2 2,.slice (some ⟨gS,0,none⟩) 2 2]⟩]
def kn_Q:Exit->Act->World->Prop:=bodyPost Tryz.prog Tryz.f28 (fun e w'=>∃kb_ gI_ gS_ A_ cp_,e=.returned (.tuple #[(pt kb_ 0),i6 0])∧w.heap.size<=kb_∧Blk w' kb_ 119 [.slice A_ S cp_,.slice (some ⟨gI_,0,none⟩) 2 2,.slice (some ⟨gS_,0,none⟩) 2 2]∧OwnR w' w.heap.size 73 4 A_ S cp_ (flatV LeaM.cells (List.replicate S ⟨0,0,0,-1⟩))∧(w.heap.size<=gI_∧Blk w' gI_ 3 [i6 0,i6 0]∧w.heap.size<=gS_∧Blk w' gS_ 63 (kn_v2))∧Kept (fun _=>False) w w')
def kn_y2s:List (Nat×Value):=[(0,i6 (S:Int)),(2,.pointer none),(3,i6 0)]
def kn_y2v(d:Option Nat×Option Nat×Nat):List (Option Value):=[some (.slice (some ⟨(d.1.getD 0),0,none⟩) 2 2),some (.slice (some ⟨(d.2.1.getD 0),0,none⟩) 2 2),some (.agg (List.toArray (kn_v1 d))),some ((pt d.2.2 0)),some ((pt d.2.2 0))]
def kn_y2F(d:Option Nat×Option Nat×Nat)(k:Nat):Bool:=([d.1.isSome,d.2.1.isSome,true,true,true]:List Bool)[k]?.getD true
def kn_y2m(d:Option Nat×Option Nat×Nat):List (List Bk):=[[],[],[⟨d.2.2,119,true,(kn_v1 d)⟩]]
abbrev kn_y2X(w:World)(c_:Nat)(d:Option Nat×Option Nat×Nat)(W_:World):Prop:=match c_ with|0=>(True)∧(∀g_,d.1=some g_->w.heap.size<=g_∧Blk W_ g_ 3 [i6 0,i6 0])∧(∀g_,d.2.1=some g_->w.heap.size<=g_∧Blk W_ g_ 63 (kn_v2))|1=>(w.heap.size<=(d.1.getD 0)∧Blk W_ (d.1.getD 0) 3 [i6 0,i6 0]∧w.heap.size<=(d.2.1.getD 0)∧Blk W_ (d.2.1.getD 0) 63 (kn_v2))∧True|2=>(w.heap.size<=(d.1.getD 0)∧Blk W_ (d.1.getD 0) 3 [i6 0,i6 0]∧w.heap.size<=(d.2.1.getD 0)∧Blk W_ (d.2.1.getD 0) 63 (kn_v2))∧True|_=>True
def kn_y2C(i_:Nat):Prop:=cY Tryz.prog Tryz.f28 [1,1,0] 32 [] (kn_Q S w) [.code [1,1,1]] (kn_y2s S) [none,none,some 0,some 1,none] 2 (kn_y2v) kn_y2F w (fun _=>False) (kn_y2m) w.heap.size (kn_y2X w) i_
end
def KnI(S:Nat)(kb:Nat)(gI:Nat)(gS:Nat)(w:World)  (m:Nat) (st:St) (W0:World):Prop:=
 ∃(i:Nat)(A:Option Addr)(cp:Nat)(z:Nat),m+i=S∧i<=S∧OwnR W0 w.heap.size 73 4 A i cp (flatV LeaM.cells (List.replicate i ⟨0,0,0,-1⟩))∧(w.heap.size<=gI∧Blk W0 gI 3 [i6 0,i6 0]∧w.heap.size<=gS∧Blk W0 gS 63 (kn_v2))∧st=⟨[(0,i6 (S:Int)),(2,.pointer none),(3,i6 0),(4,(pt kb 0)),(5,i6 (i:Int))],(kn_b1 i kb gI gS A cp),[],z⟩
theorem keeper_new(S:Nat)(hS:1<=S∧S<=8)(w:World) :
  Calls Tryz.prog 28 #[i6 (S:Int)] w (fun e w'=>∃kb_ gI_ gS_ A_ cp_,e=.returned (.tuple #[.pointer (some ⟨kb_,0,none⟩),i6 0])∧w.heap.size<=kb_∧Blk w' kb_ 119 [.slice A_ S cp_,.slice (some ⟨gI_,0,none⟩) 2 2,.slice (some ⟨gS_,0,none⟩) 2 2]∧OwnR w' w.heap.size 73 4 A_ S cp_ (flatV LeaM.cells (List.replicate S ⟨0,0,0,-1⟩))∧(w.heap.size<=gI_∧Blk w' gI_ 3 [i6 0,i6 0]∧w.heap.size<=gS_∧Blk w' gS_ 63 [i6 0,i6 0,i6 0,.bool false,i6 0,i6 0,i6 0,sT ⟨#[]⟩,.bool false,i6 0,i6 0,i6 0,sT ⟨#[]⟩,i6 0,i6 0,i6 0,.bool false,i6 0,i6 0,i6 0,sT ⟨#[]⟩,.bool false,i6 0,i6 0,i6 0,sT ⟨#[]⟩])∧Kept (fun _=>False) w w'):=by
 refine cH (S:=(fun _=>False)) (n:=32) Tryz.func28 (MemOk.none w _) ?_
 refine hgE 21 (dz 9 1073741824) [0,2,3] (rE 3 (dF (((S:Int):Int)<1))++[dF (((S:Int):Int)>8)]) [] [.code [1,1,0],.code [1,1,1]] ⟨[(0,i6 (S:Int)),(2,.pointer none),(3,i6 0)],[],[],w.heap.size⟩ ?_
 have kn_y2_X:StayY w (fun _=>False) (kn_y2m) (kn_y2X w):=by
  intro c_ d wx w' bk hb hm hx hk
  match c_,hb,hx with
  |0,hb,hx=>
   obtain rfl:=Option.some.inj hb
   exact⟨trivial,fun g_ hg_=>⟨(hx.2.1 g_ hg_).1,(hx.2.1 g_ hg_).2.kept hk (fun⟨b,hb,_⟩=>(by cases hb))⟩,fun g_ hg_=>⟨(hx.2.2 g_ hg_).1,(hx.2.2 g_ hg_).2.kept hk (fun⟨b,hb,_⟩=>by cases hb)⟩⟩
  |1,hb,hx=>
   obtain rfl:=Option.some.inj hb
   obtain⟨⟨k1,k2,k3,k4⟩,_⟩:=hx
   exact⟨⟨k1,k2.kept hk (fun h=>tysIn_not rfl (blk_ty k2) (turned_tys hm _ h)),k3,k4.kept hk (fun h=>tysIn_not rfl (blk_ty k4) (turned_tys hm _ h))⟩,trivial⟩
  |2,hb,hx=>
   obtain rfl:=Option.some.inj hb
   obtain⟨⟨k1,k2,k3,k4⟩,_⟩:=hx
   exact⟨⟨k1,k2.kept hk (fun h=>tysIn_not rfl (blk_ty k2) (turned_tys hm _ h)),k3,k4.kept hk (fun h=>tysIn_not rfl (blk_ty k4) (turned_tys hm _ h))⟩,trivial⟩
  |c_+3,hb,hx=>exact trivial
 have kn_y2_c0:kn_y2C S w 0:=cyN 0 3 [i6 0,i6 0] (fun d g=>(some g,d.2)) (fun g=>.slice (some ⟨g,0,none⟩) 2 2) (fun c_ d wx w' bk hcB hb hm hx hk hz hBl=>by
  have hs:=kn_y2_X c_ d wx w' bk hb hm hx hk
  match c_,hb,hx,hs,hcB with
  |0,hb,hx,hs,hcB=>exact⟨hs.1,⟨(fun g_ hg_=>by obtain rfl:=Option.some.inj hg_; exact⟨hz,hBl⟩),hs.2.2⟩⟩
  |c_+1,hb,hx,hs,hcB=>exact absurd hcB (by omega))
 have kn_y2_c1:kn_y2C S w 1:=cyN 0 63 (kn_v2) (fun d g=>(d.1,some g,d.2.2)) (fun g=>.slice (some ⟨g,0,none⟩) 2 2) (fun c_ d wx w' bk hcB hb hm hx hk hz hBl=>by
  have hs:=kn_y2_X c_ d wx w' bk hb hm hx hk
  match c_,hb,hx,hs,hcB with
  |0,hb,hx,hs,hcB=>exact⟨hs.1,⟨hs.2.1,(fun g_ hg_=>by obtain rfl:=Option.some.inj hg_; exact⟨hz,hBl⟩)⟩⟩
  |c_+1,hb,hx,hs,hcB=>exact absurd hcB (by omega))
 have kn_y2_c2:kn_y2C S w 2:=cyW (s:=0) (x:=fun d=>Instr.build 119 #[(1,.slice (some ⟨(d.1.getD 0),0,none⟩) 2 2),(2,.slice (some ⟨(d.2.1.getD 0),0,none⟩) 2 2)]) (fun(d:Option Nat×Option Nat×Nat)(_:Unit)=>d) (fun d=>.agg (List.toArray (kn_v1 d))) (fun d wx bk hb hm hx hcame=>by
  obtain rfl:=Option.some.inj hb
  obtain⟨g1_,hg1_⟩:∃g_,d.1=some g_:=Option.isSome_iff_exists.1 (hcame 0 (List.mem_of_getElem? (i:=0) (by kernel_rfl)) (dst_ne (k:=12) (by kernel_rfl)))
  obtain⟨g2_,hg2_⟩:∃g_,d.2.1=some g_:=Option.isSome_iff_exists.1 (hcame 1 (List.mem_of_getElem? (i:=1) (by kernel_rfl)) (dst_ne (k:=13) (by kernel_rfl)))
  obtain⟨_,hx1,hx2⟩:=hx
  obtain⟨k1,k2⟩:=hx1 _ hg1_
  obtain⟨k3,k4⟩:=hx2 _ hg2_
  exact⟨(),wx,(show(Instr.build 119 #[(1,.slice (some ⟨(d.1.getD 0),0,none⟩) 2 2),(2,.slice (some ⟨(d.2.1.getD 0),0,none⟩) 2 2)]).run Tryz.prog wx=.ok (.agg (List.toArray (kn_v1 d))) wx by kernel_rfl),rfl,⟨⟨by rw[hg1_]; exact k1,by rw[hg1_]; exact k2,by rw[hg2_]; exact k3,by rw[hg2_]; exact k4⟩,trivial⟩,hm,Nat.le_refl _⟩)
 have kn_y2_c3:kn_y2C S w 3:=cyW (s:=1) (x:=fun d=>Instr.box 119 (.agg (List.toArray (kn_v1 d)))) (fun(d:Option Nat×Option Nat×Nat)(g:Nat)=>(d.1,d.2.1,g)) (fun d=>(pt d.2.2 0)) (fun d wx bk hb hm hx hcame=>by
  obtain rfl:=Option.some.inj hb
  obtain⟨⟨k1,k2,k3,k4⟩,_⟩:=hx
  obtain⟨w',h1,h2,h3,h4⟩:=run_box (P:=Tryz.prog) wx 119 (.agg (List.toArray (kn_v1 d)))
  exact⟨wx.heap.size,w',h1,rfl,⟨⟨k1,k2.kept h3 (fun h=>h),k3,k4.kept h3 (fun h=>h)⟩,trivial⟩,hm.adopt (h3.mono (fun _ _ h=>h.elim)) h2 hm.kept.size (fun b hb e=>absurd (hm.blk b hb).lt (by dsimp only at e; omega)),h4⟩)
 have kn_y2_R:∀e_∈(rZsY 2 [4]:List (RegY (Option Nat×Option Nat×Nat))),kn_y2C S w e_.i:=certsY_reg _ kn_y2_X (fun d=>by kernel_rfl) (by kernel_rfl) (fun d sz=>by kernel_rfl)
 have kn_y2_A:∀i_,i_<5->kn_y2C S w i_:=allY (l:=[0,1,2,3]) (by kernel_rfl) kn_y2_R ⟨kn_y2_c0,kn_y2_c1,kn_y2_c2,kn_y2_c3,trivial⟩
 refine holds_mixY (Δ:=Option Nat×Option Nat×Nat) (fun _=>False) (kn_y2v) kn_y2F (kn_y2m) (kn_y2X w) [0,2,3,4] (fun d=>[(0,i6 (S:Int)),(2,.pointer none),(3,i6 0),(4,(pt d.2.2 0))]) (fun d=>[⟨d.2.2,119,true,(kn_v1 d)⟩]) (none,none,0) (fun _ h=>h) (by kernel_rfl) (by kernel_rfl) (by kernel_rfl) (fun wx hm=>⟨tI,(fun _ h=>by cases h),(fun _ h=>by cases h)⟩) (by kernel_rfl) kn_y2_A (fun d=>by kernel_rfl) (fun d=>by kernel_rfl) (fun d W1 hfin hX1 hz1 hm1=>?_)
 obtain⟨gI,hgI⟩:∃g,d.1=some g:=Option.isSome_iff_exists.1 (hfin 0 (Nat.le_of_ble_eq_true (by kernel_rfl)) (dst_ne (k:=12) (by kernel_rfl)))
 obtain⟨gS,hgS⟩:∃g,d.2.1=some g:=Option.isSome_iff_exists.1 (hfin 1 (Nat.le_of_ble_eq_true (by kernel_rfl)) (dst_ne (k:=13) (by kernel_rfl)))
 obtain⟨d1,d2,kb⟩:=d
 dsimp only at hgI hgS
 subst hgI hgS
 obtain⟨hF1,_⟩:=hX1
 replace hF1:w.heap.size<=gI∧Blk W1 gI 3 [i6 0,i6 0]∧w.heap.size<=gS∧Blk W1 gS 63 (kn_v2):=hF1
 replace hm1:MemOk w (fun _=>False) (kn_b2 kb gI gS) [] W1.heap.size W1:=hm1
 change Holds _ _ _ _ W1 (Turned (kn_b2 kb gI gS)) _ [.code [1,1,1]] ⟨[(0,i6 (S:Int)),(2,.pointer none),(3,i6 0),(4,(pt kb 0))],(kn_b2 kb gI gS),[],W1.heap.size⟩
 refine hgE 9 [oh0] [0,2,3,4,5] [] [] [.code [1,1,1,0,1,0],.blk 0,.code [1,1,1,1]] ⟨[(0,i6 (S:Int)),(2,.pointer none),(3,i6 0),(4,(pt kb 0)),(5,i6 0)],(kn_b2 kb gI gS),[],W1.heap.size⟩ ?_
 refine holds_loopW (w:=w) (S':=fun _=>False) (KnI S kb gI gS w) S (by kernel_rfl) (fun W0 hm=>⟨⟨0,none,0,_,by omega,by omega,OwnR.nil _ _ _ _,⟨hF1.1,hF1.2.1.kept hm.kept (fun h=>tysIn_not rfl (blk_ty hF1.2.1) (turned_tys hm1 _ h)),hF1.2.2.1,hF1.2.2.2.kept hm.kept (fun h=>tysIn_not rfl (blk_ty hF1.2.2.2) (turned_tys hm1 _ h))⟩,rfl⟩,MemOk.bck hm1 hm⟩) ?_
 rintro m _ W2 ⟨i,A,cp,z,hmi,hin,hO1,hF2,rfl⟩ hm2 J hJ
 have hkb:w.heap.size<=kb:=(hm2.own _ (List.mem_of_getElem? (i:=0) rfl) rfl).resolve_left (fun h=>h)
 by_cases h1:i<S
 rotate_left
 ·skip
  refine hgS 18 (dz 7 0) [2,3] [dF (((i:Int):Int)<(S:Int))] [] [.code [1,1,1,1,1]] (kn_b1 i kb gI gS A cp) [] W2.heap.size ?_
  refine hrt [] [(pt kb 0),i6 0] [] ?_
  intro wx hm
  obtain rfl:i=S:=by omega
  exact⟨kb,gI,gS,A,cp,rfl,hkb,hm.at_ 0 rfl,hO1.keptT hm.kept (turned_tys hm2) rfl,⟨hF2.1,hF2.2.1.kept hm.kept (fun h=>tysIn_not rfl (blk_ty hF2.2.1) (turned_tys hm2 _ h)),hF2.2.2.1,hF2.2.2.2.kept hm.kept (fun h=>tysIn_not rfl (blk_ty hF2.2.2.2) (turned_tys hm2 _ h))⟩,(MemOk.bck hm2 hm).kept⟩
 refine hgE 22 (dz 11 0x1000800001000) [0,2,3,4,5,21,25,27] [dT (((i:Int):Int)<(S:Int))] [(kb,0,1)] [.ops [1,1,1,0,1,0,0,1,0,0] [7,8,9,10],.blk 1,.code [1,1,1,0,1,0,0,1,1],.inv J,.blk 0,.code [1,1,1,1]] ⟨[(0,i6 (S:Int)),(2,.pointer none),(3,i6 0),(4,(pt kb 0)),(5,i6 (i:Int)),(21,(pt kb 0)),(25,.slice A i cp),(27,.slice (some ⟨W2.heap.size,0,none⟩) 1 1)],[⟨kb,119,true,[.slice A i cp,.slice (some ⟨gI,0,none⟩) 2 2,.slice (some ⟨gS,0,none⟩) 2 2]⟩,⟨W2.heap.size,73,true,[i6 0,i6 0,i6 0,i6 (-1)]⟩],[],W2.heap.size+1⟩ ?_
 have hkl:kb<W2.heap.size:=(hm2.at_ 0 rfl).lt
 refine holds_opV (w:=w) (S':=(fun _=>False)) (Y:=Option Addr×Nat) (dst:=(some 28)) (x:=Builtin.append_ #[116,116] 116 #[.slice A i cp,.slice (some ⟨W2.heap.size,0,none⟩) 1 1]) (fun yq=>.slice yq.1 (i+1) yq.2) (kn_b1 i kb gI gS A cp) (fun yq W_=>OwnR W_ w.heap.size 73 4 yq.1 (i+1) yq.2 (flatV LeaM.cells (List.replicate (i+1) ⟨0,0,0,-1⟩))∧(w.heap.size<=gI∧Blk W_ gI 3 [i6 0,i6 0]∧w.heap.size<=gS∧Blk W_ gS 63 (kn_v2))) (fun yq=>[(28,.slice yq.1 (i+1) yq.2),(0,i6 (S:Int)),(2,.pointer none),(3,i6 0),(4,(pt kb 0)),(5,i6 (i:Int)),(21,(pt kb 0)),(25,.slice A i cp),(27,.slice (some ⟨W2.heap.size,0,none⟩) 1 1)]) (by kernel_rfl) (by kernel_rfl) (fun _=>rfl) (fun wx hm=>?_) (fun yq W3 hX3 hm3=>?_)
 ·have hO_:=hO1.keptT hm.kept (turned_tys hm2) rfl
  have hm0:=MemOk.bck hm2 hm
  have hF_:w.heap.size<=gI∧Blk wx gI 3 [i6 0,i6 0]∧w.heap.size<=gS∧Blk wx gS 63 (kn_v2):=⟨hF2.1,hF2.2.1.kept hm.kept (fun h=>tysIn_not rfl (blk_ty hF2.2.1) (turned_tys hm2 _ h)),hF2.2.2.1,hF2.2.2.2.kept hm.kept (fun h=>tysIn_not rfl (blk_ty hF2.2.2.2) (turned_tys hm2 _ h))⟩
  obtain⟨A',cp',w',h1,h2,h3,h4⟩:=run_appendR (P:=Tryz.prog) wx w.heap.size 116 116 73 (.agg #[i6 0,i6 0,i6 0,i6 0]) 4 32 A i cp (flatV LeaM.cells (List.replicate i ⟨0,0,0,-1⟩)) ⟨W2.heap.size,0,none⟩ 1 1 [i6 0,i6 0,i6 0,i6 (-1)] (by kernel_rfl) (by kernel_rfl) (by kernel_rfl) (by decide) hO_ rfl (fun j x hj=>by rw[add_norm,Nat.zero_add]; exact(hm.at_ 1 rfl).at_ hj) (ones_all rfl) (by omega) (by decide) hm0.kept.size
  rw[show[i6 0,i6 0,i6 0,i6 (-1)]=LeaM.cells ⟨0,0,0,-1⟩from rfl,flatV_snoc,<-List.replicate_succ']at h2
  have hT_:=own_tys hO_
  exact⟨(A',cp'),w',h1,⟨h2,hF_.1,hF_.2.1.kept h3 (fun h=>tysIn_not rfl (blk_ty hF_.2.1) (hT_ _ h)),hF_.2.2.1,hF_.2.2.2.kept h3 (fun h=>tysIn_not rfl (blk_ty hF_.2.2.2) (hT_ _ h))⟩,(hm0.sub (bk':=(kn_b1 i kb gI gS A cp)) (by simp)).offA (fun _ h=>h) h3 (fun y hy=>.inr (hO_.own y hy).1) (off_tys (hm0.sub (bk':=(kn_b1 i kb gI gS A cp)) (by simp)) (own_tys hO_) rfl)⟩
 obtain⟨A2,cp2⟩:=yq
 obtain⟨hO3,hF3⟩:=hX3
 refine hgE 13 (dz 6 0x2001000800) [0,2,3,4,5] [n64 (((i:Int)+1))] [(kb,0,1)] [.inv J,.blk 0,.code [1,1,1,1]] ⟨[(0,i6 (S:Int)),(2,.pointer none),(3,i6 0),(4,(pt kb 0)),(5,i6 ((i:Int)+1))],[⟨kb,119,true,[.slice A2 (i+1) cp2,.slice (some ⟨gI,0,none⟩) 2 2,.slice (some ⟨gS,0,none⟩) 2 2]⟩],[],W3.heap.size⟩ ?_
 rw[<-cast_succ i]
 intro a_ w9 hf hm
 exact hJ (m-1) _ a_ w9 (by omega) ⟨i+1,A2,cp2,_,by omega,by omega,hO3.keptT hm.kept (turned_tys hm3) rfl,⟨hF3.1,hF3.2.1.kept hm.kept (fun h=>tysIn_not rfl (blk_ty hF3.2.1) (turned_tys hm3 _ h)),hF3.2.2.1,hF3.2.2.2.kept hm.kept (fun h=>tysIn_not rfl (blk_ty hF3.2.2.2) (turned_tys hm3 _ h))⟩,rfl⟩ hf (MemOk.bck hm3 hm)
end Go.Proofs.YtcmpkkapkdlfhaaGreat
