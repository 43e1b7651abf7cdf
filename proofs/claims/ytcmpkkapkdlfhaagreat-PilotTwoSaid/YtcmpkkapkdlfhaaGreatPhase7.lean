import Derived.Test.YtcmpkkapkdlfhaaGreatPil16
namespace Go.Proofs.YtcmpkkapkdlfhaaGreat
open Go.RowKit
def OpC.xQ(k:OpC)(g:Nat×Nat)(gx:Nat×Nat)(bl:Nat->ByteArray):PilC:={ k.xW g with kd:=2,ou:=-1,nx:=.func (.func 84) #[.pointer (some ⟨k.pb,0,none⟩)] #[],lg:=false,rd:=.slice (some ⟨gx.1,0,none⟩) 2 2,wr:=.slice (some ⟨gx.2,0,none⟩) 2 2,bl:=bl }
def OpC.lsQ(k:OpC):List OneM:=[k.oA 2 k.cn 0,k.oA 2 (k.n-1) 1]
def OpC.cQ(k:OpC)(j:Nat):CM:=⟨k.frm,k.last+1+(k.n:Int)+2,k.lsQ.drop j⟩
def OpC.gQ(k:OpC)(gx:Nat×Nat)(W:World):Prop:=OwnR W k.B0 3 1 (some ⟨gx.1,0,none⟩) 2 2 (flatV intC [(k.cn:Int),k.x0.N-1])∧OwnR W k.B0 3 1 (some ⟨gx.2,0,none⟩) 2 2 (flatV intC [(k.cn:Int),k.x0.N-1])
theorem stbG_not{es:List TypeId}(he:es.all (fun e=>[98,124,141,65,59].contains e)=true):∀e,([98,124,141,65,59]:List TypeId).contains e=false->es.contains e=false:=fun e h5=>by
 cases h6:es.contains e with
 |false=>rfl
 |true=>
  have h7:=List.all_eq_true.1 he e (by simpa using h6)
  rw[h5]at h7
  cases h7
theorem OpC.gQ_stb(k:OpC)(gx:Nat×Nat):StbG (k.gQ gx):=fun _ _ _ _ h hk hT he=>⟨h.1.keptT hk hT (stbG_not he _ rfl),h.2.keptT hk hT (stbG_not he _ rfl)⟩
theorem last_cast{k:OpC}(hk:OpOk k):k.x0.N-1=((k.n-1:Nat):Int):=by
 have h:=hk.hn
 rw[hk.xN]
 omega
theorem lsQ_eq{k:OpC}(hk:OpOk k):onesA k.now k.cW.last ((colsP 2 k.x0.N (k.sn:Int) k.E [(k.cn:Int),k.x0.N-1])++(colsP 3 k.x0.N (k.sn:Int) k.E []))=k.lsQ:=by
 rw[last_cast hk,hk.xN]
 have e1:=node_cast k.cn k.sn k.n
 have e2:=node_cast (k.n-1) k.sn k.n
 simp only[colsP,List.map_cons,List.map_nil,onesA,OpC.lsQ,OpC.oA,OpC.nd,List.append_nil]
 rw[e1,e2]
 simp[OpC.cW]
theorem cQ_eq{k:OpC}(hk:OpOk k):cmA k.cW k.now ((colsP 2 k.x0.N (k.sn:Int) k.E [(k.cn:Int),k.x0.N-1])++(colsP 3 k.x0.N (k.sn:Int) k.E []))=k.cQ 0:=by
 unfold cmA OpC.cQ
 rw[lsQ_eq hk]
 rfl
theorem work_write{k:OpC}(hk:OpOk k)(h3:k.kd=2){g:Nat×Nat}{lb:Nat}{wx:World}(hX:PilX wx k.B0 k.pb { k.xW g with lb:=lb } k.cW [])(hb:k.B0<=wx.heap.size) :
  Calls Tryz.prog 32 #[.pointer (some ⟨k.pb,0,none⟩),i6 k.now] wx (fun e w'=>e=.returned (.tuple #[])∧(∃gx,PilX w' k.B0 k.pb { k.xQ g gx noB with lb:=lb } (k.cQ 0) k.lsQ∧k.gQ gx w')∧Kept (PilT [141] k.B0 lb k.pb k.x0.cb wx) wx w'):=by
 have e:=xW_kd h3 g lb
 rw[e]at hX
 have h1:=hk.hnow
 have h2:=hk.hlast
 have h0:=hk.hn
 have hq:=pilX_workWrite { k.xW g with lb:=lb } k.cW [] k.pb k.B0 k.now (k.geo hk) (k.sng hk) (k.cng hk) (by omega) (by show 0<=k.last+1+(k.n:Int)∧k.last+1+(k.n:Int)+6<_; omega) (by simp) wx hX hb
 refine hq.mono fun e w' h=>?_
 obtain⟨gx,gy,q1,q2,q3,q4,q5⟩:=h
 refine⟨q1,⟨(gx,gy),?_,q3,q4⟩,q5⟩
 have q6:PilX w' k.B0 k.pb { k.xQ g (gx,gy) noB with lb:=lb } (cmA k.cW k.now ((colsP 2 k.x0.N (k.sn:Int) k.E [(k.cn:Int),k.x0.N-1])++(colsP 3 k.x0.N (k.sn:Int) k.E []))) ([]++onesA k.now k.cW.last ((colsP 2 k.x0.N (k.sn:Int) k.E [(k.cn:Int),k.x0.N-1])++(colsP 3 k.x0.N (k.sn:Int) k.E []))):=q2
 rwa [cQ_eq hk,lsQ_eq hk]at q6
theorem recv_rw0{k:OpC}(hk:OpOk k){g gx:Nat×Nat}{W:World}(hS:PilS W k.B0 k.pb (k.xQ g gx noB) (k.cQ 0))(hg:k.gQ gx W)(hb:k.B0<=W.heap.size)(o:OneM)(sy:SayR)(frm:Int)(ho:o=k.oA 2 k.cn 0)(hsy:sy=⟨1,k.E,0,k.fen (k.nd k.cn)⟩)(hfrm:frm=k.frm) :
  Calls Tryz.prog 19 #[.pointer (some ⟨k.pb,0,none⟩),i6 k.now,.agg #[i6 o.to,i6 frm,i6 o.id,.bool true,i6 0,i6 0,i6 0,i6 0,i6 0,i6 0,i6 0,i6 0,sT ⟨#[]⟩,i6 sy.st,i6 sy.ep,i6 sy.ou,.bool sy.rc.used,i6 sy.rc.fence,i6 sy.rc.de,i6 sy.rc.ds,sT sy.rc.block,.bool sy.rc.op,i6 sy.rc.ie,i6 sy.rc.is,i6 sy.rc.mask,sT sy.rc.staged]] W (fun e w'=>∃A ca,e=.returned (.slice A ([]:List OneM).length ca)∧OwnR w' W.heap.size 65 26 A ([]:List OneM).length ca (lettersC k.frm [])∧PilS w' k.B0 k.pb (k.xQ g gx (blS noB k.cn (k.blk (k.nd k.cn)))) (k.cQ 1)∧k.gQ gx w'∧Kept (PilT [141,178] k.B0 W.heap.size k.pb k.x0.cb W) W w'∧Kept (LawT W) W w'):=by
 subst ho hsy hfrm
 have hi:=k.nd_lt hk k.cn
 obtain⟨F,d,q,B,hr,hF,hd,hq,hB⟩:=hk.hrec _ hi
 have e2:k.fen (k.nd k.cn)=⟨true,k.E,d,q,B,false,0,0,0,⟨#[]⟩⟩:=by unfold OpC.fen; rw[hr]
 have e3:k.blk (k.nd k.cn)=B:=by unfold OpC.blk; rw[hr]
 have h0:=hk.hn
 have h1:=hk.hE
 have h2:=hk.hnow
 have h3:=hk.hlast
 have h4:=hk.hcn
 have hwn:=within_id (n:=k.now) (by omega)
 rw[e2,e3]
 refine(recv_any (x:=k.xQ g gx noB) (c:=k.cQ 0) (α:=Unit) (fun _=>k.xQ g gx (blS noB k.cn B)) (fun _=>k.cQ 1) (fun _=>[]) (fun _=>k.gQ gx) [141,178] rfl rfl (k.gQ gx) (k.gQ_stb gx) (fun _=>(k.gQ_stb gx).s) (fun _=>rfl) 84 (.inr (.inr (.inl rfl))) [k.oA 2 (k.n-1) 1] (k.oA 2 k.cn 0) _ k.now hS rfl rfl rfl (.inl ⟨by show(0:Int)<=(k.nd k.cn:Int); omega,by show(k.nd k.cn:Int)<6; omega⟩) hk.hfrm (by show 1<=k.last+1+(k.n:Int)+((0:Nat):Int)+1∧k.last+1+(k.n:Int)+((0:Nat):Int)+1<=_; omega) (sayOk_1 (by omega) (by omega) (okB_rec (by omega) (by omega) hq hB)) hb hg (fun wx hX hgx hbx=>?_)).mono fun _ _ ⟨_,A,ca,h⟩=>⟨A,ca,h⟩
 rw[hwn]
 refine pilX_onReadW { k.xQ g gx noB with lb:=W.heap.size } { k.cQ 0 with opn:=[k.oA 2 (k.n-1) 1] } [] k.pb k.B0 _ (by rintro w1 w2 ⟨a,q1,q2⟩ hk; exact⟨a,q1.kept0 hk,(k.gQ_stb gx).kept0 q2 hk⟩) (blS noB k.cn B) gx.1 gx.2 k.now (k.nd k.cn:Int) 1 k.E 0 (k.oA 2 k.cn 0).q ⟨true,k.E,d,q,B,false,0,0,0,⟨#[]⟩⟩ (fun wy hY=>?_) (fun _ wy hY hR hR2=>⟨(),hY,hR,hR2⟩) (fun hz=>by simp at hz) wx hX hgx.1 hgx.2 hbx
 exact pilX_tookRead { k.xQ g gx noB with lb:=W.heap.size } { k.cQ 0 with opn:=[k.oA 2 (k.n-1) 1] } [] k.pb k.B0 k.cn k.now (k.nd k.cn:Int) k.E 0 (k.oA 2 k.cn 0).q ⟨true,k.E,d,q,B,false,0,0,0,⟨#[]⟩⟩ (k.geo hk) (k.sng hk) (by omega) (by show 0<=(k.nd k.cn:Int)∧(k.nd k.cn:Int)<k.x0.N; rw[hk.xN]; omega) (col_back hk (by omega)) wy hY
def OpC.bl2(k:OpC):Nat->ByteArray:=blS (blS noB k.cn (k.blk (k.nd k.cn))) (k.n-1) (k.blk (k.nd (k.n-1)))
def OpC.par(k:OpC):ByteArray:=bytesI (xorI (xorI (intsOf (k.blk (k.nd (k.n-1)))) (intsOf (k.blk (k.nd k.cn)))) (intsOf k.da))
def OpC.msk(k:OpC):Int:=mskC [(k.cn:Int),k.x0.N-1]
def OpC.pU(k:OpC)(a b c d:Bool):List PartM:=[⟨(k.cn:Int),k.da,a,c⟩,⟨k.x0.N-1,k.par,b,d⟩]
def OpC.lvU(k:OpC):Nat->LeaC:=lvS k.lvW (Int.toNat (k.sn:Int)) ⟨true,k.E,-1,1,k.now⟩
def OpC.xU(k:OpC)(g gx:Nat×Nat)(v:Nat×Nat×Nat):PilC:={ k.xQ g gx k.bl2 with lv:=k.lvU,nx:=.func (.func 112) #[.pointer (some ⟨k.pb,0,none⟩)] #[],lg:=false,ou:=-1,db:=true,te:=k.E,ts:=1,ud:=.pointer (some ⟨v.1,0,none⟩) }
def OpC.gU(k:OpC)(v:Nat×Nat×Nat)(U:List PartM)(W:World):Prop:=OwnR W k.B0 178 7 (some ⟨v.1,0,none⟩) 1 1 (updC (k.sn:Int) k.msk k.E 1 (.slice (some ⟨v.2.1,0,none⟩) 2 v.2.2) true)∧OwnR W k.B0 180 4 (some ⟨v.2.1,0,none⟩) 2 v.2.2 (flatV PartM.cells U)
theorem OpC.gU_stb(k:OpC)(v:Nat×Nat×Nat)(U:List PartM):StbG (k.gU v U):=fun _ _ _ _ h hk hT he=>⟨h.1.keptT hk hT (stbG_not he _ rfl),h.2.keptT hk hT (stbG_not he _ rfl)⟩
def OpC.oP(k:OpC)(c:Nat)(T:ByteArray)(j:Nat):OneM:=⟨(k.nd c:Int),k.last+1+(k.n:Int)+2+(j:Int)+1,⟨4,(k.sn:Int),k.E,1,k.msk,0,0,0,T⟩,k.now,k.now⟩
def OpC.lsP(k:OpC):List OneM:=[k.oP k.cn k.da 0,k.oP (k.n-1) k.par 1]
def OpC.cP(k:OpC)(j:Nat):CM:=⟨k.frm,k.last+1+(k.n:Int)+2+2,k.lsP.drop j⟩
def OpC.oC(k:OpC)(c j:Nat):OneM:=⟨(k.nd c:Int),k.last+1+(k.n:Int)+2+2+(j:Int)+1,⟨5,(k.sn:Int),k.E,1,0,0,0,0,⟨#[]⟩⟩,k.now,k.now⟩
def OpC.lsC(k:OpC):List OneM:=[k.oC k.cn 0,k.oC (k.n-1) 1]
def OpC.cC(k:OpC)(j:Nat):CM:=⟨k.frm,k.last+1+(k.n:Int)+2+2+2,k.lsC.drop j⟩
theorem lsP_eq{k:OpC}(hk:OpOk k)(L:Int)(hL:L=k.last+1+(k.n:Int)+2):onesA k.now L (updP (prepQ (k.sn:Int) k.E 1 k.msk) k.x0.N (k.sn:Int) (k.pU false false false false))=k.lsP:=by
 subst hL
 unfold OpC.pU
 rw[last_cast hk,hk.xN]
 have e1:=node_cast k.cn k.sn k.n
 have e2:=node_cast (k.n-1) k.sn k.n
 simp only[updP,List.map_cons,List.map_nil,onesA,OpC.lsP,OpC.oP,OpC.nd,prepQ]
 rw[e1,e2]
 simp
theorem lsC_eq{k:OpC}(hk:OpOk k)(L:Int)(hL:L=k.last+1+(k.n:Int)+2+2):onesA k.now L (updP (commQ (k.sn:Int) k.E 1) k.x0.N (k.sn:Int) (k.pU true true false false))=k.lsC:=by
 subst hL
 unfold OpC.pU
 rw[last_cast hk,hk.xN]
 have e1:=node_cast k.cn k.sn k.n
 have e2:=node_cast (k.n-1) k.sn k.n
 simp only[updP,List.map_cons,List.map_nil,onesA,OpC.lsC,OpC.oC,OpC.nd,commQ]
 rw[e1,e2]
 simp
theorem work_make{k:OpC}(hk:OpOk k)(hd:k.da.size=16){g gx:Nat×Nat}{lb:Nat}{wx:World}(hX:PilX wx k.B0 k.pb { k.xQ g gx k.bl2 with lb:=lb } ⟨k.frm,k.last+1+(k.n:Int)+2,[]⟩ [])(hg:k.gQ gx wx)(hb:k.B0<=wx.heap.size) :
  Calls Tryz.prog 52 #[.pointer (some ⟨k.pb,0,none⟩),i6 k.now] wx (fun e w'=>e=.returned (.tuple #[])∧(∃v,PilX w' k.B0 k.pb { k.xU g gx v with lb:=lb } (k.cP 0) k.lsP∧k.gU v (k.pU false false false false) w')∧Kept (PilT [141,178] k.B0 lb k.pb k.x0.cb wx) wx w'):=by
 have h0:=hk.hn
 have h1:=hk.hE
 have h2:=hk.hnow
 have h3:=hk.hlast
 have h4:=hk.hcn
 obtain⟨F,d,q,B,hr,hF,hd',hq,hB⟩:=hk.hrec _ (k.nd_lt hk k.cn)
 obtain⟨F2,d2,q2,B2,hr2,hF2,hd2,hq2,hB2⟩:=hk.hrec _ (k.nd_lt hk (k.n-1))
 have e1:k.bl2 (Int.toNat (k.cn:Int))=k.blk (k.nd k.cn):=by
  rw[Int.toNat_natCast]
  simp[OpC.bl2,blS,show k.cn≠k.n-1 by omega]
 have e2:k.bl2 (Int.toNat (k.x0.N-1))=k.blk (k.nd (k.n-1)):=by
  rw[last_cast hk,Int.toNat_natCast]
  simp[OpC.bl2,blS]
 have b1:(k.blk (k.nd k.cn)).size=16:=by unfold OpC.blk; rw[hr]; exact hB
 have b2:(k.blk (k.nd (k.n-1))).size=16:=by unfold OpC.blk; rw[hr2]; exact hB2
 have es:k.lvW (Int.toNat (k.sn:Int))=⟨true,k.E,-1,0,k.now⟩:=lvS_self _ _ _
 have esq:sqP { k.xQ g gx k.bl2 with lb:=lb }=1:=by
  show(k.lvW (Int.toNat (k.sn:Int))).sq+1=1
  rw[es]
  rfl
 have elv:lvP { k.xQ g gx k.bl2 with lb:=lb }=k.lvU:=by
  show lvS k.lvW (Int.toNat (k.sn:Int)) { k.lvW (Int.toNat (k.sn:Int))with sq:=sqP { k.xQ g gx k.bl2 with lb:=lb } }=_
  rw[es,esq]
  rfl
 have ept:ptsP { k.xQ g gx k.bl2 with lb:=lb }=k.pU false false false false:=by
  show partsL [(k.cn:Int),k.x0.N-1] [k.da,bytesI (xorI (xorI (intsOf (k.bl2 (Int.toNat (k.x0.N-1)))) (intsOf (k.bl2 (Int.toNat (k.cn:Int))))) (intsOf k.da))]=_
  rw[e1,e2]
  rfl
 have hq:=pilX_makeBlocks { k.xQ g gx k.bl2 with lb:=lb } ⟨k.frm,k.last+1+(k.n:Int)+2,[]⟩ [] k.pb k.B0 gx.1 gx.2 k.now (k.geo hk) (k.sng hk) (k.cng hk) (by show(k.bl2 (Int.toNat (k.cn:Int))).size=16; rw[e1,b1]) (by show(k.bl2 (Int.toNat (k.x0.N-1))).size=16; rw[e2,b2]) hd (by show 0<=(k.lvW (Int.toNat (k.sn:Int))).sq∧(k.lvW (Int.toNat (k.sn:Int))).sq<_; rw[es]; exact⟨(by decide:(0:Int)<=0),(by decide:(0:Int)<16777215)⟩) (by show 1<=k.E∧k.E<=_; omega) (by omega) (by show 0<=k.last+1+(k.n:Int)+2∧k.last+1+(k.n:Int)+2+6<_; omega) (by simp) wx hX hg.1 hg.2 hb
 refine hq.mono fun e w' h=>?_
 obtain⟨u,p,z,q1,q2,q3,q4,q5⟩:=h
 refine⟨q1,⟨(u,p,z),?_,?_,?_⟩,q5⟩
 ·rw[ept,elv,esq]at q2
  have q6:PilX w' k.B0 k.pb { k.xU g gx (u,p,z)with lb:=lb } (cmA ⟨k.frm,k.last+1+(k.n:Int)+2,[]⟩ k.now (updP (prepQ (k.sn:Int) k.E 1 k.msk) k.x0.N (k.sn:Int) (k.pU false false false false))) ([]++onesA k.now (k.last+1+(k.n:Int)+2) (updP (prepQ (k.sn:Int) k.E 1 k.msk) k.x0.N (k.sn:Int) (k.pU false false false false))):=q2
  unfold cmA at q6
  rw[lsP_eq hk _ rfl]at q6
  exact q6
 ·rw[esq]at q3
  exact q3
 ·rw[ept]at q4
  exact q4
theorem recv_rw1{k:OpC}(hk:OpOk k)(hda:k.da.size=16){g gx:Nat×Nat}{W:World}(hS:PilS W k.B0 k.pb (k.xQ g gx (blS noB k.cn (k.blk (k.nd k.cn)))) (k.cQ 1))(hg:k.gQ gx W)(hb:k.B0<=W.heap.size)(o:OneM)(sy:SayR)(frm:Int)(ho:o=k.oA 2 (k.n-1) 1)(hsy:sy=⟨1,k.E,0,k.fen (k.nd (k.n-1))⟩)(hfrm:frm=k.frm) :
  Calls Tryz.prog 19 #[.pointer (some ⟨k.pb,0,none⟩),i6 k.now,.agg #[i6 o.to,i6 frm,i6 o.id,.bool true,i6 0,i6 0,i6 0,i6 0,i6 0,i6 0,i6 0,i6 0,sT ⟨#[]⟩,i6 sy.st,i6 sy.ep,i6 sy.ou,.bool sy.rc.used,i6 sy.rc.fence,i6 sy.rc.de,i6 sy.rc.ds,sT sy.rc.block,.bool sy.rc.op,i6 sy.rc.ie,i6 sy.rc.is,i6 sy.rc.mask,sT sy.rc.staged]] W (fun e w'=>∃v A ca,e=.returned (.slice A k.lsP.length ca)∧OwnR w' W.heap.size 65 26 A k.lsP.length ca (lettersC k.frm k.lsP)∧PilS w' k.B0 k.pb (k.xU g gx v) (k.cP 0)∧k.gU v (k.pU false false false false) w'∧Kept (PilT [141,178] k.B0 W.heap.size k.pb k.x0.cb W) W w'∧Kept (LawT W) W w'):=by
 subst ho hsy hfrm
 have hi:=k.nd_lt hk (k.n-1)
 obtain⟨F,d,q,B,hr,hF,hd,hq,hB⟩:=hk.hrec _ hi
 have e2:k.fen (k.nd (k.n-1))=⟨true,k.E,d,q,B,false,0,0,0,⟨#[]⟩⟩:=by unfold OpC.fen; rw[hr]
 have e3:k.blk (k.nd (k.n-1))=B:=by unfold OpC.blk; rw[hr]
 have h0:=hk.hn
 have h1:=hk.hE
 have h2:=hk.hnow
 have h3:=hk.hlast
 have h4:=hk.hcn
 have hwn:=within_id (n:=k.now) (by omega)
 rw[e2]
 refine recv_any (x:=k.xQ g gx (blS noB k.cn (k.blk (k.nd k.cn)))) (c:=k.cQ 1) (k.xU g gx) (fun _=>k.cP 0) (fun _=>k.lsP) (fun v=>k.gU v (k.pU false false false false)) [141,178] rfl rfl (k.gQ gx) (k.gQ_stb gx) (fun v=>(k.gU_stb v _).s) (fun _=>rfl) 84 (.inr (.inr (.inl rfl))) [] (k.oA 2 (k.n-1) 1) _ k.now hS rfl rfl rfl (.inl ⟨by show(0:Int)<=(k.nd (k.n-1):Int); omega,by show(k.nd (k.n-1):Int)<6; omega⟩) hk.hfrm (by show 1<=k.last+1+(k.n:Int)+((1:Nat):Int)+1∧k.last+1+(k.n:Int)+((1:Nat):Int)+1<=_; omega) (sayOk_1 (by omega) (by omega) (okB_rec (by omega) (by omega) hq hB)) hb hg (fun wx hX hgx hbx=>?_)
 rw[hwn]
 refine pilX_onReadW { k.xQ g gx (blS noB k.cn (k.blk (k.nd k.cn)))with lb:=W.heap.size } { k.cQ 1 with opn:=[] } [] k.pb k.B0 _ (by rintro w1 w2 ⟨a,q1,q2⟩ hk; exact⟨a,q1.kept0 hk,(k.gU_stb a _).kept0 q2 hk⟩) (blS (blS noB k.cn (k.blk (k.nd k.cn))) (k.n-1) B) gx.1 gx.2 k.now (k.nd (k.n-1):Int) 1 k.E 0 (k.oA 2 (k.n-1) 1).q ⟨true,k.E,d,q,B,false,0,0,0,⟨#[]⟩⟩ (fun wy hY=>?_) (fun hz=>by simp at hz) (fun _ wy hY hR hR2 hby=>?_) wx hX hgx.1 hgx.2 hbx
 ·exact pilX_tookRead { k.xQ g gx (blS noB k.cn (k.blk (k.nd k.cn)))with lb:=W.heap.size } { k.cQ 1 with opn:=[] } [] k.pb k.B0 (k.n-1) k.now (k.nd (k.n-1):Int) k.E 0 (k.oA 2 (k.n-1) 1).q ⟨true,k.E,d,q,B,false,0,0,0,⟨#[]⟩⟩ (k.geo hk) (k.sng hk) (by omega) (by show 0<=(k.nd (k.n-1):Int)∧(k.nd (k.n-1):Int)<k.x0.N; rw[hk.xN]; omega) (col_back hk (by omega)) wy hY
 ·rw[<-e3]at hY
  exact work_make hk hda hY ⟨hR,hR2⟩ hby
theorem nd_inj{k:OpC}(hk:OpOk k){c d:Nat}(hc:c<k.n)(hd:d<k.n)(h:k.nd c=k.nd d):c=d:=by
 have h0:=hk.hn
 have h1:k.sn<8:=by have:=hk.hS; have:=hk.hsn; omega
 have e1:=node_fin k.n (by omega) h0.1 k.sn h1 c hc
 have e2:=node_fin k.n (by omega) h0.1 k.sn h1 d hd
 unfold OpC.nd at h
 rw[h]at e1
 omega
theorem msk_fin:∀n,n<7->3<=n->∀c:Nat,c<n-1->1<=mskC [(c:Int),((n-1:Nat):Int)]∧mskC [(c:Int),((n-1:Nat):Int)]<=63:=by decide
theorem OpC.msk_bd{k:OpC}(hk:OpOk k):1<=k.msk∧k.msk<=63:=by
 unfold OpC.msk
 rw[last_cast hk]
 exact msk_fin k.n (by have:=hk.hn; omega) hk.hn.1 k.cn hk.hcn
def OpC.opn(k:OpC)(c:Nat)(T:ByteArray):RecM:={ k.fen (k.nd c)with op:=true,ie:=k.E,is:=1,mask:=k.msk,staged:=T }
def OpC.dn(k:OpC)(c:Nat)(T:ByteArray):RecM:={ k.fen (k.nd c)with de:=k.E,ds:=1,block:=T }
def OpC.RU(k:OpC)(a b:RecM)(m:Nat):RecM:=if m=k.nd k.cn then a else if m=k.nd (k.n-1)then b else k.fen m
theorem SimQ.congr{k:OpC}{R R':Nat->RecM}{W:World}(h:SimQ k R W)(hR:∀m,m<k.n->R m=R' m):SimQ k R' W:=by
 obtain⟨s,h1,h2,h3,h4,h5⟩:=h
 exact⟨s,h1,h2,h3,fun m hm=>(h4 m hm).trans (hR m hm),h5⟩
theorem ans_prep{k:OpC}(hk:OpOk k){c j:Nat}{T:ByteArray}(hT:T.size=16){R R':Nat->RecM}(hR0:R (k.nd c)=k.fen (k.nd c))(hR:∀m,m<k.n->R' m=if m=k.nd c then k.opn c T else R m){W:World}(hW:SimQ k R W)(hb:k.b<=W.heap.size)(o:OneM)(sy:SayR)(frm:Int)(ho:o=k.oP c T j)(hsy:sy=⟨1,k.E,0,recZ⟩) :
  Calls Tryz.prog 18 #[.pointer (some ⟨k.s0.sb,0,none⟩),i6 k.now,.agg #[i6 frm,i6 o.to,i6 o.id,.bool false,i6 o.q.kind,i6 o.q.stripe,i6 o.q.epoch,i6 o.q.seq,i6 o.q.mask,i6 o.q.node,i6 o.q.oe,i6 o.q.os,sT o.q.block,i6 0,i6 0,i6 0,.bool false,i6 0,i6 0,i6 0,sT ⟨#[]⟩,.bool false,i6 0,i6 0,i6 0,sT ⟨#[]⟩]] W (fun e w'=>e=.returned (.tuple #[.agg #[i6 o.to,i6 frm,i6 o.id,.bool true,i6 0,i6 0,i6 0,i6 0,i6 0,i6 0,i6 0,i6 0,sT ⟨#[]⟩,i6 sy.st,i6 sy.ep,i6 sy.ou,.bool sy.rc.used,i6 sy.rc.fence,i6 sy.rc.de,i6 sy.rc.ds,sT sy.rc.block,.bool sy.rc.op,i6 sy.rc.ie,i6 sy.rc.is,i6 sy.rc.mask,sT sy.rc.staged],.bool true])∧SimQ k R' w'∧Kept (TysIn [61] W) W w'∧Kept (fun y=>k.lo<=y∧y<k.b) W w'):=by
 subst ho hsy
 have hi:=k.nd_lt hk c
 obtain⟨F,d,q,B,hr,hF,hd,hq,hB⟩:=hk.hrec _ hi
 have h1:=hk.hE
 refine simQ_ans hk hi (r':=k.opn c T) rfl rfl hR (fun wx=>?_) hW hb frm k.now
 have e2:k.fen (k.nd c)=⟨true,k.E,d,q,B,false,0,0,0,⟨#[]⟩⟩:=by unfold OpC.fen; rw[hr]
 unfold OpC.opn
 rw[hR0,e2]
 exact apply_prepare k.E d q (k.sn:Int) k.E 1 k.msk B T (by omega) (by omega) hq hB (by have:=hk.hS; have:=hk.hsn; omega) (by omega) (by decide) (k.msk_bd hk) hT rfl (by omega) wx
theorem ans_comm{k:OpC}(hk:OpOk k){c j:Nat}{T:ByteArray}(hT:T.size=16){R R':Nat->RecM}(hR0:R (k.nd c)=k.opn c T)(hR:∀m,m<k.n->R' m=if m=k.nd c then k.dn c T else R m){W:World}(hW:SimQ k R W)(hb:k.b<=W.heap.size)(o:OneM)(sy:SayR)(frm:Int)(ho:o=k.oC c j)(hsy:sy=⟨1,k.E,0,recZ⟩) :
  Calls Tryz.prog 18 #[.pointer (some ⟨k.s0.sb,0,none⟩),i6 k.now,.agg #[i6 frm,i6 o.to,i6 o.id,.bool false,i6 o.q.kind,i6 o.q.stripe,i6 o.q.epoch,i6 o.q.seq,i6 o.q.mask,i6 o.q.node,i6 o.q.oe,i6 o.q.os,sT o.q.block,i6 0,i6 0,i6 0,.bool false,i6 0,i6 0,i6 0,sT ⟨#[]⟩,.bool false,i6 0,i6 0,i6 0,sT ⟨#[]⟩]] W (fun e w'=>e=.returned (.tuple #[.agg #[i6 o.to,i6 frm,i6 o.id,.bool true,i6 0,i6 0,i6 0,i6 0,i6 0,i6 0,i6 0,i6 0,sT ⟨#[]⟩,i6 sy.st,i6 sy.ep,i6 sy.ou,.bool sy.rc.used,i6 sy.rc.fence,i6 sy.rc.de,i6 sy.rc.ds,sT sy.rc.block,.bool sy.rc.op,i6 sy.rc.ie,i6 sy.rc.is,i6 sy.rc.mask,sT sy.rc.staged],.bool true])∧SimQ k R' w'∧Kept (TysIn [61] W) W w'∧Kept (fun y=>k.lo<=y∧y<k.b) W w'):=by
 subst ho hsy
 have hi:=k.nd_lt hk c
 obtain⟨F,d,q,B,hr,hF,hd,hq,hB⟩:=hk.hrec _ hi
 have h1:=hk.hE
 refine simQ_ans hk hi (r':=k.dn c T) rfl rfl hR (fun wx=>?_) hW hb frm k.now
 have e2:k.fen (k.nd c)=⟨true,k.E,d,q,B,false,0,0,0,⟨#[]⟩⟩:=by unfold OpC.fen; rw[hr]
 rw[hR0]
 unfold OpC.opn OpC.dn
 rw[e2]
 exact apply_commit k.E d q k.E 1 k.msk (k.sn:Int) k.E 1 B T (by omega) (by omega) hq hB (by omega) (by decide) (k.msk_bd hk) hT (by have:=hk.hS; have:=hk.hsn; omega) (by omega) (by decide) rfl rfl rfl (by omega) wx
theorem recv_upd{k:OpC}(hk:OpOk k){g gx:Nat×Nat}{v:Nat×Nat×Nat}{a b c d a2 b2 c2 d2:Bool}{cc:CM}{R:List OneM}{o:OneM}{col:Nat}(hcf:cc.frm=k.frm)(hc:cc.opn=o::R)(hcol:col<k.n)(hto:o.to=(k.nd col:Int))(hid:1<=o.id∧o.id<=1099511627776)
  (hsaid:∀wx,OwnR wx k.B0 178 7 (some ⟨v.1,0,none⟩) 1 1 (updC (k.sn:Int) k.msk k.E 1 (.slice (some ⟨v.2.1,0,none⟩) 2 v.2.2) true)->OwnR wx k.B0 180 4 (some ⟨v.2.1,0,none⟩) 2 v.2.2 (flatV PartM.cells (k.pU a b c d))->Calls Tryz.prog 123 #[.pointer (some ⟨v.1,0,none⟩),i6 (col:Int),i6 o.q.kind,i6 1] wx (fun e w'=>e=.returned (.tuple #[])∧OwnR w' k.B0 180 4 (some ⟨v.2.1,0,none⟩) 2 v.2.2 (flatV PartM.cells (k.pU a2 b2 c2 d2))∧Kept (ownS (some ⟨v.2.1,0,none⟩)) wx w'))
  {α:Type} (X:α->PilC) (C:α->CM) (Ls:α->List OneM) (G:α->World->Prop) (hG:∀z,StbS (G z)) (hcb:∀z,(X z).cb=k.x0.cb) {W:World}
  (hmore:R≠[]->∃z,X z=k.xU g gx v∧C z={ cc with opn:=R }∧Ls z=[]∧∀w',k.gU v (k.pU a2 b2 c2 d2) w'->G z w')
  (hlast:R=[]->(stateL (k.pU a2 b2 c2 d2) 2=1∧∀wx lb,PilX wx k.B0 k.pb { k.xU g gx v with lb:=lb } { cc with opn:=[] } []->k.gU v (k.pU a2 b2 c2 d2) wx->k.B0<=wx.heap.size->Calls Tryz.prog 89 #[.pointer (some ⟨k.pb,0,none⟩),i6 k.now] wx (fun e w'=>e=.returned (.tuple #[])∧(∃z,PilX w' k.B0 k.pb { X z with lb:=lb } (C z) (Ls z)∧G z w')∧Kept (PilT [141,178] k.B0 lb k.pb k.x0.cb wx) wx w'))∨(stateL (k.pU a2 b2 c2 d2) 2=2∧∀wx lb,PilX wx k.B0 k.pb { k.xI k.lvU ⟨#[]⟩with lb:=lb } { cc with opn:=[] } []->(∀base',PartyX 124 141 wx base' k.x0.cb { cc with opn:=[] })->∃z,PilX wx k.B0 k.pb { X z with lb:=lb } (C z) (Ls z)∧G z wx))
  (hS:PilS W k.B0 k.pb (k.xU g gx v) cc) (hg:k.gU v (k.pU a b c d) W) (hb:k.B0<=W.heap.size) (sy:SayR) (frm:Int) (hsy:sy=⟨1,k.E,0,recZ⟩) (hfrm:frm=k.frm) :
  Calls Tryz.prog 19 #[.pointer (some ⟨k.pb,0,none⟩),i6 k.now,.agg #[i6 o.to,i6 frm,i6 o.id,.bool true,i6 0,i6 0,i6 0,i6 0,i6 0,i6 0,i6 0,i6 0,sT ⟨#[]⟩,i6 sy.st,i6 sy.ep,i6 sy.ou,.bool sy.rc.used,i6 sy.rc.fence,i6 sy.rc.de,i6 sy.rc.ds,sT sy.rc.block,.bool sy.rc.op,i6 sy.rc.ie,i6 sy.rc.is,i6 sy.rc.mask,sT sy.rc.staged]] W (fun e w'=>∃z A ca,e=.returned (.slice A (Ls z).length ca)∧OwnR w' W.heap.size 65 26 A (Ls z).length ca (lettersC (C z).frm (Ls z))∧PilS w' k.B0 k.pb (X z) (C z)∧G z w'∧Kept (PilT [141,178,180] k.B0 W.heap.size k.pb k.x0.cb W) W w'∧Kept (LawT W) W w'):=by
 subst hsy hfrm
 rw[<-hcf]
 have hi:=k.nd_lt hk col
 have h0:=hk.hn
 have h1:=hk.hE
 have h2:=hk.hnow
 have hwn:=within_id (n:=k.now) (by omega)
 refine recv_any (x:=k.xU g gx v) (c:=cc) X C Ls G [141,178,180] rfl rfl (k.gU v (k.pU a b c d)) (k.gU_stb v _) hG hcb 112 (.inr (.inr (.inr (.inl rfl)))) R o _ k.now hS rfl rfl hc (.inl ⟨by rw[hto]; omega,by rw[hto]; omega⟩) (by rw[hcf]; exact hk.hfrm) hid (sayOk_1 (by omega) (by omega) rfl) hb hg (fun wx hX hgx hbx=>?_)
 rw[hwn]
 refine pilX_onUpdate { k.xU g gx v with lb:=W.heap.size } { cc with opn:=R } [] k.pb k.B0 (fun w'=>∃z,PilX w' k.B0 k.pb { X z with lb:=W.heap.size } (C z) (Ls z)∧G z w') (by rintro w1 w2 ⟨a,q1,q2⟩ hk; exact⟨a,q1.kept0 hk,(hG _).kept0 q2 hk⟩) (k.pU a b c d) (k.pU a2 b2 c2 d2) rfl (by show 2<=6; omega) v.1 v.2.1 v.2.2 col k.msk k.E 1 true k.now o.to k.E 0 o.q recZ (k.geo hk) (k.sng hk) (by rw[hto]; show 0<=(k.nd col:Int)∧(k.nd col:Int)<k.x0.N; rw[hk.xN]; omega) (by rw[hto]; exact col_back hk hcol) hsaid (fun hne wy hY hU hP=>?_) (fun hz=>?_) wx hX hgx.1 hgx.2 hbx
 ·obtain⟨z,a1,a2,a3,a4⟩:=hmore (by intro hz; subst hz; exact hne rfl)
  exact⟨z,by rw[a1,a2,a3]; exact hY,a4 _ ⟨hU,hP⟩⟩
 ·obtain rfl:=List.length_eq_zero_iff.1 hz
  rcases hlast rfl with⟨l1,l2⟩|⟨l1,l2⟩
  ·exact .inl ⟨l1,fun wy hY hU hP hby=>l2 wy _ hY ⟨hU,hP⟩ hby⟩
  ·exact .inr ⟨l1,hk.hed,fun wy hY hP=>l2 wy _ hY hP⟩
theorem said_P{k:OpC}{v:Nat×Nat×Nat}{col:Int}{U U2:List PartM}(hl:U.length=2)(hU:U.map (openP col)=U2){base:Nat}{kd:Int}(hkd:kd=4)(wx:World)(h1:OwnR wx base 178 7 (some ⟨v.1,0,none⟩) 1 1 (updC (k.sn:Int) k.msk k.E 1 (.slice (some ⟨v.2.1,0,none⟩) 2 v.2.2) true))(h2:OwnR wx base 180 4 (some ⟨v.2.1,0,none⟩) 2 v.2.2 (flatV PartM.cells U)) :
  Calls Tryz.prog 123 #[.pointer (some ⟨v.1,0,none⟩),i6 col,i6 kd,i6 1] wx (fun e w'=>e=.returned (.tuple #[])∧OwnR w' base 180 4 (some ⟨v.2.1,0,none⟩) 2 v.2.2 (flatV PartM.cells U2)∧Kept (ownS (some ⟨v.2.1,0,none⟩)) wx w'):=by
 subst hkd hU
 rw[<-hl]at h1 h2 ⊢
 refine(saidPrep_upd (k.sn:Int) k.msk k.E 1 U (by omega) v.2.1 v.2.2 v.1 base true col wx (own_blk h1) h2).mono fun e w' h=>?_
 exact⟨h.1,h.2.1,h.2.2.mono fun y _ hy=>⟨_,rfl,hy⟩⟩
theorem said_C{k:OpC}{v:Nat×Nat×Nat}{col:Int}{U U2:List PartM}(hl:U.length=2)(hst:stateL U 2≠0)(hU:U.map (doneP col)=U2){base:Nat}{kd:Int}(hkd:kd=5)(wx:World)(h1:OwnR wx base 178 7 (some ⟨v.1,0,none⟩) 1 1 (updC (k.sn:Int) k.msk k.E 1 (.slice (some ⟨v.2.1,0,none⟩) 2 v.2.2) true))(h2:OwnR wx base 180 4 (some ⟨v.2.1,0,none⟩) 2 v.2.2 (flatV PartM.cells U)) :
  Calls Tryz.prog 123 #[.pointer (some ⟨v.1,0,none⟩),i6 col,i6 kd,i6 1] wx (fun e w'=>e=.returned (.tuple #[])∧OwnR w' base 180 4 (some ⟨v.2.1,0,none⟩) 2 v.2.2 (flatV PartM.cells U2)∧Kept (ownS (some ⟨v.2.1,0,none⟩)) wx w'):=by
 subst hkd hU
 rw[<-hl]at h1 h2 ⊢
 refine(saidComm_upd (k.sn:Int) k.msk k.E 1 U (by omega) v.2.1 v.2.2 v.1 base true col hst wx (own_blk h1) h2).mono fun e w' h=>?_
 exact⟨h.1,h.2.1,h.2.2.mono fun y _ hy=>⟨_,rfl,hy⟩⟩
theorem pU_open{k:OpC}(hk:OpOk k)(a b c d:Bool):(k.pU a b c d).map (openP (k.cn:Int))=k.pU true b c d∧(k.pU a b c d).map (openP ((k.n-1:Nat):Int))=k.pU a true c d:=by
 have h:=hk.hcn
 unfold OpC.pU
 rw[last_cast hk]
 constructor
 ·simp[openP,show ¬((k.n-1:Nat):Int)=(k.cn:Int)by omega]
 ·simp[openP,show ¬(k.cn:Int)=((k.n-1:Nat):Int)by omega]
theorem pU_done{k:OpC}(hk:OpOk k)(a b c d:Bool):(k.pU a b c d).map (doneP (k.cn:Int))=k.pU a b true d∧(k.pU a b c d).map (doneP ((k.n-1:Nat):Int))=k.pU a b c true:=by
 have h:=hk.hcn
 unfold OpC.pU
 rw[last_cast hk]
 constructor
 ·simp[doneP,show ¬((k.n-1:Nat):Int)=(k.cn:Int)by omega]
 ·simp[doneP,show ¬(k.cn:Int)=((k.n-1:Nat):Int)by omega]
theorem work_comm{k:OpC}(hk:OpOk k){g gx:Nat×Nat}{v:Nat×Nat×Nat}{lb:Nat}{wx:World}(hX:PilX wx k.B0 k.pb { k.xU g gx v with lb:=lb } ⟨k.frm,k.last+1+(k.n:Int)+2+2,[]⟩ [])(hg:k.gU v (k.pU true true false false) wx)(hb:k.B0<=wx.heap.size) :
  Calls Tryz.prog 89 #[.pointer (some ⟨k.pb,0,none⟩),i6 k.now] wx (fun e w'=>e=.returned (.tuple #[])∧(PilX w' k.B0 k.pb { k.xU g gx v with lb:=lb } (k.cC 0) k.lsC∧k.gU v (k.pU true true false false) w')∧Kept (PilT [141,178] k.B0 lb k.pb k.x0.cb wx) wx w'):=by
 have h0:=hk.hn
 have h2:=hk.hnow
 have h3:=hk.hlast
 have hcn:=hk.hcn
 have hq:=pilX_enterUpdate { k.xU g gx v with lb:=lb } ⟨k.frm,k.last+1+(k.n:Int)+2+2,[]⟩ [] k.pb k.B0 (k.pU true true false false) (commQ (k.sn:Int) k.E 1) (fun _=>rfl) v.1 v.2.1 v.2.2 k.msk k.E 1 true k.now (k.geo hk) (k.sng hk) (fun p hp=>by
  have h4:k.x0.N=_:=hk.xN
  show 0<=p.col∧p.col<k.x0.N
  simp only[OpC.pU,List.mem_cons,List.not_mem_nil,or_false]at hp
  rcases hp with rfl|rfl<;>dsimp only<;>omega) (by show 2<=6; omega) (by omega) (by show 0<=k.last+1+(k.n:Int)+2+2∧k.last+1+(k.n:Int)+2+2+6<_; omega) (by simp) (fun wy h1 h2 hby=>comm_own (k.sn:Int) k.msk k.E 1 (k.pU true true false false) (by show 0<2∧2<=8; omega) v.2.1 v.2.2 v.1 k.B0 true (fun p hp=>by
  simp only[OpC.pU,List.mem_cons,List.not_mem_nil,or_false]at hp
  rcases hp with rfl|rfl<;>exact⟨rfl,rfl⟩) wy h1 h2 hby) wx hX hg.1 hg.2 hb
 refine hq.mono fun e w' h=>?_
 obtain⟨q1,q2,q3,q4,q5⟩:=h
 refine⟨q1,⟨?_,q3,q4⟩,q5⟩
 have q6:PilX w' k.B0 k.pb { k.xU g gx v with lb:=lb } (cmA ⟨k.frm,k.last+1+(k.n:Int)+2+2,[]⟩ k.now (updP (commQ (k.sn:Int) k.E 1) k.x0.N (k.sn:Int) (k.pU true true false false))) ([]++onesA k.now (k.last+1+(k.n:Int)+2+2) (updP (commQ (k.sn:Int) k.E 1) k.x0.N (k.sn:Int) (k.pU true true false false))):=q2
 unfold cmA at q6
 rw[lsC_eq hk _ rfl]at q6
 exact q6
inductive Ph where
 |lea|fen (i:Nat)|rd0|rd1|rw0|rw1|pr0|pr1|co0|co1|fin
def OpC.rest(k:OpC):Nat:=if k.kd=1 then 2 else if k.kd=2 then 6 else 0
def OpC.Rend(k:OpC):Nat->RecM:=if k.kd=2 then k.RU (k.dn k.cn k.da) (k.dn (k.n-1) k.par)else k.fen
def OpC.lvE(k:OpC):Nat->LeaC:=if k.kd=2 then k.lvU else k.lvW
def OpC.dtE(k:OpC):ByteArray:=if k.kd=1 then k.blk (k.nd k.cn)else⟨#[]⟩
structure OpOk2(k:OpC):Prop extends OpOk k where
 hkd:k.kd=1∨k.kd=2∨k.kd=3
 hda:k.kd=2->k.da.size=16
def Ph.ok(k:OpC):Ph->Prop
 |.fen i=>i<k.n
 |.rd0|.rd1=>k.kd=1
 |.rw0|.rw1|.pr0|.pr1|.co0|.co1=>k.kd=2
 |_=>True
def Ph.ms(k:OpC):Ph->Nat
 |.lea=>1+k.n+k.rest
 |.fen i=>k.n-i+k.rest
 |.rd0=>2|.rd1=>1|.rw0=>6|.rw1=>5|.pr0=>4|.pr1=>3|.co0=>2|.co1=>1|.fin=>0
def Ph.ls(k:OpC):Ph->List OneM
 |.lea=>[k.oL]
 |.fen i=>k.lsF.drop i
 |.rd0=>k.lsR
 |.rd1=>[k.oA 3 ((k.cn+1)%k.n) 1]
 |.rw0=>k.lsQ
 |.rw1=>[k.oA 2 (k.n-1) 1]
 |.pr0=>k.lsP
 |.pr1=>[k.oP (k.n-1) k.par 1]
 |.co0=>k.lsC
 |.co1=>[k.oC (k.n-1) 1]
 |.fin=>[]
def Ph.sy(k:OpC):Ph->SayR
 |.lea=>k.syL
 |.fen i=>k.syF i
 |.rd0|.rw0=>⟨1,k.E,0,k.fen (k.nd k.cn)⟩
 |.rw1=>⟨1,k.E,0,k.fen (k.nd (k.n-1))⟩
 |_=>⟨1,k.E,0,recZ⟩
def Ph.RB(k:OpC):Ph->Nat->RecM
 |.lea=>fun m=>k.s0.recs m k.sn
 |.fen i=>k.RF i
 |.rd0|.rd1|.rw0|.rw1=>k.fen
 |.pr0=>k.RU (k.fen (k.nd k.cn)) (k.fen (k.nd (k.n-1)))
 |.pr1=>k.RU (k.opn k.cn k.da) (k.fen (k.nd (k.n-1)))
 |.co0=>k.RU (k.opn k.cn k.da) (k.opn (k.n-1) k.par)
 |.co1=>k.RU (k.dn k.cn k.da) (k.opn (k.n-1) k.par)
 |.fin=>k.Rend
def Ph.RA(k:OpC):Ph->Nat->RecM
 |.lea=>fun m=>k.s0.recs m k.sn
 |.fen i=>k.RF (i+1)
 |.rd0|.rd1|.rw0|.rw1=>k.fen
 |.pr0=>k.RU (k.opn k.cn k.da) (k.fen (k.nd (k.n-1)))
 |.pr1=>k.RU (k.opn k.cn k.da) (k.opn (k.n-1) k.par)
 |.co0=>k.RU (k.dn k.cn k.da) (k.opn (k.n-1) k.par)
 |.co1=>k.RU (k.dn k.cn k.da) (k.dn (k.n-1) k.par)
 |.fin=>k.Rend
def Ph.sim(k:OpC)(W:World):Ph->Prop
 |.lea=>SimAt W k.b k.s0
 |p=>SimQ k (p.RB k) W
def Ph.pil(k:OpC)(W:World):Ph->Prop
 |.lea=>PilS W k.B0 k.pb k.xL k.cL
 |.fen i=>∃g,PilS W k.B0 k.pb (k.xF g) (k.cF i)∧k.gF i g W
 |.rd0=>∃g gx,PilS W k.B0 k.pb (k.xR g gx noB) (k.cR 0)∧k.gR gx W
 |.rd1=>∃g gx,PilS W k.B0 k.pb (k.xR g gx (blS noB k.cn (k.blk (k.nd k.cn)))) (k.cR 1)∧k.gR gx W
 |.rw0=>∃g gx,PilS W k.B0 k.pb (k.xQ g gx noB) (k.cQ 0)∧k.gQ gx W
 |.rw1=>∃g gx,PilS W k.B0 k.pb (k.xQ g gx (blS noB k.cn (k.blk (k.nd k.cn)))) (k.cQ 1)∧k.gQ gx W
 |.pr0=>∃g gx v,PilS W k.B0 k.pb (k.xU g gx v) (k.cP 0)∧k.gU v (k.pU false false false false) W
 |.pr1=>∃g gx v,PilS W k.B0 k.pb (k.xU g gx v) (k.cP 1)∧k.gU v (k.pU true false false false) W
 |.co0=>∃g gx v,PilS W k.B0 k.pb (k.xU g gx v) (k.cC 0)∧k.gU v (k.pU true true false false) W
 |.co1=>∃g gx v,PilS W k.B0 k.pb (k.xU g gx v) (k.cC 1)∧k.gU v (k.pU true true true false) W
 |.fin=>PilS W k.B0 k.pb (k.xI k.lvE k.dtE) (k.cI (k.rest:Int))∧∀base',PartyX 124 141 W base' k.x0.cb (k.cI (k.rest:Int))
theorem nd_ne{k:OpC}(hk:OpOk k):k.nd k.cn≠k.nd (k.n-1):=fun h=>by
 have h1:=hk.hcn
 have h2:=hk.hn
 have:=nd_inj hk (by omega) (by omega) h
 omega
theorem RU_1{k:OpC}(a a' b:RecM)(m:Nat):k.RU a' b m=if m=k.nd k.cn then a' else k.RU a b m:=by
 unfold OpC.RU
 split<;>rfl
theorem RU_2{k:OpC}(hk:OpOk k)(a b b':RecM)(m:Nat):k.RU a b' m=if m=k.nd (k.n-1)then b' else k.RU a b m:=by
 unfold OpC.RU
 by_cases e:m=k.nd k.cn
 ·subst e
  simp[nd_ne hk]
 ·simp only[if_neg e]
  split<;>rfl
theorem blk_size{k:OpC}(hk:OpOk k)(c:Nat):(k.blk (k.nd c)).size=16:=by
 obtain⟨F,d,q,B,hr,_,_,_,hB⟩:=hk.hrec _ (k.nd_lt hk c)
 unfold OpC.blk
 rw[hr]
 exact hB
theorem par_size{k:OpC}(hk:OpOk2 k)(h2:k.kd=2):k.par.size=16:=by
 have h1:∀{s:ByteArray},s.size=16->(intsOf s).length=16:=fun h=>by rw[intsOf_size h]; simp
 have e1:=h1 (blk_size hk.toOpOk (k.n-1))
 have e2:=h1 (blk_size hk.toOpOk k.cn)
 have e3:=h1 (hk.hda h2)
 unfold OpC.par
 have e4:(xorI (intsOf (k.blk (k.nd (k.n-1)))) (intsOf (k.blk (k.nd k.cn)))).length=16:=by rw[xorI_len (by rw[e1,e2]),e1]
 have e5:=xorI_len (a:=xorI (intsOf (k.blk (k.nd (k.n-1)))) (intsOf (k.blk (k.nd k.cn)))) (b:=intsOf k.da) (by rw[e4,e3])
 show(u8s _).toArray.size=16
 rw[List.size_toArray]
 simp only[u8s,List.length_map]
 rw[e5,e4]
theorem op_ans{k:OpC}(hk:OpOk2 k){p:Ph}(hp:p.ok k){o:OneM}{ls:List OneM}(hl:p.ls k=o::ls){W:World}(hs:p.sim k W)(hb:k.b<=W.heap.size) :
  ∃sy:SayR,sy=p.sy k∧(let frm:=k.frm; Calls Tryz.prog 18 #[.pointer (some ⟨k.s0.sb,0,none⟩),i6 k.now,.agg #[i6 frm,i6 o.to,i6 o.id,.bool false,i6 o.q.kind,i6 o.q.stripe,i6 o.q.epoch,i6 o.q.seq,i6 o.q.mask,i6 o.q.node,i6 o.q.oe,i6 o.q.os,sT o.q.block,i6 0,i6 0,i6 0,.bool false,i6 0,i6 0,i6 0,sT ⟨#[]⟩,.bool false,i6 0,i6 0,i6 0,sT ⟨#[]⟩]] W (fun e w'=>e=.returned (.tuple #[.agg #[i6 o.to,i6 frm,i6 o.id,.bool true,i6 0,i6 0,i6 0,i6 0,i6 0,i6 0,i6 0,i6 0,sT ⟨#[]⟩,i6 sy.st,i6 sy.ep,i6 sy.ou,.bool sy.rc.used,i6 sy.rc.fence,i6 sy.rc.de,i6 sy.rc.ds,sT sy.rc.block,.bool sy.rc.op,i6 sy.rc.ie,i6 sy.rc.is,i6 sy.rc.mask,sT sy.rc.staged],.bool true])∧SimQ k (p.RA k) w'∧(Kept (TysIn [61] W) W w'∨Kept (TysIn [73,3,63] W) W w')∧Kept (fun y=>k.lo<=y∧y<k.b) W w')):=by
 have hk1:=hk.toOpOk
 have hne:=nd_ne hk1
 refine⟨_,rfl,?_⟩
 cases p with
 |lea=>
  obtain⟨rfl,_⟩:=List.cons.inj hl
  exact(ans_lease hk1 hs hb _ _ k.frm rfl rfl rfl).mono fun _ _ ⟨h1,h2,h3,h4⟩=>⟨h1,h2,.inr h3,h4⟩
 |fen i=>
  have hi:i<k.n:=hp
  have e:k.lsF.drop i=o::ls:=hl
  rw[k.lsF_drop hi]at e
  obtain⟨rfl,_⟩:=List.cons.inj e
  exact(ans_fence hk1 hi hs hb _ _ k.frm rfl rfl).mono fun _ _ ⟨h1,h2,h3,h4⟩=>⟨h1,h2,.inl h3,h4⟩
 |rd0|rw0=>
  obtain⟨rfl,_⟩:=List.cons.inj hl
  exact(ans_read hk1 hs hb _ _ k.frm rfl rfl).mono fun _ _ ⟨h1,h2,h3,h4⟩=>⟨h1,h2,.inl h3,h4⟩
 |rw1=>
  obtain⟨rfl,_⟩:=List.cons.inj hl
  exact(ans_read hk1 hs hb _ _ k.frm rfl rfl).mono fun _ _ ⟨h1,h2,h3,h4⟩=>⟨h1,h2,.inl h3,h4⟩
 |rd1=>
  obtain⟨rfl,_⟩:=List.cons.inj hl
  exact(ans_check hk1 hs hb _ _ k.frm rfl rfl).mono fun _ _ ⟨h1,h2,h3,h4⟩=>⟨h1,h2,.inl h3,h4⟩
 |pr0=>
  obtain⟨rfl,_⟩:=List.cons.inj hl
  exact(ans_prep hk1 (c:=k.cn) (R':=Ph.RA k .pr0) (hk.hda hp) (by simp[OpC.RU]) (fun m _=>RU_1 ..) hs hb _ _ k.frm rfl rfl).mono fun _ _ ⟨h1,h2,h3,h4⟩=>⟨h1,h2,.inl h3,h4⟩
 |pr1=>
  obtain⟨rfl,_⟩:=List.cons.inj hl
  exact(ans_prep hk1 (c:=k.n-1) (R':=Ph.RA k .pr1) (par_size hk hp) (by simp[OpC.RU,hne.symm]) (fun m _=>RU_2 hk1 ..) hs hb _ _ k.frm rfl rfl).mono fun _ _ ⟨h1,h2,h3,h4⟩=>⟨h1,h2,.inl h3,h4⟩
 |co0=>
  obtain⟨rfl,_⟩:=List.cons.inj hl
  exact(ans_comm hk1 (c:=k.cn) (R':=Ph.RA k .co0) (hk.hda hp) (by simp[OpC.RU]) (fun m _=>RU_1 ..) hs hb _ _ k.frm rfl rfl).mono fun _ _ ⟨h1,h2,h3,h4⟩=>⟨h1,h2,.inl h3,h4⟩
 |co1=>
  obtain⟨rfl,_⟩:=List.cons.inj hl
  exact(ans_comm hk1 (c:=k.n-1) (R':=Ph.RA k .co1) (par_size hk hp) (by simp[OpC.RU,hne.symm]) (fun m _=>RU_2 hk1 ..) hs hb _ _ k.frm rfl rfl).mono fun _ _ ⟨h1,h2,h3,h4⟩=>⟨h1,h2,.inl h3,h4⟩
 |fin=>cases hl
end Go.Proofs.YtcmpkkapkdlfhaaGreat
