import Derived.Test.YtcmpkkapkdlfhaaGreatPil13
namespace Go.Proofs.YtcmpkkapkdlfhaaGreat
open Go.RowKit
theorem node_fin:∀n,n<7->3<=n->∀s,s<8->∀c,c<n->((c+s)%n+n-s%n)%n=c:=by decide
theorem node_cast(c s n:Nat):((c:Int)+(s:Int))%(n:Int)=(((c+s)%n:Nat):Int):=by simp
theorem col_back{k:OpC}(hk:OpOk k){c:Nat}(hc:c<k.n):((((c+k.sn)%k.n:Nat):Int)+k.x0.N-(k.sn:Int)%k.x0.N)%k.x0.N=(c:Int):=by
 have h0:=hk.hn
 rw[hk.xN,col_cast (by omega),node_fin k.n (by omega) (by omega) k.sn (by have:=hk.hS; have:=hk.hsn; omega) c hc]
def OpC.nd(k:OpC)(c:Nat):Nat:=(c+k.sn)%k.n
theorem OpC.nd_lt{k:OpC}(hk:OpOk k)(c:Nat):k.nd c<k.n:=Nat.mod_lt _ (by have:=hk.hn; omega)
def OpC.blk(k:OpC)(m:Nat):ByteArray:=(k.s0.recs m k.sn).block
def OpC.oA(k:OpC)(kd:Int)(c j:Nat):OneM:=⟨(k.nd c:Int),k.last+1+(k.n:Int)+(j:Int)+1,phaseQ kd (k.sn:Int) k.E,k.now,k.now⟩
theorem ans_read{k:OpC}(hk:OpOk k){c j:Nat}{W:World}(hW:SimQ k k.fen W)(hb:k.b<=W.heap.size)(o:OneM)(sy:SayR)(frm:Int)(ho:o=k.oA 2 c j)(hsy:sy=⟨1,k.E,0,k.fen (k.nd c)⟩) :
  Calls Tryz.prog 18 #[.pointer (some ⟨k.s0.sb,0,none⟩),i6 k.now,.agg #[i6 frm,i6 o.to,i6 o.id,.bool false,i6 o.q.kind,i6 o.q.stripe,i6 o.q.epoch,i6 o.q.seq,i6 o.q.mask,i6 o.q.node,i6 o.q.oe,i6 o.q.os,sT o.q.block,i6 0,i6 0,i6 0,.bool false,i6 0,i6 0,i6 0,sT ⟨#[]⟩,.bool false,i6 0,i6 0,i6 0,sT ⟨#[]⟩]] W (fun e w'=>e=.returned (.tuple #[.agg #[i6 o.to,i6 frm,i6 o.id,.bool true,i6 0,i6 0,i6 0,i6 0,i6 0,i6 0,i6 0,i6 0,sT ⟨#[]⟩,i6 sy.st,i6 sy.ep,i6 sy.ou,.bool sy.rc.used,i6 sy.rc.fence,i6 sy.rc.de,i6 sy.rc.ds,sT sy.rc.block,.bool sy.rc.op,i6 sy.rc.ie,i6 sy.rc.is,i6 sy.rc.mask,sT sy.rc.staged],.bool true])∧SimQ k k.fen w'∧Kept (TysIn [61] W) W w'∧Kept (fun y=>k.lo<=y∧y<k.b) W w'):=by
 subst ho hsy
 have hi:=k.nd_lt hk c
 obtain⟨F,d,q,B,hr,hF,hd,hq,hB⟩:=hk.hrec _ hi
 have h1:=hk.hE
 refine simQ_ans hk hi (r':=k.fen (k.nd c)) rfl rfl (fun j _=>?_) (fun wx=>?_) hW hb frm k.now
 ·by_cases e:j=k.nd c
  ·rw[if_pos e,e]
  ·rw[if_neg e]
 ·have e2:k.fen (k.nd c)=⟨true,k.E,d,q,B,false,0,0,0,⟨#[]⟩⟩:=by unfold OpC.fen; rw[hr]
  rw[e2]
  exact apply_read k.E d q (k.sn:Int) k.E B (by omega) (by omega) hq hB (by have:=hk.hS; have:=hk.hsn; omega) (by omega) rfl (by omega) wx
theorem ans_check{k:OpC}(hk:OpOk k){c j:Nat}{W:World}(hW:SimQ k k.fen W)(hb:k.b<=W.heap.size)(o:OneM)(sy:SayR)(frm:Int)(ho:o=k.oA 3 c j)(hsy:sy=⟨1,k.E,0,recZ⟩) :
  Calls Tryz.prog 18 #[.pointer (some ⟨k.s0.sb,0,none⟩),i6 k.now,.agg #[i6 frm,i6 o.to,i6 o.id,.bool false,i6 o.q.kind,i6 o.q.stripe,i6 o.q.epoch,i6 o.q.seq,i6 o.q.mask,i6 o.q.node,i6 o.q.oe,i6 o.q.os,sT o.q.block,i6 0,i6 0,i6 0,.bool false,i6 0,i6 0,i6 0,sT ⟨#[]⟩,.bool false,i6 0,i6 0,i6 0,sT ⟨#[]⟩]] W (fun e w'=>e=.returned (.tuple #[.agg #[i6 o.to,i6 frm,i6 o.id,.bool true,i6 0,i6 0,i6 0,i6 0,i6 0,i6 0,i6 0,i6 0,sT ⟨#[]⟩,i6 sy.st,i6 sy.ep,i6 sy.ou,.bool sy.rc.used,i6 sy.rc.fence,i6 sy.rc.de,i6 sy.rc.ds,sT sy.rc.block,.bool sy.rc.op,i6 sy.rc.ie,i6 sy.rc.is,i6 sy.rc.mask,sT sy.rc.staged],.bool true])∧SimQ k k.fen w'∧Kept (TysIn [61] W) W w'∧Kept (fun y=>k.lo<=y∧y<k.b) W w'):=by
 subst ho hsy
 have hi:=k.nd_lt hk c
 obtain⟨F,d,q,B,hr,hF,hd,hq,hB⟩:=hk.hrec _ hi
 have h1:=hk.hE
 refine simQ_ans hk hi (r':=k.fen (k.nd c)) rfl rfl (fun j _=>?_) (fun wx=>?_) hW hb frm k.now
 ·by_cases e:j=k.nd c
  ·rw[if_pos e,e]
  ·rw[if_neg e]
 ·have e2:k.fen (k.nd c)=⟨true,k.E,d,q,B,false,0,0,0,⟨#[]⟩⟩:=by unfold OpC.fen; rw[hr]
  rw[e2]
  exact apply_check k.E d q (k.sn:Int) k.E B (by omega) (by omega) hq hB (by have:=hk.hS; have:=hk.hsn; omega) (by omega) rfl (by omega) wx
def OpC.xI(k:OpC)(lv:Nat->LeaC)(dt:ByteArray):PilC:=({ k.x0 with lv:=lv }).ended 0 dt
def OpC.cI(k:OpC)(m:Int):CM:=⟨k.frm,k.last+1+(k.n:Int)+m,[]⟩
theorem OpC.geo{k:OpC}(hk:OpOk k):3<=k.x0.N∧k.x0.N<=6∧1<=k.x0.S∧k.x0.S<=8:=by
 have h0:=hk.hn
 have h1:=hk.hS
 rw[hk.xN,hk.xS]
 omega
theorem OpC.sng{k:OpC}(hk:OpOk k):0<=(k.sn:Int)∧(k.sn:Int)<k.x0.S:=by
 have h1:=hk.hsn
 rw[hk.xS]
 omega
theorem OpC.cng{k:OpC}(hk:OpOk k):0<=(k.cn:Int)∧(k.cn:Int)<k.x0.N-1:=by
 have h0:=hk.hn
 have h1:=hk.hcn
 rw[hk.xN]
 omega
theorem xW_kd{k:OpC}{v:Int}(h:k.kd=v)(g:Nat×Nat)(lb:Nat):({ k.xW g with lb:=lb }:PilC)={ { k.xW g with lb:=lb }with kd:=v,ou:=-1 }:=by
 subst h
 rfl
theorem work_reb{k:OpC}(hk:OpOk k)(h3:k.kd=3){g:Nat×Nat}{lb:Nat}{wx:World}(hX:PilX wx k.B0 k.pb { k.xW g with lb:=lb } k.cW [])(hb:k.B0<=wx.heap.size) :
  Calls Tryz.prog 32 #[.pointer (some ⟨k.pb,0,none⟩),i6 k.now] wx (fun e w'=>e=.returned (.tuple #[])∧PilX w' k.B0 k.pb { k.xI k.lvW ⟨#[]⟩with lb:=lb } (k.cI 0) []∧(∀base',PartyX 124 141 w' base' k.x0.cb (k.cI 0))∧Kept (PilT [141] k.B0 lb k.pb k.x0.cb wx) wx w'):=by
 have e:=xW_kd h3 g lb
 rw[e]at hX
 have ec:k.cI 0=k.cW:=by unfold OpC.cI OpC.cW; rw[Int.add_zero]
 rw[ec]
 exact pilX_workReb { k.xW g with lb:=lb } k.cW [] k.pb k.B0 k.now (k.geo hk) (k.sng hk) hk.hed wx hX hb
def OpC.xR(k:OpC)(g:Nat×Nat)(gx:Nat)(bl:Nat->ByteArray):PilC:={ k.xW g with kd:=1,ou:=-1,nx:=.func (.func 84) #[.pointer (some ⟨k.pb,0,none⟩)] #[],lg:=false,rd:=.slice (some ⟨gx,0,none⟩) 1 1,bl:=bl }
def OpC.lsR(k:OpC):List OneM:=[k.oA 2 k.cn 0,k.oA 3 ((k.cn+1)%k.n) 1]
def OpC.cR(k:OpC)(j:Nat):CM:=⟨k.frm,k.last+1+(k.n:Int)+2,k.lsR.drop j⟩
def OpC.gR(k:OpC)(gx:Nat)(W:World):Prop:=OwnR W k.B0 3 1 (some ⟨gx,0,none⟩) 1 1 (flatV intC [(k.cn:Int)])
theorem OpC.gR_stb(k:OpC)(gx:Nat):StbG (k.gR gx):=fun w w' T es h hk hT he=>by
 refine OwnR.keptT h hk hT ?_
 cases h6:es.contains 3 with
 |false=>rfl
 |true=>
  have h7:=List.all_eq_true.1 he 3 (by simpa using h6)
  cases h7
theorem lsR_eq{k:OpC}(hk:OpOk k):onesA k.now k.cW.last ((colsP 2 k.x0.N (k.sn:Int) k.E [(k.cn:Int)])++(colsP 3 k.x0.N (k.sn:Int) k.E [((k.cn:Int)+1)%k.x0.N]))=k.lsR:=by
 rw[hk.xN]
 have e1:=node_cast k.cn k.sn k.n
 have e2:=node_cast ((k.cn+1)%k.n) k.sn k.n
 have e3:((k.cn:Int)+1)%(k.n:Int)=(((k.cn+1)%k.n:Nat):Int):=by simp
 simp only[colsP,List.map_cons,List.map_nil,List.cons_append,List.nil_append,onesA,OpC.lsR,OpC.oA,OpC.nd]
 rw[e3,e1,e2]
 simp[OpC.cW]
theorem cR_eq{k:OpC}(hk:OpOk k):cmA k.cW k.now ((colsP 2 k.x0.N (k.sn:Int) k.E [(k.cn:Int)])++(colsP 3 k.x0.N (k.sn:Int) k.E [((k.cn:Int)+1)%k.x0.N]))=k.cR 0:=by
 unfold cmA OpC.cR
 rw[lsR_eq hk]
 rfl
theorem work_read{k:OpC}(hk:OpOk k)(h3:k.kd=1){g:Nat×Nat}{lb:Nat}{wx:World}(hX:PilX wx k.B0 k.pb { k.xW g with lb:=lb } k.cW [])(hb:k.B0<=wx.heap.size) :
  Calls Tryz.prog 32 #[.pointer (some ⟨k.pb,0,none⟩),i6 k.now] wx (fun e w'=>e=.returned (.tuple #[])∧(∃gx,PilX w' k.B0 k.pb { k.xR g gx noB with lb:=lb } (k.cR 0) k.lsR∧k.gR gx w')∧Kept (PilT [141] k.B0 lb k.pb k.x0.cb wx) wx w'):=by
 have e:=xW_kd h3 g lb
 rw[e]at hX
 have h1:=hk.hnow
 have h2:=hk.hlast
 have h0:=hk.hn
 have hq:=pilX_workRead { k.xW g with lb:=lb } k.cW [] k.pb k.B0 k.now (k.geo hk) (k.sng hk) (k.cng hk) (by omega) (by show 0<=k.last+1+(k.n:Int)∧k.last+1+(k.n:Int)+6<_; omega) (by simp) wx hX hb
 refine hq.mono fun e w' h=>?_
 obtain⟨gx,q1,q2,q3,q4⟩:=h
 refine⟨q1,⟨gx,?_,q3⟩,q4⟩
 have q5:PilX w' k.B0 k.pb { k.xR g gx noB with lb:=lb } (cmA k.cW k.now ((colsP 2 k.x0.N (k.sn:Int) k.E [(k.cn:Int)])++(colsP 3 k.x0.N (k.sn:Int) k.E [((k.cn:Int)+1)%k.x0.N]))) ([]++onesA k.now k.cW.last ((colsP 2 k.x0.N (k.sn:Int) k.E [(k.cn:Int)])++(colsP 3 k.x0.N (k.sn:Int) k.E [((k.cn:Int)+1)%k.x0.N]))):=q2
 rwa [cR_eq hk,lsR_eq hk]at q5
theorem recv_read0{k:OpC}(hk:OpOk k){g:Nat×Nat}{gx:Nat}{W:World}(hS:PilS W k.B0 k.pb (k.xR g gx noB) (k.cR 0))(hg:k.gR gx W)(hb:k.B0<=W.heap.size)(o:OneM)(sy:SayR)(frm:Int)(ho:o=k.oA 2 k.cn 0)(hsy:sy=⟨1,k.E,0,k.fen (k.nd k.cn)⟩)(hfrm:frm=k.frm) :
  Calls Tryz.prog 19 #[.pointer (some ⟨k.pb,0,none⟩),i6 k.now,.agg #[i6 o.to,i6 frm,i6 o.id,.bool true,i6 0,i6 0,i6 0,i6 0,i6 0,i6 0,i6 0,i6 0,sT ⟨#[]⟩,i6 sy.st,i6 sy.ep,i6 sy.ou,.bool sy.rc.used,i6 sy.rc.fence,i6 sy.rc.de,i6 sy.rc.ds,sT sy.rc.block,.bool sy.rc.op,i6 sy.rc.ie,i6 sy.rc.is,i6 sy.rc.mask,sT sy.rc.staged]] W (fun e w'=>∃A ca,e=.returned (.slice A ([]:List OneM).length ca)∧OwnR w' W.heap.size 65 26 A ([]:List OneM).length ca (lettersC k.frm [])∧PilS w' k.B0 k.pb (k.xR g gx (blS noB k.cn (k.blk (k.nd k.cn)))) (k.cR 1)∧k.gR gx w'∧Kept (PilT [141] k.B0 W.heap.size k.pb k.x0.cb W) W w'∧Kept (LawT W) W w'):=by
 subst ho hsy hfrm
 have hi:=k.nd_lt hk k.cn
 obtain⟨F,d,q,B,hr,hF,hd,hq,hB⟩:=hk.hrec _ hi
 have e2:k.fen (k.nd k.cn)=⟨true,k.E,d,q,B,false,0,0,0,⟨#[]⟩⟩:=by unfold OpC.fen; rw[hr]
 have e3:k.blk (k.nd k.cn)=B:=by unfold OpC.blk; rw[hr]
 have h0:=hk.hn
 have h1:=hk.hE
 have h2:=hk.hnow
 have h3:=hk.hlast
 have h4:=hk.hcn
 have hwn:=within_id (n:=k.now) (by omega)
 rw[e2,e3]
 refine(recv_any (x:=k.xR g gx noB) (c:=k.cR 0) (α:=Unit) (fun _=>k.xR g gx (blS noB k.cn B)) (fun _=>k.cR 1) (fun _=>[]) (fun _=>k.gR gx) [141] rfl rfl (k.gR gx) (k.gR_stb gx) (fun _=>(k.gR_stb gx).s) (fun _=>rfl) 84 (.inr (.inr (.inl rfl))) [k.oA 3 ((k.cn+1)%k.n) 1] (k.oA 2 k.cn 0) _ k.now hS rfl rfl rfl (.inl ⟨by show(0:Int)<=(k.nd k.cn:Int); omega,by show(k.nd k.cn:Int)<6; omega⟩) hk.hfrm (by show 1<=k.last+1+(k.n:Int)+((0:Nat):Int)+1∧k.last+1+(k.n:Int)+((0:Nat):Int)+1<=_; omega) (sayOk_1 (by omega) (by omega) (okB_rec (by omega) (by omega) hq hB)) hb hg (fun wx hX hgx hbx=>?_)).mono fun _ _ ⟨_,A,ca,h⟩=>⟨A,ca,h⟩
 rw[hwn]
 refine pilX_onReadR { k.xR g gx noB with lb:=W.heap.size } { k.cR 0 with opn:=[k.oA 3 ((k.cn+1)%k.n) 1] } [] k.pb k.B0 _ (by rintro w1 w2 ⟨a,q1,q2⟩ hk; exact⟨a,q1.kept0 hk,(k.gR_stb gx).kept0 q2 hk⟩) (blS noB k.cn B) gx k.now (k.nd k.cn:Int) 1 k.E 0 (k.oA 2 k.cn 0).q ⟨true,k.E,d,q,B,false,0,0,0,⟨#[]⟩⟩ (k.geo hk) (k.sng hk) (k.cng hk) (by show(blS noB k.cn B (Int.toNat (k.cn:Int))).size=16; rw[Int.toNat_natCast]; simp[blS,hB]) hk.hed (fun wy hY=>?_) (fun _ wy hY hR=>⟨(),hY,hR⟩) (fun hz=>by simp at hz) wx hX hgx hbx
 exact pilX_tookRead { k.xR g gx noB with lb:=W.heap.size } { k.cR 0 with opn:=[k.oA 3 ((k.cn+1)%k.n) 1] } [] k.pb k.B0 k.cn k.now (k.nd k.cn:Int) k.E 0 (k.oA 2 k.cn 0).q ⟨true,k.E,d,q,B,false,0,0,0,⟨#[]⟩⟩ (k.geo hk) (k.sng hk) (by omega) (by show 0<=(k.nd k.cn:Int)∧(k.nd k.cn:Int)<k.x0.N; rw[hk.xN]; omega) (col_back hk (by omega)) wy hY
theorem recv_read1{k:OpC}(hk:OpOk k){g:Nat×Nat}{gx:Nat}{B:ByteArray}(hB:B.size=16){W:World}(hS:PilS W k.B0 k.pb (k.xR g gx (blS noB k.cn B)) (k.cR 1))(hg:k.gR gx W)(hb:k.B0<=W.heap.size)(o:OneM)(sy:SayR)(frm:Int)(ho:o=k.oA 3 ((k.cn+1)%k.n) 1)(hsy:sy=⟨1,k.E,0,recZ⟩)(hfrm:frm=k.frm) :
  Calls Tryz.prog 19 #[.pointer (some ⟨k.pb,0,none⟩),i6 k.now,.agg #[i6 o.to,i6 frm,i6 o.id,.bool true,i6 0,i6 0,i6 0,i6 0,i6 0,i6 0,i6 0,i6 0,sT ⟨#[]⟩,i6 sy.st,i6 sy.ep,i6 sy.ou,.bool sy.rc.used,i6 sy.rc.fence,i6 sy.rc.de,i6 sy.rc.ds,sT sy.rc.block,.bool sy.rc.op,i6 sy.rc.ie,i6 sy.rc.is,i6 sy.rc.mask,sT sy.rc.staged]] W (fun e w'=>∃A ca,e=.returned (.slice A ([]:List OneM).length ca)∧OwnR w' W.heap.size 65 26 A ([]:List OneM).length ca (lettersC k.frm [])∧PilS w' k.B0 k.pb (k.xI k.lvW B) (k.cI 2)∧(∀base',PartyX 124 141 w' base' k.x0.cb (k.cI 2))∧Kept (PilT [141] k.B0 W.heap.size k.pb k.x0.cb W) W w'∧Kept (LawT W) W w'):=by
 subst ho hsy hfrm
 have hi:=k.nd_lt hk ((k.cn+1)%k.n)
 have h0:=hk.hn
 have h1:=hk.hE
 have h2:=hk.hnow
 have h3:=hk.hlast
 have hwn:=within_id (n:=k.now) (by omega)
 refine(recv_any (x:=k.xR g gx (blS noB k.cn B)) (c:=k.cR 1) (α:=Unit) (fun _=>k.xI k.lvW B) (fun _=>k.cI 2) (fun _=>[]) (fun _ W_=>∀base',PartyX 124 141 W_ base' k.x0.cb (k.cI 2)) [141] rfl rfl (k.gR gx) (k.gR_stb gx) (fun _=>stbS_party) (fun _=>rfl) 84 (.inr (.inr (.inl rfl))) [] (k.oA 3 ((k.cn+1)%k.n) 1) _ k.now hS rfl rfl rfl (.inl ⟨by show(0:Int)<=(k.nd ((k.cn+1)%k.n):Int); omega,by show(k.nd ((k.cn+1)%k.n):Int)<6; omega⟩) hk.hfrm (by show 1<=k.last+1+(k.n:Int)+((1:Nat):Int)+1∧k.last+1+(k.n:Int)+((1:Nat):Int)+1<=_; omega) (sayOk_1 (by omega) (by omega) rfl) hb hg (fun wx hX hgx hbx=>?_)).mono fun _ _ ⟨_,A,ca,h⟩=>⟨A,ca,h⟩
 rw[hwn]
 have hb1:blS noB k.cn B (Int.toNat (k.cn:Int))=B:=by rw[Int.toNat_natCast]; simp[blS]
 refine pilX_onReadR { k.xR g gx (blS noB k.cn B)with lb:=W.heap.size } { k.cR 1 with opn:=[] } [] k.pb k.B0 _ (by rintro w1 w2 ⟨a,q1,q2⟩ hk; exact⟨a,q1.kept0 hk,stbS_party.kept0 q2 hk⟩) (blS noB k.cn B) gx k.now (k.nd ((k.cn+1)%k.n):Int) 1 k.E 0 (k.oA 3 ((k.cn+1)%k.n) 1).q recZ (k.geo hk) (k.sng hk) (k.cng hk) (by show(blS noB k.cn B (Int.toNat (k.cn:Int))).size=16; rw[hb1,hB]) hk.hed (fun wy hY=>?_) (fun hz=>by simp at hz) (fun _ wy hY hP=>?_) wx hX hgx hbx
 ·exact pilX_tookCheck { k.xR g gx (blS noB k.cn B)with lb:=W.heap.size } { k.cR 1 with opn:=[] } [] k.pb k.B0 k.now (k.nd ((k.cn+1)%k.n):Int) k.E 0 (k.oA 3 ((k.cn+1)%k.n) 1).q recZ wy hY
 ·have hY2:PilX wy k.B0 k.pb { k.xI k.lvW (blS noB k.cn B (Int.toNat (k.cn:Int)))with lb:=W.heap.size } (k.cI 2) []:=hY
  rw[hb1]at hY2
  exact⟨(),hY2,hP⟩
end Go.Proofs.YtcmpkkapkdlfhaaGreat
namespace Go.Proofs.YtcmpkkapkdlfhaaGreat
open Go.RowKit
set_option maxHeartbeats 4000000
set_option maxRecDepth 100000
def xrt_n1:List Nat:=[1,1,0,1,0,0,1,1,0,0,1,1,0,0,1,1,0,0,1]
def XorTI(s:ByteArray)(L:List ByteArray)(gL:Nat)(cp:Nat)(c:Nat)(w:World)  (m:Nat) (st:St) (W0:World):Prop:=
 ∃(i:Nat)(X:List Int)(z:Nat),m+i=L.length∧X=xorsL (intsOf s) (L.take i)∧X.length=16∧Byts X∧FB W0 w.heap.size 5 X∧st=⟨[(4,sT ⟨#[]⟩),(5,.slice (some ⟨w.heap.size,0,none⟩) 16 c),(11,.slice (some ⟨gL,0,none⟩) L.length cp),(12,i6 ((L.length:Nat):Int)),(13,i6 (i:Int))],[],[],z⟩
def XorTJ(L:List ByteArray)(gL:Nat)(cp:Nat)(i:Nat)(c:Nat)(t:ByteArray)(X:List Int)(w:World)  (m:Nat) (st:St) (W0:World):Prop:=
 ∃(j:Nat)(z:Nat),m+j=16∧FB W0 w.heap.size 5 (xorP j X (intsOf t))∧st=⟨[(4,sT ⟨#[]⟩),(5,.slice (some ⟨w.heap.size,0,none⟩) 16 c),(7,sT t),(11,.slice (some ⟨gL,0,none⟩) L.length cp),(12,i6 ((L.length:Nat):Int)),(13,i6 (i:Int)),(18,i6 16),(19,i6 (j:Int))],[],[],z⟩
theorem xrt_q11(L:List ByteArray)(gL:Nat)(cp:Nat)(i:Nat)(j:Nat)(c:Nat)(t:ByteArray)(X:List Int)(w:World)(W3:World):Out.prune [4,5,7,11,12,13,18,19,29,30] (qList Tryz.prog 35 W3 (Turned []) ((opsOf (getCode (bodyOf Tryz.f122) xrt_n1)).toList.take 9) ⟨[(4,sT ⟨#[]⟩),(5,.slice (some ⟨w.heap.size,0,none⟩) 16 c),(7,sT t),(8,i6 (j:Int)),(11,.slice (some ⟨gL,0,none⟩) L.length cp),(12,i6 ((L.length:Nat):Int)),(13,i6 (i:Int)),(18,i6 16),(19,i6 (j:Int))],[],[⟨w.heap.size,0+j*1,[u6 (X[j]?.getD 0)]⟩],W3.heap.size⟩ [.op oh0,.op oh0,.op oh2,.op ⟨false,0,[⟨true,0,0,1⟩]⟩,.op oh0,.op oh0,.op oh2,.op oh2,.op oh2])=some ⟨[(0:Int)<=(j:Int)∧(j:Int)<((16:Nat):Int),(0:Int)<=(j:Int)∧(j:Int)<((t).size:Int),(0:Int)<=(X[j]?.getD 0)∧(0:Int)<=(byteAt t (Int.toNat (j:Int)))∧(X[j]?.getD 0)<=IntKind.max .u8∧(byteAt t (Int.toNat (j:Int)))<=IntKind.max .u8,(0:Int)<=(j:Int)∧(j:Int)<((16:Nat):Int)],dupR [(w.heap.size,0+j*1,1)],⟨[(4,sT ⟨#[]⟩),(5,.slice (some ⟨w.heap.size,0,none⟩) 16 c),(7,sT t),(11,.slice (some ⟨gL,0,none⟩) L.length cp),(12,i6 ((L.length:Nat):Int)),(13,i6 (i:Int)),(18,i6 16),(19,i6 (j:Int)),(29,u6 (xorZ (X[j]?.getD 0) (byteAt t (Int.toNat (j:Int))))),(30,.pointer (some ⟨w.heap.size,0+j*1,none⟩))],[],[⟨w.heap.size,0+j*1,[u6 (X[j]?.getD 0)]⟩],W3.heap.size⟩⟩:=by kernel_rfl
theorem together_any(s:ByteArray)(hs16:s.size=16)(L:List ByteArray)(hL:∀t∈L,t.size=16)(hll:L.length<=100)(gL cp:Nat)(w:World)(hgL:gL<w.heap.size)(hc:∀(j:Nat)(v:Value),(strsV L)[j]?=some v->w.cell? ⟨gL,0+j,none⟩=some v) :
  Calls Tryz.prog 122 #[sT s,.slice (some ⟨gL,0,none⟩) L.length cp] w (RetK (sT (bytesI (xorsL (intsOf s) L))) w):=by
 refine cH (S:=(fun _=>False)) (n:=35) Tryz.func122 (MemOk.none w _) ?_
 refine hgE 10 (dz 2 0) [1,4,9] [] [] [.ops [1,0] [1,2],.code [1,1]] ⟨[(1,.slice (some ⟨gL,0,none⟩) L.length cp),(4,sT ⟨#[]⟩),(9,sT s)],[],[],w.heap.size⟩ ?_
 refine holds_opW (w:=w) (S':=fun _=>False) (dst:=(some 10)) (x:=convert 9 34 (sT s)) (fun c=>.slice (some ⟨w.heap.size,0,none⟩) 16 c) (fun _ W=>FB W w.heap.size 5 (intsOf s)) (fun c=>[(10,.slice (some ⟨w.heap.size,0,none⟩) 16 c),(1,.slice (some ⟨gL,0,none⟩) L.length cp),(4,sT ⟨#[]⟩),(9,sT s)]) (by kernel_rfl) (by kernel_rfl) (fun _=>rfl) (fun wx hm=>?_) (fun c W1 hF1 hm1=>?_)
 ·obtain⟨c,w',h1,h2,h3⟩:=run_newBytes (P:=Tryz.prog) wx 9 34 5 s (by kernel_rfl) (by kernel_rfl) (by kernel_rfl)
  rw[hm.size,hs16]at h1
  rw[hm.size]at h2
  exact⟨c,w',h1,h2,(hm.same h3).2⟩
 refine hgE 13 (dz 4 0) [4,5,11,12,13] [] [] [.code [1,1,0,1,0],.blk 0,.code [1,1,1]] ⟨[(4,sT ⟨#[]⟩),(5,.slice (some ⟨w.heap.size,0,none⟩) 16 c),(11,.slice (some ⟨gL,0,none⟩) L.length cp),(12,i6 ((L.length:Nat):Int)),(13,i6 0)],[],[],W1.heap.size⟩ ?_
 refine holds_loopW (w:=w) (S':=fun _=>False) (XorTI s L gL cp c w) L.length (by kernel_rfl) (fun W0 hm=>⟨⟨0,intsOf s,_,by omega,rfl,by rw[length_intsOf,hs16],byts_intsOf s,hF1.kept hm.kept (fun⟨_,h,_⟩=>by cases h),rfl⟩,MemOk.bck hm1 hm⟩) ?_
 rintro m _ W2 ⟨i,X,z,hmi,hX,hX16,hXb,hF2,rfl⟩ hm2 J hJ
 by_cases h1:i<L.length
 rotate_left
 ·skip
  refine hgE 13 (dz 3 0) [4,33] [dF (((i:Int):Int)<((L.length:Nat):Int))] [] [.ops [1,1,1,0] [1,2],.code [1,1,1,1]] ⟨[(4,sT ⟨#[]⟩),(33,.slice (some ⟨w.heap.size,0,none⟩) 16 c)],[],[],W2.heap.size⟩ ?_
  refine holds_opR (dst:=(some 34)) (x:=convert 34 9 (.slice (some ⟨w.heap.size,0,none⟩) 16 c)) (sT (bytesI X)) (by kernel_rfl) (by kernel_rfl) rfl (fun wx hm=>?_) ?_
  ·exact run_bytesFB (P:=Tryz.prog) wx 34 9 5 _ _ _ 5 X (by kernel_rfl) (by kernel_rfl) (by kernel_rfl) (hF2.kept hm.kept (fun⟨_,h,_⟩=>by cases h)) hX16 hXb
  refine hgS 5 [oh0] [4] [] [] [.code [1,1,1,1]] [] [] W2.heap.size ?_
  refine hrt [] [sT (bytesI X)] [] ?_
  intro wx hm
  refine⟨?_,(MemOk.bck hm2 hm).kept⟩
  rw[hX,List.take_of_length_le (by omega)]
  rfl
 obtain⟨t,ht⟩:∃t,L[i]?=some t:=⟨_,List.getElem?_eq_getElem h1⟩
 have ht16:=hL t (List.mem_of_getElem? ht)
 have htl:(intsOf t).length=16:=by rw[length_intsOf,ht16]
 refine holds_wins [⟨gL,0+i*1,[sT t]⟩] (fun _ y hy=>?_) ?_
 ·simp only[List.mem_cons,List.not_mem_nil,or_false]at hy
  subst hy
  exact⟨(fun⟨_,h,_⟩=>by cases h),Nat.lt_of_lt_of_le hgL hm2.kept.size,fun j v hj=>cell_kept hm2.kept hgL (strs_cell hc ht j v hj)⟩
 refine hgE 25 [oh0,oh1,oh2,⟨false,0,[⟨true,0,0,1⟩]⟩,oh0,oh0,oh0,oh0] [4,5,7,11,12,13,18,19] [dT (((i:Int):Int)<((L.length:Nat):Int)),oE ((0:Int)<=(i:Int)∧(i:Int)<((L.length:Nat):Int))] [(gL,0+i*1,1)] [.code [1,1,0,1,0,0,1,1,0,0,1,1,0],.blk 2,.blk 1,.code [1,1,0,1,0,0,1,1,1],.inv J,.blk 0,.code [1,1,1]] ⟨[(4,sT ⟨#[]⟩),(5,.slice (some ⟨w.heap.size,0,none⟩) 16 c),(7,sT t),(11,.slice (some ⟨gL,0,none⟩) L.length cp),(12,i6 ((L.length:Nat):Int)),(13,i6 (i:Int)),(18,i6 16),(19,i6 0)],[],[⟨gL,0+i*1,[sT t]⟩],W2.heap.size⟩ ?_
 refine holds_wins [] (fun _ _ h=>by cases h) ?_
 refine holds_loopW (w:=w) (S':=fun _=>False) (XorTJ L gL cp i c t X w) 16 (by kernel_rfl) (fun W0 hm=>⟨⟨0,_,rfl,by rw[xorP_zero]; exact hF2.kept hm.kept (fun⟨_,h,_⟩=>by cases h),rfl⟩,MemOk.bck hm2 hm⟩) ?_
 rintro m2 _ W3 ⟨j,z,hmj,hF3,rfl⟩ hm3 J2 hJ2
 by_cases h2:j<16
 rotate_left
 ·skip
  refine hgE 15 (dz 4 512) [4,5,11,12,13] [dF (((j:Int):Int)<16),n64 (((i:Int)+1))] [] [.inv J,.blk 0,.code [1,1,1]] ⟨[(4,sT ⟨#[]⟩),(5,.slice (some ⟨w.heap.size,0,none⟩) 16 c),(11,.slice (some ⟨gL,0,none⟩) L.length cp),(12,i6 ((L.length:Nat):Int)),(13,i6 ((i:Int)+1))],[],[],W3.heap.size⟩ ?_
  rw[<-cast_succ i]
  have hj16:j=16:=by omega
  subst hj16
  intro a_ w9 hf hm
  exact hJ (m-1) _ a_ w9 (by omega) ⟨i+1,xorI X (intsOf t),_,by omega,by rw[xorsL_snoc _ _ ht,hX],by rw[xorI_len (hX16.trans htl.symm),hX16],byts_xorI hXb (byts_intsOf t),by have h:=hF3.kept hm.kept (fun⟨_,h,_⟩=>by cases h); rwa [xorP_all hX16 htl]at h,rfl⟩ hf (MemOk.bck hm3 hm)
 have hbd:=getD_byts' hXb j
 have hbt:=byteAt_bd t (Int.toNat (j:Int))
 refine holds_wins [⟨w.heap.size,0+j*1,[u6 (X[j]?.getD 0)]⟩] (fun _ y hy=>?_) ?_
 ·simp only[List.mem_cons,List.not_mem_nil,or_false]at hy
  subst hy
  refine⟨(fun⟨_,h,_⟩=>by cases h),hF3.lt,fun q v hq=>?_⟩
  match q,hq with
  |0,hq=>
   simp only[List.getElem?_cons_zero,Option.some.injEq]at hq
   subst hq
   show W3.cell? ⟨w.heap.size,0+j*1+0,none⟩=_
   rw[Nat.zero_add,Nat.mul_one,Nat.add_zero]
   exact hF3.cell (xorP_get hX16 htl h2)
  |q+1,hq=>simp at hq
 refine hgE 17 (dz 4 16) [4,5,7,8,11,12,13,18,19] [dT (((j:Int):Int)<16)] [] [.code xrt_n1,.blk 3,.code [1,1,0,1,0,0,1,1,0,0,1,1,0,0,1,1,1],.inv J2,.blk 2,.blk 1,.code [1,1,0,1,0,0,1,1,1],.inv J,.blk 0,.code [1,1,1]] ⟨[(4,sT ⟨#[]⟩),(5,.slice (some ⟨w.heap.size,0,none⟩) 16 c),(7,sT t),(8,i6 (j:Int)),(11,.slice (some ⟨gL,0,none⟩) L.length cp),(12,i6 ((L.length:Nat):Int)),(13,i6 (i:Int)),(18,i6 16),(19,i6 (j:Int))],[],[⟨w.heap.size,0+j*1,[u6 (X[j]?.getD 0)]⟩],W3.heap.size⟩ ?_
 refine holds_draw (f:=1) (ls:=(bA 10 511)) 9 _ _ (by kernel_rfl) (by kernel_rfl) (by kernel_rfl) (by kernel_rfl) (xrt_q11 L gL cp i j c t X w W3) ⟨⟨by omega,by omega⟩,⟨by omega,by omega⟩,(bits_ob8 (by omega) (by omega)),⟨by omega,by omega⟩,trivial⟩ fun z11 hz11=>?_
 replace hz11:W3.heap.size<=z11:=hz11
 refine holds_wins [] (fun _ _ h=>by cases h) ?_
 refine holds_anyW (i:=9) (w:=w) (S':=fun _=>False) (ls':=(bA 10 1023)) (x:=Instr.storeAt 5 (.pointer (some ⟨w.heap.size,0+j*1,none⟩)) (.int .u8 (xorZ (X[j]?.getD 0) (byteAt t (Int.toNat (j:Int)))))) (fun W4=>FB W4 w.heap.size 5 (xorP (j+1) X (intsOf t))) (by kernel_rfl) (by kernel_rfl) (by kernel_rfl) (by kernel_rfl) (fun wx hm=>?_) (fun W4 hF4 hm4=>?_)
 ·obtain⟨w',r1,r2,r3,r4⟩:=run_store1 (P:=Tryz.prog) wx 5 w.heap.size (0+j*1) 5 (xorP j X (intsOf t)) (xorZ (X[j]?.getD 0) (byteAt t (Int.toNat (j:Int)))) (by kernel_rfl) (hF3.kept hm.kept (fun⟨_,h,_⟩=>by cases h)) (by rw[xorP_len hX16 htl (by omega)]; omega)
  rw[show(xorP j X (intsOf t)).set (0+j*1) (xorZ (X[j]?.getD 0) (byteAt t (Int.toNat (j:Int))))=xorP (j+1) X (intsOf t)from by rw[Nat.zero_add,Nat.mul_one,Int.toNat_natCast,byteAt_eq]; exact xorP_set hX16 htl h2]at r2
  exact⟨w',r1,r2,(MemOk.bck hm3 hm).offA (fun _ h=>h) r3 (fun y hy=>.inr (Nat.le_of_eq hy.symm)) (fun _ h=>by cases h)⟩
 refine holds_done (by kernel_rfl) ?_
 refine hgE 8 (dz 2 2) [4,5,7,11,12,13,18,19] [n64 (((j:Int)+1))] [] [.inv J2,.blk 2,.blk 1,.code [1,1,0,1,0,0,1,1,1],.inv J,.blk 0,.code [1,1,1]] ⟨[(4,sT ⟨#[]⟩),(5,.slice (some ⟨w.heap.size,0,none⟩) 16 c),(7,sT t),(11,.slice (some ⟨gL,0,none⟩) L.length cp),(12,i6 ((L.length:Nat):Int)),(13,i6 (i:Int)),(18,i6 16),(19,i6 ((j:Int)+1))],[],[],W4.heap.size⟩ ?_
 rw[<-cast_succ j]
 intro a_ w9 hf hm
 exact hJ2 (m2-1) _ a_ w9 (by omega) ⟨j+1,_,by omega,hF4.kept hm.kept (fun⟨_,h,_⟩=>by cases h),rfl⟩ hf (MemOk.bck hm4 hm)
theorem moved_any(a b d:ByteArray)(ha16:a.size=16)(hb16:b.size=16)(hd16:d.size=16)(w:World) :
  Calls Tryz.prog 110 #[sT a,sT b,sT d] w (RetK (.tuple #[sT (bytesI (xorI (xorI (intsOf a) (intsOf b)) (intsOf d))),i6 0]) w):=by
 refine cH (S:=(fun _=>False)) (n:=25) Tryz.func110 (MemOk.none w _) ?_
 refine hgS 32 (dz 19 0x40000000000000) [6,7,20,23] (rE 6 (oE (((b.size:Int)!=(a.size:Int))=false) (bne_eq_false_iff_eq.2 (by rw[hb16,ha16])))++[oE (((d.size:Int)!=(a.size:Int))=false) (bne_eq_false_iff_eq.2 (by rw[hd16,ha16]))]) [] [.ops [1,1,0] [4,5,6],.code [1,1,1]] [⟨w.heap.size,9,true,[sT b,sT d]⟩] [] (w.heap.size+1) ?_
 refine hcq (sT (bytesI (xorsL (intsOf a) [b,d]))) _ _ (some 24) [] tI rfl (fun wx hm=>together_any a ha16 [b,d] (by intro t ht; simp at ht; rcases ht with rfl|rfl<;>assumption) (by simp) w.heap.size 2 wx (hm.at_ 0 rfl).lt (fun j v hj=>by rw[Nat.zero_add]; exact(hm.at_ 0 rfl).at_ hj)) fun z2 hz2=>?_
 refine hgS 6 (dz 2 0) [6,7] [] [] [.code [1,1,1]] [⟨w.heap.size,9,true,[sT b,sT d]⟩] [] z2 ?_
 refine hrt [] [sT (bytesI (xorsL (intsOf a) [b,d])),i6 0] [] ?_
 intro wx hm
 exact⟨rfl,hm.kept⟩
@[simp] def pnm_b1(N:Int)(S:Int)(w:World):List Bk:=[⟨w.heap.size,23,true,[i6 N,i6 S]⟩]
theorem pnm_q8(N:Int)(S:Int)(w:World)(s:ByteArray)(t:ByteArray)(d:ByteArray)(gL:Nat)(cp:Nat)(W1:World)(z6:Nat):Out.prune [4,10,11,14,17] (qListG Tryz.prog 77 W1 (Turned (pnm_b1 N S w)) (opsOf (getCode (bodyOf Tryz.f86) [1,1,1,1,1,0])) (opsOf (getCode (bodyOf Tryz.f86) [1,1,1,1,1,0])).toList ⟨[(3,.slice (some ⟨gL,0,none⟩) 2 cp),(4,sT d),(10,.slice none 0 0),(11,i6 0),(14,i6 0)],(pnm_b1 N S w),[⟨gL,0,[sT s,sT t]⟩],z6⟩ [(false,.op oh0),(false,.op oh2),(false,.op ⟨false,0,[⟨true,0,1,1⟩]⟩),(false,.op oh0),(false,.op oh2),(false,.op ⟨false,0,[⟨true,0,0,1⟩]⟩),(false,.op oh0),(false,.call (.tuple #[sT (bytesI (xorI (xorI (intsOf t) (intsOf s)) (intsOf d))),i6 0])),(false,.op oh0),(false,.op oh0),(false,.op oh0),(false,.op oh0),(false,.op oh0)])=some ⟨[(0:Int)<=1∧1<((2:Nat):Int),(0:Int)<=0∧0<((2:Nat):Int),∀w',MemC W1 (Turned (pnm_b1 N S w)) (pnm_b1 N S w) [⟨gL,0,[sT s,sT t]⟩] z6 w'->Calls Tryz.prog 110 #[sT t,sT s,sT d] w' (RetK (.tuple #[sT (bytesI (xorI (xorI (intsOf t) (intsOf s)) (intsOf d))),i6 0]) w')],dupR [(gL,1,1),(gL,0,1)],⟨[(4,sT d),(10,.slice none 0 0),(11,i6 0),(14,i6 0),(17,sT (bytesI (xorI (xorI (intsOf t) (intsOf s)) (intsOf d))))],(pnm_b1 N S w),[⟨gL,0,[sT s,sT t]⟩],z6⟩⟩:=by kernel_rfl
theorem plan_made(N S c:Int)(hg:3<=N∧N<=6∧1<=S∧S<=8)(h:0<=c∧c<N-1)(s t d:ByteArray)(hs16:s.size=16)(ht16:t.size=16)(hd16:d.size=16)(gL cp:Nat)(w:World)(hgL:gL<w.heap.size)(hc:∀(j:Nat)(v:Value),(strsV [s,t])[j]?=some v->w.cell? ⟨gL,0+j,none⟩=some v) :
  Calls Tryz.prog 86 #[.agg #[i6 N,i6 S],i6 c,i6 (-1),.slice (some ⟨gL,0,none⟩) 2 cp,sT d] w (fun e w'=>∃g,e=.returned (.tuple #[.slice (some ⟨g,0,none⟩) 2 2,i6 0])∧OwnR w' w.heap.size 9 1 (some ⟨g,0,none⟩) 2 2 [sT d,sT (bytesI (xorI (xorI (intsOf t) (intsOf s)) (intsOf d)))]∧Kept (fun _=>False) w w'):=by
 refine cH (S:=(fun _=>False)) (n:=77) Tryz.func86 (MemOk.none w _) ?_
 refine hgS 14 (dz 6 536903680) [1,2,3,4,5,10,11,19,20,21] [] [(w.heap.size,0,2)] [.ops [1,0] [3,4,5,6,7,8,9,10],.code [1,1]] (pnm_b1 N S w) [] (w.heap.size+1) ?_
 refine hcV (w:=w) (S':=(fun _=>False)) (Y:=Nat×Nat) (fun y_=>.tuple #[.slice (some ⟨y_.1,0,none⟩) 2 2,.slice (some ⟨y_.2,0,none⟩) 2 2,i6 0]) (fun y_=>(pnm_b1 N S w)) (fun y_ W_=>True) (show _=some (51,[.agg #[i6 N,i6 S],i6 c,i6 (-1)],some 22,[])by kernel_rfl) tI (fun wx hm=>?_) (fun y_ W1 hX_ hm1=>?_)
 ·refine(plan_update N S c hg h wx).mono fun e w' hq=>?_
  obtain⟨ga,gb,he,_,_,hk⟩:=hq
  exact⟨(ga,gb),he,trivial,hm.offA (fun _ h=>h) hk (fun _ h=>h.elim) (fun _ _ h=>h)⟩
 obtain⟨ga,gb⟩:=y_
 refine hgS 25 (dz 13 0) [1,2,3,4,5,10,11,14,29,31] [fF] [] [.ops [1,1,1,0,0] [3,4,5,6,7,8,9],.code [1,1,1,0,1],.code [1,1,1,1]] (pnm_b1 N S w) [] W1.heap.size ?_
 refine hcq (.bool true) _ _ (some 32) [] tI rfl (fun wx hm=>plan_blocks [s,t] gL cp (by intro x hx; simp at hx; rcases hx with rfl|rfl<;>assumption) (by simp) wx (Nat.lt_of_lt_of_le hgL (hm1.bck hm).kept.size) (fun j v hj=>cell_kept (hm1.bck hm).kept hgL (hc j v hj))) fun z4 hz4=>?_
 refine holds_wins [⟨gL,0,[sT s,sT t]⟩] (fun _ y hy=>?_) ?_
 ·simp only[List.mem_cons,List.not_mem_nil,or_false]at hy
  subst hy
  exact⟨fun h=>absurd (turned_new hm1 h) (Nat.not_le.2 hgL),Nat.lt_of_lt_of_le hgL hm1.kept.size,fun j v hj=>cell_kept hm1.kept hgL (hc j v hj)⟩
 refine hgS 21 (dz 9 0x2000800400000) [1,3,4,10,11,14,39,41] [fF,fF,fF,fF,oE (((d.size:Int)!=16)=false) (bne_eq_false_iff_eq.2 (by rw[hd16]; rfl))] [(w.heap.size,0,2)] [.ops [1,1,1,1,0,1,0,0] [1,2,3],.code [1,1,1,1,0,1,0,1],.blk 0,.code [1,1,1,1,1]] (pnm_b1 N S w) [⟨gL,0,[sT s,sT t]⟩] z4 ?_
 refine hcq (i6 (N-1)) _ _ (some 42) [] tI rfl (fun wx hm=>plat_parity N S hg wx) fun z6 hz6=>?_
 refine hgE 17 (dz 7 0) [3,4,10,11,14] [oE ((((-1):Int)==(N-1))=false) (beq_eq_false_iff_ne.2 (by omega)),oE ((((-1):Int)==c)=false) (beq_eq_false_iff_ne.2 (by omega))] [] [.code [1,1,1,1,1,0],.code [1,1,1,1,1,1]] ⟨[(3,.slice (some ⟨gL,0,none⟩) 2 cp),(4,sT d),(10,.slice none 0 0),(11,i6 0),(14,i6 0)],(pnm_b1 N S w),[⟨gL,0,[sT s,sT t]⟩],z6⟩ ?_
 refine holds_quietG _ _ (by kernel_rfl) (by kernel_rfl) (by kernel_rfl) (pnm_q8 N S w s t d gL cp W1 z6) ⟨⟨by omega,by omega⟩,⟨by omega,by omega⟩,(fun wx hm=>moved_any t s d ht16 hs16 hd16 wx),trivial⟩ fun z8 hz8=>?_
 replace hz8:z6<=z8:=hz8
 refine hgS 19 (dz 8 0) [10,11] [fF] [] [.code [1,1,1,1,1,1,1,1]] [⟨w.heap.size,23,true,[i6 N,i6 S]⟩,⟨z8,9,true,[sT d,sT (bytesI (xorI (xorI (intsOf t) (intsOf s)) (intsOf d)))]⟩] [⟨gL,0,[sT s,sT t]⟩] (z8+1) ?_
 refine hrt [] [.slice (some ⟨z8,0,none⟩) 2 2,i6 0] [] ?_
 intro wx hm
 have hs:=(hm1.bck hm).kept.size
 have hs1:=hm1.kept.size
 exact⟨_,rfl,own_of_blk (by omega) (hm.at_ 1 rfl) rfl (by omega),(hm1.bck hm).kept⟩
end Go.Proofs.YtcmpkkapkdlfhaaGreat
