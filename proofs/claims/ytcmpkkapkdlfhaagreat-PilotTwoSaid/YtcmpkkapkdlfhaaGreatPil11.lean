import Derived.Test.YtcmpkkapkdlfhaaGreatNew11
import Derived.Test.YtcmpkkapkdlfhaaGreatPil10
namespace Go.Proofs.YtcmpkkapkdlfhaaGreat
open Go.RowKit
theorem KS_fin:∀n,n<7->3<=n->∀s,s<8->∀i,i<n->((List.range n).map fun c=>decide ((c+s)%n<i)).set ((i+n-s%n)%n) true=(List.range n).map fun c=>decide ((c+s)%n<i+1):=by decide
theorem col_cast{n s i:Nat}(hn:0<n):((i:Int)+(n:Int)-(s:Int)%(n:Int))%(n:Int)=(((i+n-s%n)%n:Nat):Int):=by
 have h:=Nat.mod_lt s hn
 have e:(s:Int)%(n:Int)=((s%n:Nat):Int):=by simp
 rw[e,show(i:Int)+(n:Int)-((s%n:Nat):Int)=((i+n-s%n:Nat):Int)by omega]
 simp
theorem OpC.KS_set{k:OpC}(hk:OpOk k){i:Nat}(hi:i<k.n):(k.KS i).set ((i+k.n-k.sn%k.n)%k.n) true=k.KS (i+1):=KS_fin k.n (by have:=hk.hn; omega) hk.hn.1 k.sn (by have:=hk.hS; have:=hk.hsn; omega) i hi
theorem OpC.KS_all{k:OpC}(hk:OpOk k):k.KS k.n=List.replicate k.n true:=by
 unfold OpC.KS
 rw[show(fun c=>decide ((c+k.sn)%k.n<k.n))=(fun _:Nat=>true)from funext fun c=>decide_eq_true (Nat.mod_lt _ (by have:=hk.hn; omega))]
 simp[List.map_const']
def OpC.RF(k:OpC)(i m:Nat):RecM:=if m<i then k.fen m else k.s0.recs m k.sn
def OpC.oF(k:OpC)(i:Nat):OneM:=⟨(i:Int),k.last+1+1+(i:Int),fenceQ (k.sn:Int) k.E,k.now,k.now⟩
def OpC.syF(k:OpC)(i:Nat):SayR:=⟨1,k.E,0,k.fen i⟩
theorem OpC.lsF_len(k:OpC):k.lsF.length=k.n:=onesF_len ..
theorem OpC.lsF_drop(k:OpC){i:Nat}(hi:i<k.n):k.lsF.drop i=k.oF i::k.lsF.drop (i+1):=by
 rw[List.drop_eq_getElem_cons (by rw[k.lsF_len]; exact hi)]
 congr 1
 simp[OpC.lsF,onesF,OpC.oF]
theorem ans_fence{k:OpC}(hk:OpOk k){i:Nat}(hi:i<k.n){W:World}(hW:SimQ k (k.RF i) W)(hb:k.b<=W.heap.size)(o:OneM)(sy:SayR)(frm:Int)(ho:o=k.oF i)(hsy:sy=k.syF i) :
  Calls Tryz.prog 18 #[.pointer (some ⟨k.s0.sb,0,none⟩),i6 k.now,.agg #[i6 frm,i6 o.to,i6 o.id,.bool false,i6 o.q.kind,i6 o.q.stripe,i6 o.q.epoch,i6 o.q.seq,i6 o.q.mask,i6 o.q.node,i6 o.q.oe,i6 o.q.os,sT o.q.block,i6 0,i6 0,i6 0,.bool false,i6 0,i6 0,i6 0,sT ⟨#[]⟩,.bool false,i6 0,i6 0,i6 0,sT ⟨#[]⟩]] W (fun e w'=>e=.returned (.tuple #[.agg #[i6 o.to,i6 frm,i6 o.id,.bool true,i6 0,i6 0,i6 0,i6 0,i6 0,i6 0,i6 0,i6 0,sT ⟨#[]⟩,i6 sy.st,i6 sy.ep,i6 sy.ou,.bool sy.rc.used,i6 sy.rc.fence,i6 sy.rc.de,i6 sy.rc.ds,sT sy.rc.block,.bool sy.rc.op,i6 sy.rc.ie,i6 sy.rc.is,i6 sy.rc.mask,sT sy.rc.staged],.bool true])∧SimQ k (k.RF (i+1)) w'∧Kept (TysIn [61] W) W w'∧Kept (fun y=>k.lo<=y∧y<k.b) W w'):=by
 subst ho hsy
 obtain⟨F,d,q,B,hr,hF,hd,hq,hB⟩:=hk.hrec i hi
 have h1:=hk.hE
 refine simQ_ans hk hi (r':=k.fen i) rfl rfl (fun j _=>?_) (fun wx=>?_) hW hb frm k.now
 ·unfold OpC.RF
  by_cases e:j=i
  ·subst e; simp
  ·by_cases e2:j<i
   ·simp[e,e2,show j<i+1 by omega]
   ·simp[e,e2,show ¬j<i+1 by omega]
 ·have e1:k.RF i i=_:=(if_neg (Nat.lt_irrefl i)).trans hr
  have e2:k.fen i=⟨true,k.E,d,q,B,false,0,0,0,⟨#[]⟩⟩:=by unfold OpC.fen; rw[hr]
  unfold OpC.syF
  rw[e1,e2]
  exact apply_fence F d q (k.sn:Int) k.E B (by omega) (by omega) hq hB (by have:=hk.hS; have:=hk.hsn; omega) (by omega) (by omega) wx
def OpC.lvW(k:OpC):Nat->LeaC:=lvS (lvS k.x0.lv k.sn lea0) (Int.toNat (k.sn:Int)) ⟨true,k.E,-1,0,k.now⟩
def OpC.xW(k:OpC)(g:Nat×Nat):PilC:={ k.xF g with lv:=k.lvW,nx:=.nilFunc,lg:=false,db:=false,stl:=false }
def OpC.cW(k:OpC):CM:=⟨k.frm,k.last+1+(k.n:Int),[]⟩
theorem recv_fence{k:OpC}(hk:OpOk k){i:Nat}(hi:i<k.n){g:Nat×Nat}{α:Type}(X:α->PilC)(C:α->CM)(Ls:α->List OneM)(G:α->World->Prop)(hG:∀a,StbS (G a))(hcb:∀a,(X a).cb=k.x0.cb){W:World}
  (hmore:i+1<k.n->∃a,X a=k.xF g∧C a=k.cF (i+1)∧Ls a=[]∧∀w',k.gF (i+1) g w'->G a w')
  (hdo:i+1=k.n->∀wx,PilX wx k.B0 k.pb { k.xW g with lb:=W.heap.size } k.cW []->k.B0<=wx.heap.size->Calls Tryz.prog 32 #[.pointer (some ⟨k.pb,0,none⟩),i6 k.now] wx (fun e w'=>e=.returned (.tuple #[])∧(∃a,PilX w' k.B0 k.pb { X a with lb:=W.heap.size } (C a) (Ls a)∧G a w')∧Kept (PilT [141] k.B0 W.heap.size k.pb k.x0.cb wx) wx w'))
  (hS:PilS W k.B0 k.pb (k.xF g) (k.cF i)) (hg:k.gF i g W) (hb:k.B0<=W.heap.size) (o:OneM) (sy:SayR) (frm:Int) (ho:o=k.oF i) (hsy:sy=k.syF i) (hfrm:frm=k.frm) :
  Calls Tryz.prog 19 #[.pointer (some ⟨k.pb,0,none⟩),i6 k.now,.agg #[i6 o.to,i6 frm,i6 o.id,.bool true,i6 0,i6 0,i6 0,i6 0,i6 0,i6 0,i6 0,i6 0,sT ⟨#[]⟩,i6 sy.st,i6 sy.ep,i6 sy.ou,.bool sy.rc.used,i6 sy.rc.fence,i6 sy.rc.de,i6 sy.rc.ds,sT sy.rc.block,.bool sy.rc.op,i6 sy.rc.ie,i6 sy.rc.is,i6 sy.rc.mask,sT sy.rc.staged]] W (fun e w'=>∃a A ca,e=.returned (.slice A (Ls a).length ca)∧OwnR w' W.heap.size 65 26 A (Ls a).length ca (lettersC (C a).frm (Ls a))∧PilS w' k.B0 k.pb (X a) (C a)∧G a w'∧Kept (PilT [141,4,61] k.B0 W.heap.size k.pb k.x0.cb W) W w'∧Kept (LawT W) W w'):=by
 subst ho hsy hfrm
 obtain⟨F,d,q,B,hr,hF,hd,hq,hB⟩:=hk.hrec i hi
 have e2:k.fen i=⟨true,k.E,d,q,B,false,0,0,0,⟨#[]⟩⟩:=by unfold OpC.fen; rw[hr]
 have h0:=hk.hn
 have h1:=hk.hE
 have h2:=hk.hnow
 have h3:=hk.hlast
 have h4:=hk.hS
 have h5:=hk.hsn
 have hwn:=within_id (n:=k.now) (by omega)
 have hsy:k.syF i=⟨1,k.E,0,⟨true,k.E,d,q,B,false,0,0,0,⟨#[]⟩⟩⟩:=by unfold OpC.syF; rw[e2]
 rw[hsy]
 refine recv_any (x:=k.xF g) (c:=k.cF i) X C Ls G [141,4,61] rfl rfl (k.gF i g) (k.gF_stb i g) hG hcb 114 (.inr (.inl rfl)) (k.lsF.drop (i+1)) (k.oF i) _ k.now hS rfl rfl (k.lsF_drop hi) (.inl ⟨by show(0:Int)<=(i:Int); omega,by show(i:Int)<6; omega⟩) hk.hfrm (by show 1<=k.last+1+1+(i:Int)∧k.last+1+1+(i:Int)<=_; omega) (sayOk_1 (by omega) (by omega) (okB_rec (by omega) (by omega) hq hB)) hb hg (fun wx hX hgx hbx=>?_)
 rw[hwn]
 obtain⟨RS,r1,r2,r3,r4⟩:=hgx
 have hcl:(k.lsF.drop (i+1)).length=k.n-(i+1):=by rw[List.length_drop,k.lsF_len]
 have hcol:(i+k.n-k.sn%k.n)%k.n<k.n:=Nat.mod_lt _ (by omega)
 refine pilX_onFence { k.xF g with lb:=W.heap.size } { k.cF i with opn:=k.lsF.drop (i+1) } [] k.pb k.B0 (fun w'=>∃a,PilX w' k.B0 k.pb { X a with lb:=W.heap.size } (C a) (Ls a)∧G a w') (by rintro w1 w2 ⟨a,q1,q2⟩ hk; exact⟨a,q1.kept0 hk,(hG _).kept0 q2 hk⟩)
  k.n ((i+k.n-k.sn%k.n)%k.n) (k.KS i) RS g.1 g.2 k.now (i:Int) k.E 0 (k.oF i).q ⟨true,k.E,d,q,B,false,0,0,0,⟨#[]⟩⟩ hk.xN (by have h6:k.x0.N=_:=hk.xN; have h7:k.x0.S=_:=hk.xS; show 3<=k.x0.N∧k.x0.N<=6∧1<=k.x0.S∧k.x0.S<=8; omega) (by have h7:k.x0.S=_:=hk.xS; show 0<=(k.sn:Int)∧(k.sn:Int)<k.x0.S; omega) hcol (by have h6:k.x0.N=_:=hk.xN; show 0<=(i:Int)∧(i:Int)<k.x0.N; omega)
  (by show((i:Int)+k.x0.N-(k.sn:Int)%k.x0.N)%k.x0.N=_; rw[hk.xN]; exact col_cast (by omega)) (by simp[OpC.KS]) r1 (fun hne wy hY hK hR=>?_) (fun hz=>⟨?_,fun r hr=>?_,fun wy hY hby=>?_⟩) wx hX r3 r4 hbx
 ·obtain⟨a,a1,a2,a3,a4⟩:=hmore (by have hne:(k.lsF.drop (i+1)).length≠0:=hne; omega)
  refine⟨a,by rw[a1,a2,a3]; exact hY,a4 _ ⟨_,by rw[List.length_set]; exact r1,fun r hr=>?_,by rw[<-k.KS_set hk hi]; exact hK,hR⟩⟩
  rcases List.mem_or_eq_of_mem_set hr with h|rfl
  ·exact r2 r h
  ·rfl
 ·have hz:(k.lsF.drop (i+1)).length=0:=hz
  rw[k.KS_set hk hi,show i+1=k.n by omega]
  exact k.KS_all hk
 ·rcases List.mem_or_eq_of_mem_set hr with h|rfl
  ·exact r2 r h
  ·rfl
 ·have hz:(k.lsF.drop (i+1)).length=0:=hz
  exact hdo (by omega) wy hY hby
end Go.Proofs.YtcmpkkapkdlfhaaGreat
namespace Go.Proofs.YtcmpkkapkdlfhaaGreat
open Go.RowKit
set_option maxHeartbeats 4000000
set_option maxRecDepth 100000
@[simp] def ptx_b1(x:PilC)(pb:Nat)(gR:Nat)(cp:Nat)(R:List Int):List Bk:=[⟨pb,98,false,(PilC.cells { x with rd:=(.slice (some ⟨gR,0,none⟩) R.length cp) })⟩]
def ptx_I(x:PilC)(pb:Nat)(w:World)(gR:Nat)(cp:Nat)(R:List Int)  (m:Nat) (st:St) (W0:World):Prop:=
 ∃(i:Nat)(A0:Option Addr)(c0:Nat)(z:Nat),m+i=R.length∧i<=R.length∧OwnR W0 w.heap.size 9 1 A0 i c0 (strsV ((R.take i).map (fun k_:Int=>x.bl (Int.toNat k_))))∧st=⟨[(0,(pt pb 0)),(2,.slice none 0 0),(3,.slice A0 i c0),(10,.slice (some ⟨gR,0,none⟩) R.length cp),(11,i6 ((R.length:Nat):Int)),(12,i6 (i:Int))],(ptx_b1 x pb gR cp R),[],z⟩
theorem pil_texts(x:PilC)(pb:Nat)(R:List Int)(gR cp:Nat)(hRl:R.length<=6)(hR6:∀k∈R,0<=k∧k<6)(w:World)(hP:Blk w pb 98 (PilC.cells { x with rd:=.slice (some ⟨gR,0,none⟩) R.length cp }))(hRg:gR<w.heap.size)(hRc:∀(j:Nat)(v:Value),(R.map (Value.int .i64))[j]?=some v->w.cell? ⟨gR,0+j,none⟩=some v) :
  Calls Tryz.prog 87 #[.pointer (some ⟨pb,0,none⟩)] w (fun e' w'=>∃A c,e'=.returned (.slice A R.length c)∧OwnR w' w.heap.size 9 1 A R.length c (strsV (R.map (fun k_:Int=>x.bl (Int.toNat k_))))∧Kept (fun _=>False) w w'):=by
 refine cH (S:=(fun _=>False)) (n:=28) Tryz.func87 (MemOk.start (bk:=(ptx_b1 x pb gR cp R)) (wn:=[]) (fun b hb=>by obtain rfl:=List.mem_singleton.1 hb; exact hP) (fun b hb hr=>by obtain rfl:=List.mem_singleton.1 hb; cases hr) (by simp) (by simp)) ?_
 refine hgE 23 (dz 9 0x13c08000000) [0,2,3,10,11,12] [] [(pb,60,1)] [.code [1,1,0,1,0],.blk 0,.code [1,1,1]] ⟨[(0,(pt pb 0)),(2,.slice none 0 0),(3,.slice none 0 0),(10,.slice (some ⟨gR,0,none⟩) R.length cp),(11,i6 ((R.length:Nat):Int)),(12,i6 0)],(ptx_b1 x pb gR cp R),[],w.heap.size⟩ ?_
 refine holds_loopW (w:=w) (S':=fun _=>False) (ptx_I x pb w gR cp R) R.length (by kernel_rfl) (fun W0 hm=>⟨⟨0,none,0,_,by omega,by omega,OwnR.nil _ _ _ _,rfl⟩,hm⟩) ?_
 rintro m _ W1 ⟨i,A0,c0,z,hmi,hin,hO1l,rfl⟩ hm1 J hJ
 by_cases hlt:i<R.length
 rotate_left
 ·skip
  refine hgS 15 (dz 4 0) [2] [dF (((i:Int):Int)<((R.length:Nat):Int))] [] [.code [1,1,1,1]] (ptx_b1 x pb gR cp R) [] W1.heap.size ?_
  refine hrt [] [.slice A0 i c0] [] ?_
  intro wx hm
  have hni:i=R.length:=by omega
  have h5:=(hO1l.keptT hm.kept (turned_tys hm1) rfl)
  rw[List.take_of_length_le (by omega)]at h5
  subst hni
  exact⟨A0,c0,rfl,h5,(MemOk.bck hm1 hm).kept⟩
 obtain⟨k,hk⟩:∃k,R[i]?=some k:=⟨_,List.getElem?_eq_getElem hlt⟩
 have hkb:=hR6 k (List.mem_of_getElem? hk)
 refine holds_wins [⟨gR,0+i*1,[i6 k]⟩,⟨pb,62+(Int.toNat k)*1,[sT (x.bl (Int.toNat k))]⟩] (fun _ y hy=>?_) ?_
 ·simp only[List.mem_cons,List.not_mem_nil,or_false]at hy
  rcases hy with rfl|rfl
  ·exact⟨(fun⟨_,h,hr,_⟩=>by obtain rfl:=List.mem_singleton.1 h; cases hr),Nat.lt_of_lt_of_le hRg hm1.kept.size,map_cell (f:=fun n:Int=>Value.int .i64 n) (fun j v hj=>cell_kept hm1.kept hRg (hRc j v hj)) hk⟩
  ·refine⟨(fun⟨_,h,hr,_⟩=>by obtain rfl:=List.mem_singleton.1 h; cases hr),Nat.lt_of_lt_of_le hP.lt hm1.kept.size,fun j v hj=>?_⟩
   match j,hj with
   |0,hj=>
    obtain rfl:=Option.some.inj hj
    have h6:=(hm1.at_ 0 rfl).at_ (pil_block { x with rd:=.slice (some ⟨gR,0,none⟩) R.length cp } (i:=Int.toNat k) (by omega))
    simpa using h6
   |j+1,hj=>simp at hj
 refine hgE 28 [oh0,oh1,oh2,⟨false,0,[⟨true,0,0,1⟩]⟩,oh0,oh0,oh0,oh0,oh0,oh0,oh0,oh2,⟨false,0,[⟨true,1,0,1⟩]⟩,oh0] [0,2,3,10,11,12,16,24] [dT (((i:Int):Int)<((R.length:Nat):Int)),oE ((0:Int)<=(i:Int)∧(i:Int)<((R.length:Nat):Int)),oE ((0:Int)<=k∧k<((6:Nat):Int))] [(gR,0+i*1,1),(pb,62+(Int.toNat k)*1,1)] [.ops [1,1,0,1,0,0,1,1,0,0,1] [9,10],.blk 1,.code [1,1,0,1,0,0,1,1,1],.inv J,.blk 0,.code [1,1,1]] ⟨[(0,(pt pb 0)),(2,.slice none 0 0),(3,.slice A0 i c0),(10,.slice (some ⟨gR,0,none⟩) R.length cp),(11,i6 ((R.length:Nat):Int)),(12,i6 (i:Int)),(16,.slice A0 i c0),(24,.slice (some ⟨W1.heap.size,0,none⟩) 1 1)],[⟨pb,98,false,(PilC.cells { x with rd:=(.slice (some ⟨gR,0,none⟩) R.length cp) })⟩,⟨W1.heap.size,9,true,[sT (x.bl (Int.toNat k))]⟩],[⟨gR,0+i*1,[i6 k]⟩,⟨pb,62+(Int.toNat k)*1,[sT (x.bl (Int.toNat k))]⟩],W1.heap.size+1⟩ ?_
 refine holds_wins [] (fun _ _ h=>by cases h) ?_
 refine holds_opV (w:=w) (S':=(fun _=>False)) (Y:=Option Addr×Nat) (dst:=(some 25)) (x:=Builtin.append_ #[32,32] 32 #[.slice A0 i c0,.slice (some ⟨W1.heap.size,0,none⟩) 1 1]) (fun yq=>.slice yq.1 (i+1) yq.2) (ptx_b1 x pb gR cp R) (fun yq W_=>OwnR W_ w.heap.size 9 1 yq.1 (i+1) yq.2 (strsV ((R.take (i+1)).map (fun k_:Int=>x.bl (Int.toNat k_))))) (fun yq=>[(25,.slice yq.1 (i+1) yq.2),(0,(pt pb 0)),(2,.slice none 0 0),(3,.slice A0 i c0),(10,.slice (some ⟨gR,0,none⟩) R.length cp),(11,i6 ((R.length:Nat):Int)),(12,i6 (i:Int)),(16,.slice A0 i c0),(24,.slice (some ⟨W1.heap.size,0,none⟩) 1 1)]) (by kernel_rfl) (by kernel_rfl) (fun _=>rfl) (fun wx hm=>?_) (fun yq W2 hX2 hm2=>?_)
 ·have hO_:=(hO1l.keptT hm.kept (turned_tys hm1) rfl)
  have hm0:=(MemOk.bck hm1 hm)
  obtain⟨A',cp',w',h1,h2,h3,h4⟩:=run_appendR (P:=Tryz.prog) wx w.heap.size 32 32 9 (sT ⟨#[]⟩) 1 16 A0 i c0 (strsV ((R.take i).map (fun k_:Int=>x.bl (Int.toNat k_)))) ⟨W1.heap.size,0,none⟩ 1 1 [sT (x.bl (Int.toNat k))] (by kernel_rfl) (by kernel_rfl) (by kernel_rfl) (by decide) hO_ rfl (fun j x hj=>by rw[add_norm,Nat.zero_add]; exact(hm.at_ 1 rfl).at_ hj) (ones_all (by kernel_rfl)) (by omega) (by decide) hm0.kept.size
  rw[show strsV ((R.take i).map (fun k_:Int=>x.bl (Int.toNat k_)))++([sT (x.bl (Int.toNat k))]:List Value)=strsV ((R.take (i+1)).map (fun k_:Int=>x.bl (Int.toNat k_)))by rw[List.take_add_one,hk]; simp[strsV]]at h2
  exact⟨(A',cp'),w',h1,h2,(hm0.sub (bk':=(ptx_b1 x pb gR cp R)) (by simp)).offA (fun _ h=>h) h3 (fun y hy=>.inr (hO_.own y hy).1) (off_tys (hm0.sub (bk':=(ptx_b1 x pb gR cp R)) (by simp)) (own_tys hO_) rfl)⟩
 obtain⟨A2,c2⟩:=yq
 have hO2l:=hX2
 refine hgE 10 (dz 3 32) [0,2,3,10,11,12] [n64 (((i:Int)+1))] [] [.inv J,.blk 0,.code [1,1,1]] ⟨[(0,(pt pb 0)),(2,.slice none 0 0),(3,.slice A2 (i+1) c2),(10,.slice (some ⟨gR,0,none⟩) R.length cp),(11,i6 ((R.length:Nat):Int)),(12,i6 ((i:Int)+1))],(ptx_b1 x pb gR cp R),[],W2.heap.size⟩ ?_
 rw[<-cast_succ i]
 intro a_ w9 hf hm
 exact hJ (m-1) _ a_ w9 (by omega) ⟨i+1,A2,c2,_,by omega,by omega,(hO2l.keptT hm.kept (turned_tys hm2) rfl),rfl⟩ hf (MemOk.bck hm2 hm)
section
variable (x:PilC)(pb:Nat)(w:World)(v:Value)(i:Nat)(fr ep ou:Int)(q:AskM)(r:RecM)(_:Unit)
def ptk_v1:List Value:=[i6 2,i6 q.stripe,i6 q.epoch,i6 q.seq,i6 q.mask,i6 q.node,i6 q.oe,i6 q.os,sT q.block]
def ptk_v2:List Value:=[i6 1,i6 ep,i6 ou,.bool true,i6 r.fence,i6 r.de,i6 r.ds,sT r.block,.bool r.op,i6 r.ie,i6 r.is,i6 r.mask,sT r.staged]
@[simp] def ptk_b1:List Bk:=[⟨pb,98,true,(PilC.cells { x with ak:=v })⟩,⟨w.heap.size,59,true,(ptk_v1 q)⟩,⟨w.heap.size+1,63,true,(ptk_v2 ep ou r)⟩]
@[simp] def ptk_b2:List Bk:=[⟨pb,98,true,(PilC.cells { x with bl:=(blS x.bl i r.block),ak:=v })⟩,⟨w.heap.size,59,true,(ptk_v1 q)⟩,⟨w.heap.size+1,63,true,(ptk_v2 ep ou r)⟩]
def ptk_y4s:List (Nat×Value):=[(0,(pt pb 0)),(2,i6 fr),(9,(pt (w.heap.size+1) 0)),(10,.bool false)]
def ptk_y4v(_:Unit):List (Option Value):=[some ((pt pb 0)),some ((pt pb 0)),some (i6 fr),some (i6 (i:Int)),some ((pt (w.heap.size+1) 3)),some ((pt (w.heap.size+1) 7)),some (sT r.block),some ((pt pb 0)),some ((pt pb 44)),some ((pt pb 62)),some (.pointer (some ⟨pb,62+(Int.toNat (i:Int))*1,none⟩)),some (.tuple #[])]
def ptk_y4F(_:Unit)(k:Nat):Bool:=([true,true,true,true,true,true,true,true,true,true,true,true]:List Bool)[k]?.getD true
def ptk_y4m(_:Unit):List (List Bk):=[(ptk_b1 x pb w v ep ou q r),(ptk_b2 x pb w v i ep ou q r)]
abbrev ptk_y4X(x:PilC)(c:CM)(base:Nat)(v:Value)(L:List OneM)(c_:Nat)(_:Unit)(W_:World):Prop:=match c_ with|0=>PilR W_ base x.lb x.cb c L v|1=>PilR W_ base x.lb x.cb c L v|_=>True
def ptk_y4C(c:CM)(pb:Nat)(base:Nat)(w:World)(v:Value)(L:List OneM)(i:Nat)(fr:Int)(ep:Int)(ou:Int)(q:AskM)(r:RecM)(z2:Nat)(i_:Nat):Prop:=cY Tryz.prog Tryz.f105 [1,1,1,0,1,0] 39 [] (bodyPost Tryz.prog Tryz.f105 (fun e w'=>e=.returned (.bool ((c.opn.length:Int)==0))∧PilX w' base pb ({ x with bl:=blS x.bl i r.block }) c L∧Kept (PilT [] base x.lb pb x.cb w) w w')) [.code [1,1,1,1]] (ptk_y4s pb w fr) [none,none,none,none,none,none,none,none,none,none,none,some 0] 1 (ptk_y4v pb w i fr r) ptk_y4F w (PilT [] base x.lb pb x.cb w) (ptk_y4m x pb w v i ep ou q r) z2 (ptk_y4X x c base v L) i_
end
theorem pilX_tookRead(x:PilC)(c:CM)(L:List OneM)(pb:Nat)(base:Nat)(i:Nat)(now fr ep ou:Int)(q:AskM)(r:RecM)(hg:3<=x.N∧x.N<=6∧1<=x.S∧x.S<=8)(hs:0<=x.sn∧x.sn<x.S)(hin:i<6)(hfr:0<=fr∧fr<x.N)(hic:(fr+x.N-x.sn%x.N)%x.N=(i:Int))(w:World)(hX:PilX w base pb x c L) :
  Calls Tryz.prog 105 #[.pointer (some ⟨pb,0,none⟩),i6 now,i6 fr,.agg #[i6 2,i6 q.stripe,i6 q.epoch,i6 q.seq,i6 q.mask,i6 q.node,i6 q.oe,i6 q.os,sT q.block],.agg #[i6 1,i6 ep,i6 ou,.bool true,i6 r.fence,i6 r.de,i6 r.ds,sT r.block,.bool r.op,i6 r.ie,i6 r.is,i6 r.mask,sT r.staged]] w (fun e w'=>e=.returned (.bool ((c.opn.length:Int)==0))∧PilX w' base pb ({ x with bl:=blS x.bl i r.block }) c L∧Kept (PilT [] base x.lb pb x.cb w) w w'):=by
 obtain⟨v,hP,hR⟩:=hX
 have hPT:=blk_ty hP
 refine cH (S:=(fun y=>y=pb)) (n:=39) Tryz.func105 (MemOk.startP hP) ?_
 refine hgS 24 (dz 12 0xd0028000000100180000) [0,2,9,10,11,15,16,17,18,19] [] [(w.heap.size,0,1),(w.heap.size+1,0,13)] [.ops [1,1,0,0] [5],.code [1,1,0,1],.code [1,1,1]] (ptk_b1 x pb w v ep ou q r) [] (w.heap.size+2) ?_
 refine hcq (.bool false) _ _ (some 20) [] tI rfl (fun wx hm=>pil_refusedU pb now fr ep ou r wx) fun z2 hz2=>?_
 refine hgE 12 (dz 3 256) [0,2,9,10] [fF,tT] [] [.code [1,1,1,0,1,0],.code [1,1,1,1]] ⟨[(0,(pt pb 0)),(2,i6 fr),(9,(pt (w.heap.size+1) 0)),(10,.bool false)],(ptk_b1 x pb w v ep ou q r),[],z2⟩ ?_
 have ptk_y4_X:StayY w (PilT [] base x.lb pb x.cb w) (ptk_y4m x pb w v i ep ou q r) (ptk_y4X x c base v L):=by
  intro c_ d wx w' bk hb hm hx hk
  match c_,hb,hx with
  |0,hb,hx=>
   obtain rfl:=Option.some.inj hb
   exact(hx.keptT hk (turned_tys hm) rfl rfl rfl)
  |1,hb,hx=>
   obtain rfl:=Option.some.inj hb
   exact(hx.keptT hk (turned_tys hm) rfl rfl rfl)
  |c_+2,hb,hx=>exact trivial
 have ptk_y4_c3:ptk_y4C x c pb base w v L i fr ep ou q r z2 3:=certY_call (B:=0) (f:=46) (args:=fun d=>[(pt pb 0),i6 fr]) (ob:=fun d=>[]) (fun d=>i6 (i:Int)) (by kernel_rfl) (.inr ⟨11,by kernel_rfl,List.mem_of_getElem? (i:=2) (by kernel_rfl)⟩) (fun d=>by kernel_rfl) (fun d=>by kernel_rfl) (fun d=>by kernel_rfl) (fun d=>trivial) (fun c_ d wx bk hc hb hm hx=>by
   obtain rfl:c_=0:=by omega
   obtain rfl:(ptk_b1 x pb w v ep ou q r)=bk:=Option.some.inj hb
   rw[<-hic]
   exact pil_column ({ x with ak:=v }) pb fr hg hs hfr wx (hm.at_ 0 rfl)) ptk_y4_X
 have ptk_y4_c11:ptk_y4C x c pb base w v L i fr ep ou q r z2 11:=cyS (s:=0) (x:=fun d=>Instr.storeAt 9 (.pointer (some ⟨pb,62+(Int.toNat (i:Int))*1,none⟩)) (sT r.block)) (fun(d:Unit)(_:Unit)=>d) (fun d wx bk hb hm hx hcame=>by
  obtain rfl:=Option.some.inj hb
  obtain⟨w',h1,hB1,hk1,hz1⟩:=store_to (P:=Tryz.prog) (t:=9) (v:=sT r.block) (cs':=(PilC.cells { x with bl:=(blS x.bl i r.block),ak:=v })) (by kernel_rfl) (hm.at_ 0 rfl) rfl (by show(62+(Int.toNat (i:Int))*1)+1<=73; omega) (ones_all rfl) (by have h_:=pil_setB (i:=i) ({ x with ak:=v }) (by omega) r.block; rw[show 62+i=62+(Int.toNat (i:Int))*1 by omega]at h_; exact h_)
  exact⟨(),w',h1,rfl,(hx.keptT (es:=[98]) hk1 (fun y hy=>by subst hy; exact⟨98,by simp,blk_ty (hm.at_ 0 rfl)⟩) rfl rfl rfl),(hm.set1 0 rfl rfl hk1 hB1).2,Nat.le_of_eq hz1.symm⟩)
 have ptk_y4_R:∀e_∈(rZsY 1 [0,1,2,4,5,7,8,9]++[⟨6,1,(oA 2 7 1),fun _=>[],fun _=>[(w.heap.size+1,7,1)]⟩,⟨10,1,oh2,fun _=>[oE ((0:Int)<=(i:Int)∧(i:Int)<((6:Nat):Int))],fun _=>[]⟩]:List (RegY (Unit))),ptk_y4C x c pb base w v L i fr ep ou q r z2 e_.i:=certsY_reg _ ptk_y4_X (fun d=>by kernel_rfl) (by kernel_rfl) (fun d sz=>by kernel_rfl)
 have ptk_y4_A:∀i_,i_<12->ptk_y4C x c pb base w v L i fr ep ou q r z2 i_:=allY (l:=[3,11]) (by kernel_rfl) ptk_y4_R ⟨ptk_y4_c3,ptk_y4_c11,trivial⟩
 refine holds_mixY (Δ:=Unit) (PilT [] base x.lb pb x.cb w) (ptk_y4v pb w i fr r) ptk_y4F (ptk_y4m x pb w v i ep ou q r) (ptk_y4X x c base v L) [0,10] (fun d=>[(0,(pt pb 0)),(10,.bool false)]) (fun d=>(ptk_b2 x pb w v i ep ou q r)) () (fun _ h=>.inl h) (by kernel_rfl) (by kernel_rfl) (by kernel_rfl) (fun wx hm=>(hR.keptT (es:=[98]) hm.kept.drew (fun y hy=>by subst hy; exact⟨98,by simp,hPT⟩) rfl rfl rfl)) (by kernel_rfl) ptk_y4_A (fun d=>by kernel_rfl) (fun d=>by kernel_rfl) (fun d W1 hfin hX1 hm01 hm1=>?_)
 have hR1:=hX1
 replace hR1:PilR W1 base x.lb x.cb c L v:=hR1
 replace hm1:MemOk w (PilT [] base x.lb pb x.cb w) (ptk_b2 x pb w v i ep ou q r) [] W1.heap.size W1:=hm1
 change Holds _ _ _ _ W1 (Turned (ptk_b2 x pb w v i ep ou q r)) _ [.code [1,1,1,1]] ⟨[(0,(pt pb 0)),(10,.bool false)],(ptk_b2 x pb w v i ep ou q r),[],W1.heap.size⟩
 refine hgS 9 (dz 4 270565376) [10,36] [] [(pb,2,1)] [.ops [1,1,1,1,0] [4,5,6],.code [1,1,1,1,1]] (ptk_b2 x pb w v i ep ou q r) [] W1.heap.size ?_
 refine hcq (i6 (c.opn.length:Int)) _ _ (some 37) [] tI rfl (fun wx hm=>open_partyX ((hR1.keptT hm.kept (turned_tys hm1) rfl rfl rfl)).1) fun z6 hz6=>?_
 refine hgS 6 (dz 2 0) [10] [] [] [.code [1,1,1,1,1]] (ptk_b2 x pb w v i ep ou q r) [] z6 ?_
 refine hrt [] [.bool ((c.opn.length:Int)==0)] [] ?_
 intro wx hm
 exact⟨rfl,⟨_,hm.at_ 0 rfl,(hR1.keptT hm.kept (turned_tys hm1) rfl rfl rfl)⟩,(MemOk.bck hm1 hm).kept⟩
def ptc_v1(q:AskM):List Value:=((ptk_v1 q).set 0 (i6 3))
def ptc_v2(ep:Int)(ou:Int)(r:RecM):List Value:=((ptk_v2 ep ou r).set 3 (.bool r.used))
@[simp] def ptc_b1(x:PilC)(pb:Nat)(w:World)(v:Value)(ep:Int)(ou:Int)(q:AskM)(r:RecM):List Bk:=[⟨pb,98,true,(PilC.cells { x with ak:=v })⟩,⟨w.heap.size,59,true,(ptc_v1 q)⟩,⟨w.heap.size+1,63,true,(ptc_v2 ep ou r)⟩]
theorem pilX_tookCheck(x:PilC)(c:CM)(L:List OneM)(pb:Nat)(base:Nat)(now fr ep ou:Int)(q:AskM)(r:RecM)(w:World)(hX:PilX w base pb x c L) :
  Calls Tryz.prog 105 #[.pointer (some ⟨pb,0,none⟩),i6 now,i6 fr,.agg #[i6 3,i6 q.stripe,i6 q.epoch,i6 q.seq,i6 q.mask,i6 q.node,i6 q.oe,i6 q.os,sT q.block],.agg #[i6 1,i6 ep,i6 ou,.bool r.used,i6 r.fence,i6 r.de,i6 r.ds,sT r.block,.bool r.op,i6 r.ie,i6 r.is,i6 r.mask,sT r.staged]] w (fun e w'=>e=.returned (.bool ((c.opn.length:Int)==0))∧PilX w' base pb x c L∧Kept (PilT [] base x.lb pb x.cb w) w w'):=by
 obtain⟨v,hP,hR⟩:=hX
 have hPT:=blk_ty hP
 refine cH (S:=(fun y=>y=pb)) (n:=39) Tryz.func105 (MemOk.startP hP) ?_
 refine hgS 24 (dz 12 0xd0028000000100180000) [0,2,9,10,11,15,16,17,18,19] [] [(w.heap.size,0,1),(w.heap.size+1,0,13)] [.ops [1,1,0,0] [5],.code [1,1,0,1],.code [1,1,1]] (ptc_b1 x pb w v ep ou q r) [] (w.heap.size+2) ?_
 refine hcq (.bool false) _ _ (some 20) [] tI rfl (fun wx hm=>pil_refusedN pb now fr ep ou r wx) fun z2 hz2=>?_
 refine hgS 19 (dz 7 0x10208000000) [10,36] [fF,fF] [(pb,2,1)] [.ops [1,1,1,1,0] [4,5,6],.code [1,1,1,1,1]] (ptc_b1 x pb w v ep ou q r) [] z2 ?_
 refine hcq (i6 (c.opn.length:Int)) _ _ (some 37) [] tI rfl (fun wx hm=>open_partyX ((hR.keptT (es:=[98]) hm.kept (fun y hy=>by subst hy; exact⟨98,by simp,hPT⟩) rfl rfl rfl)).1) fun z4 hz4=>?_
 refine hgS 6 (dz 2 0) [10] [] [] [.code [1,1,1,1,1]] (ptc_b1 x pb w v ep ou q r) [] z4 ?_
 refine hrt [] [.bool ((c.opn.length:Int)==0)] [] ?_
 intro wx hm
 exact⟨rfl,⟨_,hm.at_ 0 rfl,(hR.keptT (es:=[98]) hm.kept (fun y hy=>by subst hy; exact⟨98,by simp,hPT⟩) rfl rfl rfl)⟩,(hm.wide (S':=PilT [] base x.lb pb x.cb w) (fun _ h=>.inl h)).kept⟩
end Go.Proofs.YtcmpkkapkdlfhaaGreat
