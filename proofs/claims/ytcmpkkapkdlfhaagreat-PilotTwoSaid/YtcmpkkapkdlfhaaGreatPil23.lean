import Derived.Test.YtcmpkkapkdlfhaaGreatPil22
import Derived.Test.YtcmpkkapkdlfhaaGreatPil21
namespace Go.Proofs.YtcmpkkapkdlfhaaGreat
open Go.RowKit
theorem Kept.and_{T1 T2:Nat->Prop}{w w':World}(h1:Kept T1 w w')(h2:Kept T2 w w'):Kept (fun y=>T1 y∧T2 y) w w':=
 ⟨h1.os,h1.tape,h1.output,h1.size,fun y hy hn=>by
  by_cases e:T1 y
  ·exact h2.block y hy (fun h=>hn ⟨e,h⟩)
  ·exact h1.block y hy e⟩
structure OpOk3(k:OpC):Prop extends OpOk2 k where
 hbz:k.x0.busy=false
 hsc:0<=(k.x0.lv k.sn).sc∧(k.x0.lv k.sn).sc<=1099511627776
 hold:k.kd=3∨(k.kd≠3∧(k.x0.lv k.sn).has=false)∨(k.kd≠3∧(k.x0.lv k.sn).has=true∧k.now-(k.x0.lv k.sn).sc>10)
 hat:(k.kd=3∧k.at_=(k.sn:Int)∧k.cn=0∧k.da=⟨#[]⟩)∨(((k.kd=1∧k.da=⟨#[]⟩)∨(k.kd=2∧k.da.size=16))∧(0<=k.at_∧k.at_<k.x0.S*(k.x0.N-1))∧k.at_/(k.x0.N-1)=(k.sn:Int)∧k.at_%(k.x0.N-1)=(k.cn:Int))
def PilI(w:World)(pb:Nat)(x:PilC)(c:CM):Prop:=Blk w pb 98 (PilC.cells { x with ak:=.slice none 0 0 })∧∀base',PartyX 124 141 w base' x.cb c
theorem PilI.stb{pb:Nat}{x:PilC}{c:CM}:Stb (fun W=>PilI W pb x c):=fun _ _ _ _ h hk hT he=>by
 have H:=stb_not he
 exact⟨h.1.kept hk (fun hx=>tysIn_not (H _ rfl) (blk_ty h.1) (hT _ hx)),fun base'=>(h.2 base').keptT hk hT (H _ rfl) (H _ rfl)⟩
theorem SimQ.stb{k:OpC}{R:Nat->RecM}:Stb (SimQ k R):=fun _ _ _ _ ⟨s,h1,h2⟩ hk hT he=>⟨s,SimAt.stb _ _ _ _ h1 hk hT he,h2⟩
theorem Ph.sim_stb{k:OpC}(p:Ph):Stb (fun W=>p.sim k W):=fun w w' T es h hk hT he=>by
 cases p with
 |lea=>exact SimAt.stb _ _ _ _ h hk hT he
 |_=>exact SimQ.stb _ _ _ _ h hk hT he
theorem PilS.keptN{w w':World}{base pb:Nat}{x:PilC}{c:CM}{T:Nat->Prop}(h:PilS w base pb x c)(hk:Kept T w w')(hT:∀y,T y->¬TysIn [98,124,141] w y):PilS w' base pb x c:=
 ⟨h.1.kept hk (fun hx=>hT _ hx ⟨98,by simp,blk_ty h.1⟩),h.2.kept hk (fun hx=>hT _ hx ⟨124,by simp,h.2.blk⟩) (fun y hy _ ht=>hT y hy ⟨141,by simp,ht⟩)⟩
theorem own_keptN{w w':World}{base:Nat}{e:TypeId}{z:Nat}{A:Option Addr}{n cp:Nat}{cs:List Value}{T:Nat->Prop}(h:OwnR w base e z A n cp cs)(hk:Kept T w w')(hT:∀y,T y->¬TysIn [4,61,3,178,180] w y∨y<base)(h5:([4,61,3,178,180]:List TypeId).contains e=true):OwnR w' base e z A n cp cs:=
 h.kept hk (fun y hy hx=>(hT y hx).elim (fun h1=>h1 ⟨e,by simpa using h5,h.ty y hy⟩) (fun h1=>by have:=(h.own y hy).1; omega))
theorem Ph.pil_kept{k:OpC}(p:Ph){w w':World}{T:Nat->Prop}(h:p.pil k w)(hk:Kept T w w')(h1:∀y,T y->¬TysIn [98,124,141] w y)(h2:∀y,T y->¬TysIn [4,61,3,178,180] w y∨y<k.B0):p.pil k w':=by
 cases p with
 |lea=>exact PilS.keptN h hk h1
 |fen i=>
  obtain⟨g,a1,RS,a2,a3,a4,a5⟩:=h
  exact⟨g,a1.keptN hk h1,RS,a2,a3,own_keptN a4 hk h2 rfl,own_keptN a5 hk h2 rfl⟩
 |rd0|rd1=>
  obtain⟨g,gx,a1,a2⟩:=h
  exact⟨g,gx,a1.keptN hk h1,own_keptN a2 hk h2 rfl⟩
 |rw0|rw1=>
  obtain⟨g,gx,a1,a2,a3⟩:=h
  exact⟨g,gx,a1.keptN hk h1,own_keptN a2 hk h2 rfl,own_keptN a3 hk h2 rfl⟩
 |pr0|pr1|co0|co1=>
  obtain⟨g,gx,v,a1,a2,a3⟩:=h
  exact⟨g,gx,v,a1.keptN hk h1,own_keptN a2 hk h2 rfl,own_keptN a3 hk h2 rfl⟩
 |fin=>
  obtain⟨a1,a2⟩:=h
  exact⟨a1.keptN hk h1,fun base'=>(PilS.keptN (base:=base') ⟨a1.1,a2 base'⟩ hk h1).2⟩
theorem not_tys{es fs:List TypeId}{w:World}{y:Nat}(h:TysIn es w y)(hn:fs.all (fun e=>!(es.contains e))=true):¬TysIn fs w y:=fun⟨e,h1,h2⟩=>by
 have h3:=List.all_eq_true.1 hn e (by simpa using h1)
 exact tysIn_not (by simpa using h3) h2 h
theorem Ph.pil_stb{k:OpC}(p:Ph):Stb (fun W=>p.pil k W):=fun w w' T es h hk hT he=>by
 have H:=stb_not he
 exact p.pil_kept h hk (fun y hy=>not_tys (hT y hy) (by simp only[List.all_cons,List.all_nil]; rw[H 98 rfl,H 124 rfl,H 141 rfl]; rfl)) (fun y hy=>.inl (not_tys (hT y hy) (by simp only[List.all_cons,List.all_nil]; rw[H 4 rfl,H 61 rfl,H 3 rfl,H 178 rfl,H 180 rfl]; rfl)))
theorem OthOk.stb{k:OpC}{F:World->Prop}(hF:OthOk k F):Stb F:=fun w w' T es h hk hT he=>hF w w' T h hk fun y hy=>.inr (.inr (.inr ⟨fun h1=>by
 obtain⟨e,h2,h3⟩:=h1
 have h4:TL17.contains e=true:=by
  simp at h2
  rcases h2 with rfl|rfl<;>rfl
 exact tysIn_not (stb_not he _ h4) h3 (hT y hy),fun h3=>(tysIn_not (stb_not he 3 rfl) h3 (hT y hy)).elim⟩))
def OpC.Q(k:OpC)(F:World->Prop)(m:Nat)(ls:List OneM)(W:World):Prop:=∃p,Ph.ok k p∧m=p.ms k∧p.ls k=ls∧p.sim k W∧p.pil k W∧F W∧k.B0<=W.heap.size
def OpC.QA(k:OpC)(F:World->Prop)(m:Nat)(o:OneM)(ls:List OneM)(sy:SayR)(W:World):Prop:=∃p,Ph.ok k p∧m=p.ms k∧p.ls k=o::ls∧sy=p.sy k∧SimQ k (p.RA k) W∧p.pil k W∧F W∧k.B0<=W.heap.size
def OpC.Q0(k:OpC)(F:World->Prop)(W:World):Prop:=SimAt W k.b k.s0∧PilI W k.pb k.x0 ⟨k.frm,k.last,[]⟩∧F W∧k.B0<=W.heap.size
def OpC.Q1(k:OpC)(F:World->Prop)(W:World):Prop:=SimAt W k.b k.s0∧(∃lb,k.B0<=lb∧PilX W k.B0 k.pb { k.xL with lb:=lb } k.cL [k.oL])∧F W∧k.B0<=W.heap.size
theorem Ph.len{k:OpC}(hk:OpOk k)(p:Ph):(p.ls k).length<=20:=by
 have h:=hk.hn
 have h1:=k.lsF_len
 cases p with
 |fen i=>simp only[Ph.ls,List.length_drop]; omega
 |_=>simp[Ph.ls,OpC.lsR,OpC.lsQ,OpC.lsP,OpC.lsC]
theorem Ph.nil{k:OpC}{p:Ph}(hp:p.ok k)(h:p.ls k=[]):p=.fin:=by
 cases p with
 |fin=>rfl
 |fen i=>
  have h1:i<k.n:=hp
  have h2:k.lsF.drop i=[]:=h
  rw[k.lsF_drop h1]at h2
  cases h2
 |_=>cases h
theorem op_sub{k:OpC}(hk:OpOk3 k){F:World->Prop}(hF:OthOk k F)(wx:World)(h:k.Q0 F wx) :
  Calls Tryz.prog 14 #[.pointer (some ⟨k.pb,0,none⟩),i6 k.now,.agg #[i6 k.kd,i6 k.at_,sT k.da]] wx (fun e w'=>e=.returned (i6 0)∧k.Q1 F w'∧Kept (LawL k.lo wx) wx w'):=by
 obtain⟨h1,h2,h3,h4⟩:=h
 have hk1:=hk.toOpOk
 have e0:=hk1.hnow
 have e1:=hk1.hlast
 have e2:=hk1.hS
 have e3:=hk1.hsn
 have e4:=hk1.hb
 have hwn:=within_id (n:=k.now) (by omega)
 have hS:PilS wx k.B0 k.pb k.x0 ⟨k.frm,k.last,[]⟩:=⟨h2.1,h2.2 _⟩
 have hX:=hS.pilX (Nat.le_refl _)
 have hx:({ k.x0 with lb:=wx.heap.size }:PilC)={ { k.x0 with lb:=wx.heap.size }with busy:=false }:=by rw[<-hk.hbz]
 have hX2:PilX wx k.B0 k.pb { { k.x0 with lb:=wx.heap.size }with busy:=false } ⟨k.frm,k.last,[]⟩ []:=by rw[<-hx]; exact hX
 have en:Int.toNat (k.sn:Int)=k.sn:=Int.toNat_natCast _
 have hq:=pilX_submit { k.x0 with lb:=wx.heap.size } ⟨k.frm,k.last,[]⟩ [] k.pb k.B0 k.kd k.at_ (k.sn:Int) (k.cn:Int) k.da k.now (by omega) (by show k.last<_; omega) (by simp) (by rw[en]; exact hk.hsc) (by rw[en,hwn]; exact hk.hold) wx hX2 h4 (fun wy v hY=>by
  rcases hk.hat with⟨a1,a2,a3,a4⟩|⟨a1,a2,a3,a4⟩
  ·have hz:=pil_begunReb { { k.x0 with lb:=wx.heap.size }with busy:=false,ak:=v } k.pb (k.sn:Int) (by have:=hk1.xS; show 0<=(k.sn:Int)∧(k.sn:Int)<k.x0.S; omega) wy hY
   rw[a1,a2,a3,a4]
   exact hz
  ·have hz:=pil_begunRW { { k.x0 with lb:=wx.heap.size }with busy:=false,ak:=v } k.pb k.at_ k.kd k.da a1 (k.geo hk1) a2 wy hY
   dsimp only at hz
   rw[a3,a4]at hz
   exact hz)
 rw[hwn,hwn,en]at hq
 refine hq.mono fun e w' hh=>?_
 obtain⟨q1,q2,q3⟩:=hh
 have q4:PilX w' k.B0 k.pb { k.xL with lb:=wx.heap.size } (askC ⟨k.frm,k.last,[]⟩ k.now 100 ⟨8,(k.sn:Int),0,0,0,0,0,0,⟨#[]⟩⟩) [k.oL]:=q2
 have ec:askC ⟨k.frm,k.last,[]⟩ k.now 100 ⟨8,(k.sn:Int),0,0,0,0,0,0,⟨#[]⟩⟩=k.cL:=by
  unfold askC
  rw[hwn]
  rfl
 rw[ec]at q4
 refine⟨q1,⟨h1.kept q3 (fun y hy=>pilT_sim hS (by omega) (by show k.b<=wx.heap.size; omega) y hy),⟨_,h4,q4⟩,hF _ _ _ h3 q3 (pilT_oth h4 rfl),Nat.le_trans h4 q3.size⟩,(hS.law q3 (Nat.le_refl _) rfl).and_ (q3.mono fun y _ hy=>pilT_lo hk1 h4 y hy)⟩
theorem op_step{k:OpC}(hk:OpOk3 k){F:World->Prop}(hF:OthOk k F)(wx:World)(h:k.Q1 F wx) :
  Calls Tryz.prog 16 #[.pointer (some ⟨k.pb,0,none⟩),i6 k.now] wx (fun e w'=>∃A ca ls,e=.returned (.slice A (List.length ls) ca)∧k.Q F (1+k.n+k.rest) ls w'∧OwnR w' k.B0 65 26 A ls.length ca (lettersC k.frm ls)∧Kept (fun y=>LawL k.lo wx y∨(k.B0<=y∧TyIn wx 65 y)) wx w'):=by
 obtain⟨h1,⟨lb,hl,h2⟩,h3,h4⟩:=h
 have hk1:=hk.toOpOk
 have e0:=hk1.hnow
 have e4:=hk1.hb
 have e5:=hk1.hn
 have hwn:=within_id (n:=k.now) (by omega)
 have hq:=pilX_step { k.xL with lb:=lb } k.cL [k.oL] k.pb k.B0 k.now (by show 1≠0; decide) (fun o ho=>by
  obtain rfl:=List.mem_singleton.1 ho
  rw[hwn]
  exact⟨rfl,rfl⟩) wx h2 h4
 refine hq.mono fun e w' hh=>?_
 obtain⟨A,ca,q1,q2,q3,q4⟩:=hh
 have hS:PilT [141] k.B0 lb k.pb k.x0.cb wx=PilT [141] k.B0 lb k.pb k.x0.cb wx:=rfl
 have hT:=h2.tys (es:=[141])
 obtain⟨v,hB,hR⟩:=h2
 refine⟨A,ca,[k.oL],q1,⟨.lea,trivial,rfl,rfl,h1.kept q4 (fun y hy=>?_),q3,hF _ _ _ h3 q4 (pilT_oth hl rfl),Nat.le_trans h4 q4.size⟩,q2.below hl,q4.mono fun y hy ht=>?_⟩
 ·rcases hy with rfl|rfl|⟨a1,_⟩|⟨a1,_⟩
  ·exact .inr ⟨98,by simp,blk_ty hB⟩
  ·exact .inr ⟨124,by simp,hR.1.blk⟩
  ·exact .inl (by omega)
  ·have a2:lb<=y:=a1
   exact .inl (by omega)
 ·have hlo:=pilT_lo hk1 hl y ht
  rcases ht with rfl|rfl|⟨_,e,a1,a2⟩|⟨a1,a2⟩
  ·exact .inl ⟨⟨98,rfl,blk_ty hB⟩,hlo⟩
  ·exact .inl ⟨⟨124,rfl,hR.1.blk⟩,hlo⟩
  ·obtain rfl:e=141:=by simpa using a1
   exact .inl ⟨⟨141,rfl,a2⟩,hlo⟩
  ·exact .inr ⟨Nat.le_trans hl a1,a2⟩
theorem op_answer{k:OpC}(hk:OpOk3 k){F:World->Prop}(hF:OthOk k F){m:Nat}{o:OneM}{ls:List OneM}(wx:World)(h:k.Q F m (o::ls) wx) :
  Calls Tryz.prog 18 #[.pointer (some ⟨k.s0.sb,0,none⟩),i6 k.now,.agg #[i6 k.frm,i6 o.to,i6 o.id,.bool false,i6 o.q.kind,i6 o.q.stripe,i6 o.q.epoch,i6 o.q.seq,i6 o.q.mask,i6 o.q.node,i6 o.q.oe,i6 o.q.os,sT o.q.block,i6 0,i6 0,i6 0,.bool false,i6 0,i6 0,i6 0,sT ⟨#[]⟩,.bool false,i6 0,i6 0,i6 0,sT ⟨#[]⟩]] wx (fun e w'=>∃sy:SayR,e=.returned (.tuple #[.agg #[i6 o.to,i6 k.frm,i6 o.id,.bool true,i6 0,i6 0,i6 0,i6 0,i6 0,i6 0,i6 0,i6 0,sT ⟨#[]⟩,i6 sy.st,i6 sy.ep,i6 sy.ou,.bool sy.rc.used,i6 sy.rc.fence,i6 sy.rc.de,i6 sy.rc.ds,sT sy.rc.block,.bool sy.rc.op,i6 sy.rc.ie,i6 sy.rc.is,i6 sy.rc.mask,sT sy.rc.staged],.bool true])∧k.QA F m o ls sy w'∧Kept (LawL k.lo wx) wx w'):=by
 obtain⟨p,a1,a2,a3,a4,a5,a6,a7⟩:=h
 have e4:=hk.toOpOk.hb
 obtain⟨sy,b1,b2⟩:=op_ans hk.toOpOk2 a1 a3 a4 (Nat.le_trans e4 a7)
 refine b2.mono fun e w' hh=>?_
 obtain⟨c1,c2,c3⟩:=hh
 obtain⟨c3,c4⟩:=c3
 have K:∃es:List TypeId,Kept (TysIn es wx) wx w'∧es.all (fun e=>[61,73,3,63].contains e)=true:=by
  rcases c3 with c3|c3
  ·exact⟨_,c3,rfl⟩
  ·exact⟨_,c3,rfl⟩
 obtain⟨es,c5,c6⟩:=K
 have c7:∀y,TysIn es wx y->TysIn [61,73,3,63] wx y:=fun y ⟨e,d1,d2⟩=>⟨e,by have h3:=List.all_eq_true.1 c6 e (by simpa using d1); simpa using h3,d2⟩
 have c8:Kept (fun y=>TysIn [61,73,3,63] wx y∧(k.lo<=y∧y<k.b)) wx w':=(c5.mono (fun y _ h=>c7 y h)).and_ c4
 exact⟨sy,c1,⟨p,a1,a2,a3,b1,c2,p.pil_kept a5 c8 (fun y hy=>not_tys hy.1 rfl) (fun y hy=>.inr (by have:=hy.2; omega)),hF _ _ _ a6 c8 (fun y hy=>.inr (.inr (.inr ⟨not_tys hy.1 rfl,fun _=>hy.2.2⟩))),Nat.le_trans a7 c8.size⟩,c8.mono fun y _ h=>by
  obtain⟨⟨e,d1,d2⟩,d3⟩:=h
  exact⟨⟨e,by simp at d1; rcases d1 with rfl|rfl|rfl|rfl<;>rfl,d2⟩,d3.1⟩⟩
theorem op_plays{k:OpC}(hk:OpOk3 k){F:World->Prop}(hF:OthOk k F)(w:World)(hB:k.B0=w.heap.size)(hs:SimAt w k.b k.s0)(hP:PilI w k.pb k.x0 ⟨k.frm,k.last,[]⟩)(hf:F w) :
  Calls Tryz.prog 23 #[.pointer (some ⟨k.s0.sb,0,none⟩),.pointer (some ⟨k.pb,0,none⟩),i6 k.now,.agg #[i6 k.kd,i6 k.at_,sT k.da]] w (fun e w'=>e=.returned (.tuple #[i6 0,sT k.dtE,.bool true])∧SimQ k k.Rend w'∧PilI w' k.pb (k.xI k.lvE k.dtE) (k.cI (k.rest:Int))∧F w'∧Kept (LawL k.lo w) w w'):=by
 have hk1:=hk.toOpOk
 have e0:=hk1.hnow
 have e4:=hk1.hb
 refine(plays_any k.lo k.s0.sb k.pb k.now k.frm k.kd k.at_ 0 (k.x0.ed+1) k.da k.dtE 13 (by omega) (by omega) (k.Q0 F) (k.Q1 F) (k.Q F) (k.QA F) w ?_ ?_ ?_ ?_ ?_ (op_sub hk hF) ?_ ?_ ?_ ?_ ?_ ?_ ⟨hs,hP,hf,by omega⟩).mono fun e w' hq=>?_
 ·exact fun _ _ _ _ h hk hT he=>⟨SimAt.stb _ _ _ _ h.1 hk hT he,PilI.stb _ _ _ _ h.2.1 hk hT he,hF.stb _ _ _ _ h.2.2.1 hk hT he,Nat.le_trans h.2.2.2 hk.size⟩
 ·intro w1 w2 T es h hk hT he
  have he2:es.all (fun e=>!(TL17.contains e))=true:=List.all_eq_true.2 fun e h5=>by
   have h6:=List.all_eq_true.1 he e h5
   simp at h6 ⊢
   exact h6.2
  have h65:es.contains 65=false:=by
   cases h6:es.contains 65 with
   |false=>rfl
   |true=>
    have h7:=List.all_eq_true.1 he 65 (by simpa using h6)
    simp at h7
  obtain⟨h1,⟨lb,h2,v,h3,h4⟩,h5,h6⟩:=h
  have H:=stb_not he2
  exact⟨SimAt.stb _ _ _ _ h1 hk hT he2,⟨lb,h2,v,h3.kept hk (fun hx=>tysIn_not (H _ rfl) (blk_ty h3) (hT _ hx)),h4.keptT hk hT (H _ rfl) (H _ rfl) h65⟩,hF.stb _ _ _ _ h5 hk hT he2,Nat.le_trans h6 hk.size⟩
 ·rintro m ls w1 w2 T es ⟨p,a1,a2,a3,a4,a5,a6,a7⟩ hk hT he
  exact⟨p,a1,a2,a3,p.sim_stb _ _ _ _ a4 hk hT he,p.pil_stb _ _ _ _ a5 hk hT he,hF.stb _ _ _ _ a6 hk hT he,Nat.le_trans a7 hk.size⟩
 ·rintro m o ls sy w1 w2 T es ⟨p,a1,a2,a3,a0,a4,a5,a6,a7⟩ hk hT he
  exact⟨p,a1,a2,a3,a0,SimQ.stb _ _ _ _ a4 hk hT he,p.pil_stb _ _ _ _ a5 hk hT he,hF.stb _ _ _ _ a6 hk hT he,Nat.le_trans a7 hk.size⟩
 ·rintro m ls wx ⟨p,a1,a2,a3,_⟩
  rw[<-a3]
  exact p.len hk1
 ·rintro wx ⟨_,⟨lb,_,v,h3,_⟩,_⟩
  exact pil_busy _ k.pb wx h3
 ·rintro m wx ⟨p,a1,a2,a3,a4,a5,_⟩
  obtain rfl:=Ph.nil a1 a3
  exact pil_busy _ k.pb wx a5.1.1
 ·intro wx h
  rw[Int.add_zero,<-hB]
  have e5:=hk1.hn
  have hm:1+k.n+k.rest<=13:=by
   have:k.rest<=6:=by
    unfold OpC.rest
    split
    ·omega
    ·split<;>omega
   omega
  exact(op_step hk hF wx h).mono fun _ _ ⟨A,ca,ls,b1,b2,b3,b4⟩=>⟨A,ca,ls,_,b1,b2,hm,b3,b4⟩
 ·intro m o ls wx h
  rw[Int.add_zero]
  exact op_answer hk hF wx h
 ·rintro m o ls sy wx ⟨p,a1,a2,a3,a0,a4,a5,a6,a7⟩
  rw[Int.add_zero]
  refine(op_rec hk.toOpOk2 a1 a3 a4 a5 a7 sy a0 k.frm rfl).mono fun e w' hh=>?_
  obtain⟨A,ca,nx,p',b1,b2,b3,b4,b5,b6,b7,b8,es,b9,b10⟩:=hh
  exact⟨A,ca,nx,_,b1,⟨p',b2,rfl,b4,b5,b6,hF _ _ _ a6 b9 (pilT_oth a7 b10),Nat.le_trans a7 b9.size⟩,by omega,b7,b8.and_ (b9.mono fun y _ hy=>pilT_lo hk1 a7 y hy)⟩
 ·rintro m wx ⟨p,a1,a2,a3,a4,a5,_⟩
  obtain rfl:=Ph.nil a1 a3
  exact pil_last _ k.pb wx a5.1.1
 ·obtain⟨q1,⟨m,p,a1,a2,a3,a4,a5,a6,_⟩,q3⟩:=hq
  obtain rfl:=Ph.nil a1 a3
  exact⟨q1,a4,⟨a5.1.1,a5.2⟩,a6,q3⟩
structure GoodS(N S:Nat)(nn T:Int)(s:SimM):Prop where
 sN:s.N=N
 sS:s.S=S
 il:s.ids.length=2
 sl:s.says.length=2
 lea:∀i,i<S->∃e H U,s.lea i=⟨e,H,U,-1⟩∧(0<=e∧e<=nn)∧U<=T+30
 rcd:∀i,i<S->∀m,m<N->∃F d q B,s.recs m i=⟨true,F,d,q,B,false,0,0,0,⟨#[]⟩⟩∧(0<=F∧F<=(s.lea i).ep)∧(0<=d∧d<=(s.lea i).ep)∧(0<=q∧q<=16777215)∧B.size=16
structure GoodP(N S cb:Nat)(frm nn T:Int)(ids:List Int)(x:PilC)(c:CM):Prop where
 xN:x.N=(N:Int)
 xS:x.S=(S:Int)
 xc:x.cb=cb
 bz:x.busy=false
 ed:0<=x.ed∧x.ed<=nn
 lv:∀i,(0<=(x.lv i).sc∧(x.lv i).sc<=1000000)∧((x.lv i).has=true->(x.lv i).sc<=T)
 cc:c=⟨frm,c.last,[]⟩
 la:0<=c.last∧c.last<=2000000+20*nn
 id:∃v,ids[Int.toNat (frm-200)]?=some v∧v<=c.last
def mkC(lo B0 b pb n S sn cn:Nat)(kd at_:Int)(da:ByteArray)(frm now:Int)(s:SimM)(x:PilC)(c:CM):OpC:=⟨lo,B0,b,pb,n,S,sn,cn,kd,at_,da,frm,now,c.last,(s.lea sn).ep+1,x,s⟩
structure GoodOp(n S sn cn:Nat)(kd at_:Int)(da:ByteArray)(frm nn T now:Int):Prop where
 hn:3<=n∧n<=6
 hS:1<=S∧S<=8
 hsn:sn<S
 hcn:cn<n-1
 hfrm:200<=frm∧frm<202
 hT:-100<=T∧T+30<=now∧0<=now∧now<=1000000
 hnn:0<=nn∧nn<=100
 hat:(kd=3∧at_=(sn:Int)∧cn=0∧da=⟨#[]⟩)∨(((kd=1∧da=⟨#[]⟩)∨(kd=2∧da.size=16))∧(0<=at_∧at_<(S:Int)*((n:Int)-1))∧at_/((n:Int)-1)=(sn:Int)∧at_%((n:Int)-1)=(cn:Int))
theorem good_ok{lo B0 b pb n S sn cn cb:Nat}{kd at_:Int}{da:ByteArray}{frm nn T now:Int}{s:SimM}{x:PilC}{c:CM}(hO:GoodOp n S sn cn kd at_ da frm nn T now)(hG:GoodS n S nn T s)(hP:GoodP n S cb frm nn T s.ids x c)(hb:b<=B0)(hlo:lo<=pb∧lo<=cb∧lo<=B0∧SimLo lo s):OpOk3 (mkC lo B0 b pb n S sn cn kd at_ da frm now s x c):=by
 obtain⟨e,H,U,hl,he,hU⟩:=hG.lea sn hO.hsn
 have h1:=hO.hT
 have h2:=hO.hnn
 have h3:=hP.la
 have h4:=hP.ed
 have h5:=(hP.lv sn).1
 have h6:=(hP.lv sn).2
 have ee:(s.lea sn).ep=e:=by rw[hl]
 refine⟨⟨⟨hO.hn,hO.hS,hO.hsn,hO.hcn,hO.hfrm,?_,?_,?_,hP.xN,hP.xS,?_,hG.sN,hG.sS,⟨H,U,?_,?_⟩,hP.id,hG.il,hG.sl,hb,⟨hlo.1,by show lo<=x.cb; rw[hP.xc]; exact hlo.2.1,hlo.2.2⟩,fun m hm=>?_⟩,?_,?_⟩,hP.bz,?_,?_,?_⟩
 ·show 0<=now∧now<=1000000
  omega
 ·show 0<=c.last∧c.last<=1000000000
  omega
 ·show 1<=(s.lea sn).ep+1∧(s.lea sn).ep+1<=16777215
  omega
 ·show 0<=x.ed∧x.ed<1099511627776
  omega
 ·show s.lea sn=⟨(s.lea sn).ep+1-1,H,U,-1⟩
  rw[ee,show e+1-1=e by omega]
  exact hl
 ·show U<=now
  omega
 ·obtain⟨F,d,q,B,a1,a2,a3,a4,a5⟩:=hG.rcd sn hO.hsn m hm
  exact⟨F,d,q,B,a1,by show 0<=F∧F<=(s.lea sn).ep+1; omega,by show 0<=d∧d<(s.lea sn).ep+1; omega,a4,a5⟩
 ·show kd=1∨kd=2∨kd=3
  rcases hO.hat with⟨a,_⟩|⟨⟨a,_⟩|⟨a,_⟩,_⟩
  ·exact .inr (.inr a)
  ·exact .inl a
  ·exact .inr (.inl a)
 ·intro h
  have h:kd=2:=h
  rcases hO.hat with⟨a,_⟩|⟨⟨a,_⟩|⟨_,a⟩,_⟩
  ·omega
  ·omega
  ·exact a
 ·show 0<=(x.lv sn).sc∧(x.lv sn).sc<=1099511627776
  omega
 ·show kd=3∨(kd≠3∧(x.lv sn).has=false)∨(kd≠3∧(x.lv sn).has=true∧now-(x.lv sn).sc>10)
  by_cases hk:kd=3
  ·exact .inl hk
  ·cases hh:(x.lv sn).has with
   |false=>exact .inr (.inl ⟨hk,rfl⟩)
   |true=>
    have h7:=h6 hh
    exact .inr (.inr ⟨hk,rfl,by omega⟩)
 ·show(kd=3∧at_=(sn:Int)∧cn=0∧da=⟨#[]⟩)∨(((kd=1∧da=⟨#[]⟩)∨(kd=2∧da.size=16))∧(0<=at_∧at_<x.S*(x.N-1))∧at_/(x.N-1)=(sn:Int)∧at_%(x.N-1)=(cn:Int))
  rw[hP.xN,hP.xS]
  exact hO.hat
def OpC.after(k:OpC)(m i:Nat):ByteArray:=if i=k.sn∧k.kd=2 then(if m=k.nd k.cn then k.da else if m=k.nd (k.n-1)then k.par else(k.s0.recs m i).block)else(k.s0.recs m i).block
theorem good_next{lo B0 b pb n S sn cn cb:Nat}{kd at_:Int}{da:ByteArray}{frm nn T now:Int}{s:SimM}{x:PilC}{c:CM}{k:OpC}(hk:k=mkC lo B0 b pb n S sn cn kd at_ da frm now s x c)(hO:GoodOp n S sn cn kd at_ da frm nn T now)(hG:GoodS n S nn T s)(hP:GoodP n S cb frm nn T s.ids x c)(hb:b<=B0)(hlo:lo<=pb∧lo<=cb∧lo<=B0∧SimLo lo s){W:World}(hW:SimQ k k.Rend W) :
  ∃s',SimAt W b s'∧(s'.sb=s.sb∧SimLo lo s')∧GoodS n S (nn+1) now s'∧s'.ids=s.ids.set (Int.toNat (frm-200)) (c.last+1)∧∀i,i<S->∀m,m<n->(s'.recs m i).block=k.after m i:=by
 have hk3:OpOk3 k:=by rw[hk]; exact good_ok hO hG hP hb hlo
 obtain⟨s',h1,h2,h3,h4,h5,h6,h7⟩:=hW
 have e1:k.s0=s:=by rw[hk]; rfl
 have e2:k.n=n:=by rw[hk]; rfl
 have e3:k.sn=sn:=by rw[hk]; rfl
 have e4:k.E=(s.lea sn).ep+1:=by rw[hk]; rfl
 have e5:k.now=now:=by rw[hk]; rfl
 have e6:k.b=b:=by rw[hk]; rfl
 have e7:k.frm=frm:=by rw[hk]; rfl
 have e8:k.last=c.last:=by rw[hk]; rfl
 have t1:=hO.hT
 obtain⟨e,H,U,hl,he,hU⟩:=hG.lea sn hO.hsn
 have ee:(s.lea sn).ep=e:=by rw[hl]
 rw[e6]at h1
 rw[e1]at h2 h3
 rw[e3]at h3 h4
 rw[e2]at h4
 have hlea:∀i,s'.lea i=if i=sn then⟨k.E,frm,now+30,-1⟩else s.lea i:=fun i=>by rw[h5,e1,e3,e5,e7]
 have hrec:∀m,m<n->∃F d q B,k.Rend m=⟨true,F,d,q,B,false,0,0,0,⟨#[]⟩⟩∧(0<=F∧F<=k.E)∧(0<=d∧d<=k.E)∧(0<=q∧q<=16777215)∧B.size=16∧B=k.after m sn:=by
  intro m hm
  obtain⟨F,d,q,B,a1,a2,a3,a4,a5⟩:=hk3.hrec m (by rw[e2]; exact hm)
  have hE:=hk3.hE
  have hf:k.fen m=⟨true,k.E,d,q,B,false,0,0,0,⟨#[]⟩⟩:=by unfold OpC.fen; rw[a1]
  have hbl:(k.s0.recs m sn).block=B:=by rw[<-e3,a1]
  by_cases h:k.kd=2
  ·have eR:k.Rend m=k.RU (k.dn k.cn k.da) (k.dn (k.n-1) k.par) m:=by simp[OpC.Rend,h]
   have eA:k.after m sn=if m=k.nd k.cn then k.da else if m=k.nd (k.n-1)then k.par else B:=by simp[OpC.after,e3,h,hbl]
   rw[eR,eA]
   unfold OpC.RU
   by_cases c1:m=k.nd k.cn
   ·simp only[if_pos c1]
    refine⟨k.E,k.E,1,k.da,?_,by omega,by omega,by omega,hk3.hda h,rfl⟩
    unfold OpC.dn
    rw[<-c1,hf]
   ·simp only[if_neg c1]
    by_cases c2:m=k.nd (k.n-1)
    ·simp only[if_pos c2]
     refine⟨k.E,k.E,1,k.par,?_,by omega,by omega,by omega,par_size hk3.toOpOk2 h,rfl⟩
     unfold OpC.dn
     rw[<-c2,hf]
    ·simp only[if_neg c2]
     exact⟨k.E,d,q,B,hf,by omega,by omega,a4,a5,rfl⟩
  ·have eR:k.Rend m=k.fen m:=by simp[OpC.Rend,h]
   have eA:k.after m sn=B:=by simp[OpC.after,h,hbl]
   rw[eR,eA]
   exact⟨k.E,d,q,B,hf,by omega,by omega,a4,a5,rfl⟩
 refine⟨s',h1,⟨by rw[h2],by rw[h2]; exact hlo.2.2.2⟩,⟨by rw[h2]; exact hG.sN,by rw[h2]; exact hG.sS,by rw[h6,e1,List.length_set]; exact hG.il,h7,fun i hi=>?_,fun i hi m hm=>?_⟩,by rw[h6,e1,e7,e8],fun i hi m hm=>?_⟩
 ·rw[hlea]
  by_cases c1:i=sn
  ·rw[if_pos c1]
   exact⟨k.E,frm,now+30,rfl,by omega,by omega⟩
  ·rw[if_neg c1]
   obtain⟨e,H,U,b1,b2,b3⟩:=hG.lea i hi
   exact⟨e,H,U,b1,by omega,by omega⟩
 ·rw[hlea]
  by_cases c1:i=sn
  ·subst c1
   rw[if_pos rfl,h4 m hm]
   obtain⟨F,d,q,B,b1,b2,b3,b4,b5,_⟩:=hrec m hm
   exact⟨F,d,q,B,b1,b2,b3,b4,b5⟩
  ·rw[if_neg c1,h3 m i c1]
   exact hG.rcd i hi m hm
 ·by_cases c1:i=sn
  ·subst c1
   rw[h4 m hm]
   obtain⟨F,d,q,B,b1,b2,b3,b4,b5,b6⟩:=hrec m hm
   rw[b1]
   exact b6
  ·rw[h3 m i c1]
   unfold OpC.after
   rw[if_neg (fun h=>c1 (h.1.trans e3)),e1]
theorem good_me{lo B0 b pb n S sn cn cb:Nat}{kd at_:Int}{da:ByteArray}{frm nn T now:Int}{s:SimM}{x:PilC}{c:CM}{k:OpC}(hk:k=mkC lo B0 b pb n S sn cn kd at_ da frm now s x c)(hO:GoodOp n S sn cn kd at_ da frm nn T now)(hG:GoodS n S nn T s)(hP:GoodP n S cb frm nn T s.ids x c) :
  GoodP n S cb frm (nn+1) now (s.ids.set (Int.toNat (frm-200)) (c.last+1)) (k.xI k.lvE k.dtE) (k.cI (k.rest:Int)):=by
 have e1:k.x0=x:=by rw[hk]; rfl
 have e2:k.n=n:=by rw[hk]; rfl
 have e5:k.now=now:=by rw[hk]; rfl
 have e7:k.frm=frm:=by rw[hk]; rfl
 have e8:k.last=c.last:=by rw[hk]; rfl
 have t1:=hO.hT
 have t2:=hO.hn
 have t3:=hP.la
 have t4:=hP.ed
 have t5:=hO.hfrm
 have hr:k.rest<=6:=by
  unfold OpC.rest
  split
  ·omega
  ·split<;>omega
 have hlW:∀i,(0<=(k.lvW i).sc∧(k.lvW i).sc<=1000000)∧((k.lvW i).has=true->(k.lvW i).sc<=now):=fun i=>by
  unfold OpC.lvW lvS
  have h:=hP.lv i
  rw[e1,e5]
  by_cases c1:i=Int.toNat (k.sn:Int)
  ·simp only[if_pos c1]
   exact⟨by omega,fun _=>Int.le_refl _⟩
  ·simp only[if_neg c1]
   rw[Int.toNat_natCast]at c1
   simp only[if_neg c1]
   exact⟨h.1,fun hh=>by have:=h.2 hh; omega⟩
 refine⟨by show k.x0.N=_; rw[e1]; exact hP.xN,by show k.x0.S=_; rw[e1]; exact hP.xS,by show k.x0.cb=_; rw[e1]; exact hP.xc,rfl,by show 0<=k.x0.ed+1∧k.x0.ed+1<=nn+1; rw[e1]; omega,fun i=>?_,by rw[<-e7]; rfl,?_,c.last+1,?_,?_⟩
 ·show(0<=(k.lvE i).sc∧(k.lvE i).sc<=1000000)∧((k.lvE i).has=true->(k.lvE i).sc<=now)
  unfold OpC.lvE
  split
  ·unfold OpC.lvU lvS
   by_cases c1:i=Int.toNat (k.sn:Int)
   ·simp only[if_pos c1]
    exact⟨by omega,fun _=>by omega⟩
   ·simp only[if_neg c1]; exact hlW i
  ·exact hlW i
 ·show 0<=k.last+1+(k.n:Int)+(k.rest:Int)∧k.last+1+(k.n:Int)+(k.rest:Int)<=_
  omega
 ·rw[List.getElem?_set_self]
  rw[hG.il]
  omega
 ·show c.last+1<=k.last+1+(k.n:Int)+(k.rest:Int)
  omega
theorem good_other{n S cb2:Nat}{frm frm2 nn T now v:Int}{ids:List Int}{x:PilC}{c:CM}(hP:GoodP n S cb2 frm2 nn T ids x c)(hT:T<=now)(hf:200<=frm∧200<=frm2∧frm≠frm2):GoodP n S cb2 frm2 (nn+1) now (ids.set (Int.toNat (frm-200)) v) x c:=by
 have h1:=hP.ed
 have h2:=hP.la
 refine⟨hP.xN,hP.xS,hP.xc,hP.bz,by omega,fun i=>⟨(hP.lv i).1,fun hh=>by have:=(hP.lv i).2 hh; omega⟩,hP.cc,by omega,?_⟩
 rw[List.getElem?_set_ne (by omega)]
 exact hP.id
structure PilP where
 (pb cb:Nat)
 frm:Int
structure PilPok(lo:Nat)(p q:PilP)(B:Nat):Prop where
 hl:lo<=p.pb∧lo<=p.cb∧lo<=q.pb∧lo<=q.cb
 hp:p.pb<B∧p.cb<B∧q.pb<B∧q.cb<B
 hd:q.pb≠p.pb∧q.pb≠p.cb∧q.cb≠p.pb∧q.cb≠p.cb
 hf:(200<=p.frm∧p.frm<202)∧(200<=q.frm∧q.frm<202)∧p.frm≠q.frm
theorem PilPok.swap{lo:Nat}{p q:PilP}{B:Nat}(h:PilPok lo p q B):PilPok lo q p B:=
 ⟨⟨h.hl.2.2.1,h.hl.2.2.2,h.hl.1,h.hl.2.1⟩,⟨h.hp.2.2.1,h.hp.2.2.2,h.hp.1,h.hp.2.1⟩,⟨h.hd.1.symm,h.hd.2.2.1.symm,h.hd.2.1.symm,h.hd.2.2.2.symm⟩,h.hf.2.1,h.hf.1,h.hf.2.2.symm⟩
def TwoP(lo N S b sb:Nat)(p q:PilP)(nn T:Int)(M:Nat->Nat->ByteArray)(W:World):Prop:=∃s x c y d,SimAt W b s∧(s.sb=sb∧SimLo lo s)∧GoodS N S nn T s∧PilI W p.pb x c∧GoodP N S p.cb p.frm nn T s.ids x c∧PilI W q.pb y d∧GoodP N S q.cb q.frm nn T s.ids y d∧(∀i,i<S->∀m,m<N->(s.recs m i).block=M m i)∧b<=W.heap.size∧PilPok lo p q W.heap.size
theorem TwoP.swap{lo N S b sb:Nat}{p q:PilP}{nn T:Int}{M:Nat->Nat->ByteArray}{W:World}(h:TwoP lo N S b sb p q nn T M W):TwoP lo N S b sb q p nn T M W:=by
 obtain⟨s,x,c,y,d,h1,h2,h3,h4,h5,h6,h7,h8,h9,h10⟩:=h
 exact⟨s,y,d,x,c,h1,h2,h3,h6,h7,h4,h5,h8,h9,h10.swap⟩
theorem TwoP.stb{lo N S b sb:Nat}{p q:PilP}{nn T:Int}{M:Nat->Nat->ByteArray}:Stb (TwoP lo N S b sb p q nn T M):=fun _ _ _ _ ⟨s,x,c,y,d,h1,h2,h3,h4,h5,h6,h7,h8,h9,h10⟩ hk hT he=>
 ⟨s,x,c,y,d,SimAt.stb _ _ _ _ h1 hk hT he,h2,h3,PilI.stb _ _ _ _ h4 hk hT he,h5,PilI.stb _ _ _ _ h6 hk hT he,h7,h8,Nat.le_trans h9 hk.size,⟨h10.hl,by have:=h10.hp; have:=hk.size; omega,h10.hd,h10.hf⟩⟩
def opM(N sn cn:Nat)(kd:Int)(da:ByteArray)(M:Nat->Nat->ByteArray)(m i:Nat):ByteArray:=if i=sn∧kd=2 then(if m=(cn+sn)%N then da else if m=(N-1+sn)%N then bytesI (xorI (xorI (intsOf (M ((N-1+sn)%N) sn)) (intsOf (M ((cn+sn)%N) sn))) (intsOf da))else M m i)else M m i
theorem oth_pil{lo:Nat}{k:OpC}{p q:PilP}(hp:k.pb=p.pb∧k.x0.cb=p.cb)(hq:PilPok lo p q k.B0){y:PilC}{d:CM}(hy:y.cb=q.cb):OthOk k (fun W=>PilI W q.pb y d):=fun w w' T h hk hT=>by
 have h1:¬T q.pb:=fun hx=>by
  rcases hT _ hx with e|e|e|e
  ·exact hq.hd.1 (e.trans hp.1)
  ·exact hq.hd.2.1 (e.trans hp.2)
  ·have:=hq.hp; have:=e.1; omega
  ·exact e.1 ⟨98,by simp,blk_ty h.1⟩
 have h2:¬T y.cb:=fun hx=>by
  rcases hT _ hx with e|e|e|e
  ·exact hq.hd.2.2.1 (hy.symm.trans (e.trans hp.1))
  ·exact hq.hd.2.2.2 (hy.symm.trans (e.trans hp.2))
  ·have:=hq.hp; have:=e.1; omega
  ·exact e.1 ⟨124,by simp,(h.2 0).blk⟩
 refine⟨h.1.kept hk h1,fun base'=>?_⟩
 obtain⟨a1,A,cp,a2,a3⟩:=h.2 (max base' w.heap.size)
 refine⟨a1,A,cp,a2.kept hk h2,(a3.kept hk (fun z hz _=>?_)).below (Nat.le_max_left _ _)⟩
 have h5:=a3.own z hz
 have h6:=Nat.le_max_right base' w.heap.size
 omega
theorem two_plays{lo N S sn cn b sb:Nat}{p q:PilP}{kd at_:Int}{da:ByteArray}{nn T now:Int}{M:Nat->Nat->ByteArray}(hO:GoodOp N S sn cn kd at_ da p.frm nn T now)(w:World)(h:TwoP lo N S b sb p q nn T M w) :
  Calls Tryz.prog 23 #[.pointer (some ⟨sb,0,none⟩),.pointer (some ⟨p.pb,0,none⟩),i6 now,.agg #[i6 kd,i6 at_,sT da]] w (fun e w'=>e=.returned (.tuple #[i6 0,sT (if kd=1 then M ((cn+sn)%N) sn else⟨#[]⟩),.bool true])∧TwoP lo N S b sb p q (nn+1) now (opM N sn cn kd da M) w'∧Kept (LawL lo w) w w'):=by
 obtain⟨s,x,c,y,d,h1,h2,h3,h4,h5,h6,h7,h8,h9,h10⟩:=h
 obtain⟨k,hk⟩:∃k,k=mkC lo w.heap.size b p.pb N S sn cn kd at_ da p.frm now s x c:=⟨_,rfl⟩
 have hlo:lo<=p.pb∧lo<=p.cb∧lo<=w.heap.size∧SimLo lo s:=⟨h10.hl.1,h10.hl.2.1,by have:=h10.hl; have:=h10.hp; omega,h2.2⟩
 have hk3:OpOk3 k:=by rw[hk]; exact good_ok hO h3 h5 h9 hlo
 have e1:k.x0=x:=by rw[hk]; rfl
 have hF:OthOk k (fun W=>PilI W q.pb y d):=oth_pil (p:=p) ⟨by rw[hk]; rfl,by rw[e1]; exact h5.xc⟩ (by rw[hk]; exact h10) h7.xc
 have hq:=op_plays hk3 hF w (by rw[hk]; rfl) (by rw[hk]; exact h1) (by rw[hk]; have e:=h5.cc; rw[e]at h4; exact h4) h6
 have ed:k.dtE=if kd=1 then M ((cn+sn)%N) sn else⟨#[]⟩:=by
  have e2:k.dtE=if kd=1 then(s.recs ((cn+sn)%N) sn).block else⟨#[]⟩:=by rw[hk]; rfl
  rw[e2,h8 sn hO.hsn _ (Nat.mod_lt _ (by have:=hO.hn; omega))]
 rw[<-ed,<-h2.1]
 have e3:(k.s0.sb,k.pb,k.now,k.kd,k.at_,k.da)=(s.sb,p.pb,now,kd,at_,da):=by rw[hk]; rfl
 simp only[Prod.mk.injEq]at e3
 obtain⟨a1,a2,a3,a4,a5,a6⟩:=e3
 rw[a1,a2,a3,a4,a5,a6]at hq
 refine hq.mono fun e w' hh=>?_
 obtain⟨q1,q2,q3,q4,q5⟩:=hh
 rw[show k.lo=lo by rw[hk]; rfl]at q5
 obtain⟨s',g1,g2,g3,g4,g5⟩:=good_next hk hO h3 h5 h9 hlo q2
 have t1:=hO.hT
 refine⟨q1,⟨s',_,_,y,d,g1,⟨rfl.trans (g2.1.trans rfl),g2.2⟩,g3,q3,by rw[g4]; exact good_me hk hO h3 h5,q4,by rw[g4]; exact good_other h7 (by omega) ⟨h10.hf.1.1,h10.hf.2.1.1,h10.hf.2.2⟩,fun i hi m hm=>?_,Nat.le_trans h9 q5.size,⟨h10.hl,by have:=h10.hp; have:=q5.size; omega,h10.hd,h10.hf⟩⟩,q5⟩
 rw[g5 i hi m hm]
 have eA:k.after m i=if i=sn∧kd=2 then(if m=(cn+sn)%N then da else if m=(N-1+sn)%N then bytesI (xorI (xorI (intsOf (s.recs ((N-1+sn)%N) sn).block) (intsOf (s.recs ((cn+sn)%N) sn).block)) (intsOf da))else(s.recs m i).block)else(s.recs m i).block:=by rw[hk]; rfl
 have hN:=hO.hn
 rw[eA,h8 i hi m hm,h8 sn hO.hsn _ (Nat.mod_lt _ (by omega)),h8 sn hO.hsn _ (Nat.mod_lt _ (by omega))]
 rfl
end Go.Proofs.YtcmpkkapkdlfhaaGreat
namespace Go.Proofs.YtcmpkkapkdlfhaaGreat
open Go.RowKit
set_option maxHeartbeats 4000000
set_option maxRecDepth 100000
def pil0(N S:Int)(cb:Nat):PilC:=⟨0,N,S,cb,fun _=>lea0,false,0,0,⟨#[]⟩,0,0,.nilFunc,false,0,0,0,false,0,0,.slice none 0 0,.slice none 0 0,false,.slice none 0 0,.slice none 0 0,noB,.pointer none,.slice none 0 0,0,⟨#[]⟩,0⟩
section
variable (w:World)(N S nr bt:Int)
def ppn_v1(d:Nat×Nat):List Value:=[i6 N,i6 S,(pt d.1 0),.bool false]++rp 4 (i6 0)++[.bool false]++rp 4 (i6 0)++[.bool false]++rp 4 (i6 0)++[.bool false]++rp 4 (i6 0)++[.bool false]++rp 4 (i6 0)++[.bool false]++rp 4 (i6 0)++[.bool false]++rp 4 (i6 0)++[.bool false]++rp 4 (i6 0)++[.bool false,i6 0,i6 0,sT ⟨#[]⟩,i6 0,i6 0,.nilFunc,.bool false,i6 0,i6 0,i6 0,.bool false,i6 0,i6 0,.slice none 0 0,.slice none 0 0,.bool false,.slice none 0 0,.slice none 0 0]++rp 6 (sT ⟨#[]⟩)++[.pointer none,.slice none 0 0,i6 0,sT ⟨#[]⟩,i6 0]
@[simp] def ppn_b1:List Bk:=[⟨w.heap.size,23,true,[i6 N,i6 S]⟩]
@[simp] def ppn_b2(d:Nat×Nat):List Bk:=[⟨w.heap.size,23,true,[i6 N,i6 S]⟩,⟨d.2,98,true,(PilC.cells { (pil0 N S d.1)with ak:=.slice none 0 0 })⟩]
@[simp] def ppn_b3(pb:Nat)(w:World)(N:Int)(S:Int)(cb:Nat):List Bk:=[⟨w.heap.size,23,true,[i6 N,i6 S]⟩,⟨pb,98,true,(PilC.cells { (pil0 N S cb)with ak:=.slice none 0 0 })⟩]
def ppn_Q:Exit->Act->World->Prop:=bodyPost Tryz.prog Tryz.f8 (fun e w'=>∃p_ q_,e=.returned ((pt p_ 0))∧w.heap.size<=p_∧w.heap.size<=q_∧Blk w' p_ 98 (PilC.cells { (pil0 N S q_)with ak:=.slice none 0 0 })∧Blk w' q_ 124 [i6 (200+nr),i6 (bt*1048576),.slice none 0 0]∧Kept (fun _=>False) w w')
def ppn_y4s:List (Nat×Value):=[(1,i6 nr),(2,i6 bt),(3,(pt w.heap.size 0)),(6,.pointer none)]
def ppn_y4v(d:Nat×Nat):List (Option Value):=[some (.agg #[i6 N,i6 S]),some (i6 nr),some (i6 (200+nr)),some (i6 bt),some (i6 (bt*1048576)),some ((pt d.1 0)),some (.agg (List.toArray (ppn_v1 N S d))),some ((pt d.2 0)),some ((pt d.2 0))]
def ppn_y4F(_:Nat×Nat)(k:Nat):Bool:=([true,true,true,true,true,true,true,true,true]:List Bool)[k]?.getD true
def ppn_y4m(d:Nat×Nat):List (List Bk):=[(ppn_b1 w N S),(ppn_b1 w N S),(ppn_b1 w N S),(ppn_b2 w N S d)]
abbrev ppn_y4X(w:World)(nr:Int)(bt:Int)(c_:Nat)(d:Nat×Nat)(W_:World):Prop:=match c_ with|0=>True|1=>w.heap.size<=d.1∧Blk W_ d.1 124 [i6 (200+nr),i6 (bt*1048576),.slice none 0 0]|2=>w.heap.size<=d.1∧Blk W_ d.1 124 [i6 (200+nr),i6 (bt*1048576),.slice none 0 0]|3=>w.heap.size<=d.1∧Blk W_ d.1 124 [i6 (200+nr),i6 (bt*1048576),.slice none 0 0]|_=>True
def ppn_y4C(z2:Nat)(i_:Nat):Prop:=cY Tryz.prog Tryz.f8 [1,1,0] 34 [] (ppn_Q w N S nr bt) [.code [1,1,1]] (ppn_y4s w nr bt) [none,none,none,none,none,some 0,some 1,some 2,none] 3 (ppn_y4v N S nr bt) ppn_y4F w (fun _=>False) (ppn_y4m w N S) z2 (ppn_y4X w nr bt) i_
end
theorem pil_new(N S nr bt:Int)(hg:3<=N∧N<=6∧1<=S∧S<=8)(hnr:0<=nr∧nr<2)(hbt:1<=bt∧bt<=524287)(w:World) :
  Calls Tryz.prog 8 #[.agg #[i6 N,i6 S],i6 nr,i6 bt] w (fun e w'=>∃p_ q_,e=.returned (.pointer (some ⟨p_,0,none⟩))∧w.heap.size<=p_∧w.heap.size<=q_∧Blk w' p_ 98 (PilC.cells { (pil0 N S q_)with ak:=.slice none 0 0 })∧Blk w' q_ 124 [i6 (200+nr),i6 (bt*1048576),.slice none 0 0]∧Kept (fun _=>False) w w'):=by
 refine cH (S:=(fun _=>False)) (n:=34) Tryz.func8 (MemOk.none w _) ?_
 refine hgS 12 (dz 3 33556480) [1,2,3,6,7] [] [(w.heap.size,0,2)] [.ops [1,0,0] [1,2,3,4,5,6,7,8,9,10,11,12,13,14,15,16,17,18],.code [1,0,1],.code [1,1]] (ppn_b1 w N S) [] (w.heap.size+1) ?_
 refine hcq (.bool true) _ _ (some 8) [] tI rfl (fun wx hm=>platRight N S hg wx) fun z2 hz2=>?_
 refine hgE 24 (dz 18 0x40004000400040000) [1,2,3,6] ([fF,fF,fF]++rE 3 (dF ((nr:Int)<0))++rE 3 (dF ((nr:Int)>=2))++rE 3 (dF ((bt:Int)<1))++[dF ((bt:Int)>524287)]) [] [.code [1,1,0],.code [1,1,1]] ⟨[(1,i6 nr),(2,i6 bt),(3,(pt w.heap.size 0)),(6,.pointer none)],(ppn_b1 w N S),[],z2⟩ ?_
 have hcl:within14 (bt*1048576)=bt*1048576:=within_id (by omega)
 have ppn_y4_X:StayY w (fun _=>False) (ppn_y4m w N S) (ppn_y4X w nr bt):=by
  intro c_ d wx w' bk hb hm hx hk
  match c_,hb,hx with
  |0,hb,hx=>
   obtain rfl:=Option.some.inj hb
   exact trivial
  |1,hb,hx=>
   obtain rfl:=Option.some.inj hb
   refine⟨hx.1,hx.2.kept hk (fun h=>?_)⟩
   exact tysIn_not rfl (blk_ty hx.2) (turned_tys hm _ h)
  |2,hb,hx=>
   obtain rfl:=Option.some.inj hb
   refine⟨hx.1,hx.2.kept hk (fun h=>?_)⟩
   exact tysIn_not rfl (blk_ty hx.2) (turned_tys hm _ h)
  |3,hb,hx=>
   obtain rfl:=Option.some.inj hb
   refine⟨hx.1,hx.2.kept hk (fun h=>?_)⟩
   exact tysIn_not rfl (blk_ty hx.2) (turned_tys hm _ h)
  |c_+4,hb,hx=>exact trivial
 have ppn_y4_c5:ppn_y4C w N S nr bt z2 5:=cyC (s:=0) (f:=27) (args:=fun d=>[i6 (200+nr),i6 (bt*1048576)]) (ob:=fun d=>[]) (fun(d:Nat×Nat)(e_:Nat)=>(e_,d.2)) (fun d=>(pt d.1 0)) (fun d=>trivial) (fun d wx bk hb hm hx hcame=>by
  obtain rfl:=Option.some.inj hb
  refine(new_partyX (200+nr) (bt*1048576) wx).mono fun e w' hq=>?_
  obtain⟨cb,h1,h2,h3,h4⟩:=hq
  rw[hcl]at h3
  exact⟨cb,h1,rfl,⟨Nat.le_trans hm.kept.size h2,h3⟩,hm.offA (fun _ h=>h) h4 (fun _ h=>h.elim) (fun b hb h=>h.elim),h4.size⟩)
 have ppn_y4_c6:ppn_y4C w N S nr bt z2 6:=cyW (s:=1) (x:=fun d=>Instr.build 98 #[(0,.agg #[i6 N,i6 S]),(1,(pt d.1 0))]) (fun(d:Nat×Nat)(_:Unit)=>d) (fun d=>.agg (List.toArray (ppn_v1 N S d))) (fun d wx bk hb hm hx hcame=>by
  obtain rfl:=Option.some.inj hb
  exact⟨(),wx,(show(Instr.build 98 #[(0,.agg #[i6 N,i6 S]),(1,(pt d.1 0))]).run Tryz.prog wx=.ok (.agg (List.toArray (ppn_v1 N S d))) wx by kernel_rfl),rfl,hx,hm,Nat.le_refl _⟩)
 have ppn_y4_c7:ppn_y4C w N S nr bt z2 7:=cyW (s:=2) (x:=fun d=>Instr.box 98 (.agg (List.toArray (ppn_v1 N S d)))) (fun(d:Nat×Nat)(e_:Nat)=>(d.1,e_)) (fun d=>(pt d.2 0)) (fun d wx bk hb hm hx hcame=>by
  obtain rfl:=Option.some.inj hb
  obtain⟨w',h1,h2,h3,h4⟩:=run_box (P:=Tryz.prog) wx 98 (.agg (List.toArray (ppn_v1 N S d)))
  exact⟨wx.heap.size,w',h1,rfl,⟨hx.1,hx.2.kept h3 (fun h=>h)⟩,hm.adopt (h3.mono (fun _ _ h=>h.elim)) h2 hm.kept.size (fun b hb e=>absurd (hm.blk b hb).lt (by dsimp only at e; omega)),h4⟩)
 have ppn_y4_R:∀e_∈(rZsY 3 [1,3,8]++[rY 0 3 0 0 2 w.heap.size,⟨2,3,oh2,fun _=>[n64 ((200+nr))],fun _=>[]⟩,⟨4,3,oh2,fun _=>[n64 ((bt*1048576))],fun _=>[]⟩]:List (RegY (Nat×Nat))),ppn_y4C w N S nr bt z2 e_.i:=certsY_reg _ ppn_y4_X (fun d=>by kernel_rfl) (by kernel_rfl) (fun d sz=>by kernel_rfl)
 have ppn_y4_A:∀i_,i_<9->ppn_y4C w N S nr bt z2 i_:=allY (l:=[5,6,7]) (by kernel_rfl) ppn_y4_R ⟨ppn_y4_c5,ppn_y4_c6,ppn_y4_c7,trivial⟩
 refine holds_mixY (Δ:=Nat×Nat) (fun _=>False) (ppn_y4v N S nr bt) ppn_y4F (ppn_y4m w N S) (ppn_y4X w nr bt) [6] (fun d=>[(6,(pt d.2 0))]) (fun d=>(ppn_b2 w N S d)) (0,0) (fun _ h=>h) (by kernel_rfl) (by kernel_rfl) (by kernel_rfl) (fun wx hm=>tI) (by kernel_rfl) ppn_y4_A (fun d=>by kernel_rfl) (fun d=>by kernel_rfl) (fun d W1 hfin hX1 hz1 hm1=>?_)
 obtain⟨cb,pb⟩:=d
 obtain⟨hc0,hc1⟩:=hX1
 replace hm1:MemOk w (fun _=>False) (ppn_b3 pb w N S cb) [] W1.heap.size W1:=hm1
 change Holds _ _ _ _ W1 (Turned (ppn_b3 pb w N S cb)) _ [.code [1,1,1]] ⟨[(6,(pt pb 0))],(ppn_b3 pb w N S cb),[],W1.heap.size⟩
 refine hgS 3 [] [6] [] [] [.code [1,1,1]] (ppn_b3 pb w N S cb) [] W1.heap.size ?_
 refine hrt [] [(pt pb 0)] [] ?_
 intro wx hm
 exact⟨pb,cb,rfl,((hm1.own _ (List.mem_of_getElem? (i:=1) rfl) rfl).resolve_left (fun h=>h)),hc0,hm.at_ 1 rfl,hc1.kept hm.kept (fun h=>tysIn_not rfl (blk_ty hc1) (turned_tys hm1 _ h)),(MemOk.bck hm1 hm).kept⟩
end Go.Proofs.YtcmpkkapkdlfhaaGreat
