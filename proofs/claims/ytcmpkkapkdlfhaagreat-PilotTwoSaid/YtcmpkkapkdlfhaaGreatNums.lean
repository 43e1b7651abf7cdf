import Derived.Test.YtcmpkkapkdlfhaaGreatPil3
namespace Go.Proofs.YtcmpkkapkdlfhaaGreat
open Go.RowKit
def PilR(w:World)(base lb cb:Nat)(c:CM)(L:List OneM)(v:Value):Prop:=PartyX 124 141 w base cb c∧∃A ca,v=.slice A L.length ca∧OwnR w lb 65 26 A L.length ca (lettersC c.frm L)∧lb<=w.heap.size
theorem PilR.keptT{w w':World}{base lb cb:Nat}{c:CM}{L:List OneM}{v:Value}{T:Nat->Prop}{es:List TypeId}(h:PilR w base lb cb c L v)(hk:Kept T w w')(hT:∀y,T y->TysIn es w y)(h1:es.contains 124=false)(h2:es.contains 141=false)(h3:es.contains 65=false):PilR w' base lb cb c L v:=by
 obtain⟨hQ,A,ca,hv,hA,hl⟩:=h
 exact⟨hQ.keptT hk hT h1 h2,A,ca,hv,hA.keptT hk hT h3,Nat.le_trans hl hk.size⟩
def PilX(w:World)(base pb:Nat)(x:PilC)(c:CM)(L:List OneM):Prop:=∃v,Blk w pb 98 (PilC.cells { x with ak:=v })∧PilR w base x.lb x.cb c L v
theorem PilX.tys{w:World}{base pb:Nat}{x:PilC}{c:CM}{L:List OneM}{es:List TypeId}(h:PilX w base pb x c L):∀y,PilT es base x.lb pb x.cb w y->TysIn (98::124::65::es) w y:=by
 obtain⟨v,hB,hQ,_⟩:=h
 rintro y (rfl|rfl|⟨_,e,he,ht⟩|⟨_,ht⟩)
 ·exact⟨98,by simp,blk_ty hB⟩
 ·exact⟨124,by simp,hQ.blk⟩
 ·exact⟨e,by simp at he ⊢; exact .inr (.inr (.inr he)),ht⟩
 ·exact⟨65,by simp,ht⟩
def PilS(w:World)(base pb:Nat)(x:PilC)(c:CM):Prop:=Blk w pb 98 (PilC.cells { x with ak:=.slice none 0 0 })∧PartyX 124 141 w base x.cb c
theorem PilS.pilX{w:World}{base pb lb':Nat}{x:PilC}{c:CM}(h:PilS w base pb x c)(hl:lb'<=w.heap.size):PilX w base pb { x with lb:=lb' } c []:=
 ⟨.slice none 0 0,h.1,h.2,none,0,rfl,OwnR.nil _ _ _ _,hl⟩
theorem PilS.keptT{w w':World}{base pb:Nat}{x:PilC}{c:CM}{T:Nat->Prop}{es:List TypeId}(h:PilS w base pb x c)(hk:Kept T w w')(hT:∀y,T y->TysIn es w y)(h0:es.contains 98=false)(h1:es.contains 124=false)(h2:es.contains 141=false):PilS w' base pb x c:=
 ⟨h.1.kept hk (fun ht=>tysIn_not h0 (blk_ty h.1) (hT _ ht)),h.2.keptT hk hT h1 h2⟩
theorem pilT_up{es ES:List TypeId}{base lb pb cb:Nat}{w wx:World}(hk:Kept (PilT ES base lb pb cb w) w wx)(he:es.all ES.contains=true):∀y,PilT es base lb pb cb wx y->PilT ES base lb pb cb w y∨w.heap.size<=y:=pilT_upS (fun _ h=>h) hk he
theorem MemOk.turnP{w wx w':World}{S T:Nat->Prop}{g:Nat}{t:TypeId}{cs cs':List Value}{bk:List Bk}{wn:List Wn}{sz:Nat}(hm:MemOk w S (⟨g,t,true,cs⟩::bk) wn sz wx)(hk:Kept T wx w')(hT:∀y,T y->S y∨w.heap.size<=y)(hB:Blk w' g t cs')(hb:∀b∈bk,¬T b.g):MemOk w S (⟨g,t,true,cs'⟩::bk) [] w'.heap.size w':=by
 refine⟨rfl,fun b h=>?_,fun b h hr=>?_,hm.nd,hm.kept.trans hk (fun k hk' h=>(hT k h).resolve_right (by omega)),fun x hx=>by cases hx⟩
 ·rcases List.mem_cons.1 h with rfl|h
  ·exact hB
  ·exact(hm.blk b (List.mem_cons_of_mem _ h)).kept hk (hb b h)
 ·rcases List.mem_cons.1 h with rfl|h
  ·exact hm.own ⟨g,t,true,cs⟩ List.mem_cons_self rfl
  ·exact hm.own b (List.mem_cons_of_mem _ h) hr
theorem off_tysP{w0 w:World}{S T:Nat->Prop}{b0:Bk}{bk:List Bk}{wn:List Wn}{sz:Nat}{es:List TypeId}(hm:MemOk w0 S (b0::bk) wn sz w)(hT:∀y,T y->TysIn es w y)(hn:bk.all (fun b=>!es.contains b.t)=true):∀b∈bk,¬T b.g:=fun b hb ht=>by
 have h1:=List.all_eq_true.1 hn b hb
 exact tysIn_not (by simpa using h1) (blk_ty (hm.blk b (List.mem_cons_of_mem _ hb))) (hT _ ht)
theorem MemOk.startP{w:World}{pb:Nat}{cs:List Value}(h:Blk w pb 98 cs):MemOk w (fun y=>y=pb) [⟨pb,98,true,cs⟩] [] w.heap.size w:=
 MemOk.start (bk:=[⟨pb,98,true,cs⟩]) (wn:=[]) (fun b hb=>by obtain rfl:=List.mem_singleton.1 hb; exact h) (fun b hb _=>by obtain rfl:=List.mem_singleton.1 hb; rfl) (by simp) (by simp)
theorem pilX_ask{w:World}{base pb:Nat}{x:PilC}{c:CM}{L:List OneM}(now to_:Int)(q:AskM)(h:PilX w base pb x c L)(hok:c.opn.length<8∧c.last<1099511627776∧0<=to_∧to_<202)(hL:L.length<=50)(hb:base<=w.heap.size) :
  Calls Tryz.prog 55 #[.pointer (some ⟨pb,0,none⟩),i6 now,i6 to_,.agg #[i6 q.kind,i6 q.stripe,i6 q.epoch,i6 q.seq,i6 q.mask,i6 q.node,i6 q.oe,i6 q.os,sT q.block]] w (fun e w'=>e=.returned (.tuple #[])∧PilX w' base pb x (askC c now to_ { q with stripe:=x.sn }) (L++[⟨to_,c.last+1,{ q with stripe:=x.sn },within14 now,within14 now⟩])∧Kept (PilT [141] base x.lb pb x.cb w) w w'):=by
 obtain⟨v,hB,hQ,A,ca,rfl,hA,hl⟩:=h
 refine(pil_ask x c pb base now to_ q A ca L hok hL w hB hQ hA hb hl).mono fun e w' hq=>?_
 obtain⟨A',c',h1,h2,h3,h4,h5⟩:=hq
 exact⟨h1,⟨_,h2,h3,A',c',by simp,by simpa[askC]using h4,Nat.le_trans hl h5.size⟩,h5⟩
theorem pilX_enter{w:World}{base pb:Nat}{x:PilC}{c:CM}{L:List OneM}(fr:Fn)(fa fb:Array Value)(h:PilX w base pb x c L) :
  Calls Tryz.prog 53 #[.pointer (some ⟨pb,0,none⟩),.func fr fa fb] w (fun e w'=>e=.returned (.tuple #[])∧PilX w' base pb { x with nx:=.func fr fa fb,lg:=false } { c with opn:=[] } L∧Kept (PilT [] base x.lb pb x.cb w) w w'):=by
 obtain⟨v,hB,hQ,A,ca,hv,hA,hl⟩:=h
 refine(pil_enter { x with ak:=v } c pb base fr fa fb w hB hQ).mono fun e w' hq=>?_
 obtain⟨h1,h2,h3,h4⟩:=hq
 refine⟨h1,⟨v,h2,h3 base,A,ca,hv,hA.kept h4 ?_,Nat.le_trans hl h4.size⟩,h4.mono fun k _ hk=>hk.elim .inl (fun h=>.inr (.inl h))⟩
 rintro y hy (e|e)
 ·exact ty_off (hA.ty y hy) e.symm (blk_ty hB) rfl
 ·exact ty_off (hA.ty y hy) e.symm hQ.blk rfl
theorem pilX_enterNil{w:World}{base pb:Nat}{x:PilC}{c:CM}{L:List OneM}(h:PilX w base pb x c L) :
  Calls Tryz.prog 53 #[.pointer (some ⟨pb,0,none⟩),.nilFunc] w (fun e w'=>e=.returned (.tuple #[])∧PilX w' base pb { x with nx:=.nilFunc,lg:=false } { c with opn:=[] } L∧Kept (PilT [] base x.lb pb x.cb w) w w'):=by
 obtain⟨v,hB,hQ,A,ca,hv,hA,hl⟩:=h
 refine(pil_enterNil { x with ak:=v } c pb base w hB hQ).mono fun e w' hq=>?_
 obtain⟨h1,h2,h3,h4⟩:=hq
 refine⟨h1,⟨v,h2,h3 base,A,ca,hv,hA.kept h4 ?_,Nat.le_trans hl h4.size⟩,h4.mono fun k _ hk=>hk.elim .inl (fun h=>.inr (.inl h))⟩
 rintro y hy (e|e)
 ·exact ty_off (hA.ty y hy) e.symm (blk_ty hB) rfl
 ·exact ty_off (hA.ty y hy) e.symm hQ.blk rfl
end Go.Proofs.YtcmpkkapkdlfhaaGreat
namespace Go.Proofs.YtcmpkkapkdlfhaaGreat
open Go.RowKit
set_option maxHeartbeats 4000000
set_option maxRecDepth 100000
def noB:Nat->ByteArray:=fun _=>⟨#[]⟩
def PilC.ended(x:PilC)(er:Int)(dt:ByteArray):PilC:={ x with busy:=false,kd:=0,at_:=0,da:=⟨#[]⟩,sn:=0,cn:=0,nx:=.nilFunc,lg:=false,en:=0,ep:=0,ou:=0,db:=false,te:=0,ts:=0,kn:=.slice none 0 0,rc:=.slice none 0 0,stl:=false,rd:=.slice none 0 0,wr:=.slice none 0 0,bl:=noB,ud:=.pointer none,er:=er,dt:=dt,ed:=x.ed+1 }
section
variable (x:PilC)(c:CM)(L:List OneM)(pb base:Nat)(w:World)
theorem pilX_end(er:Int)(dt:ByteArray)(hed:0<=x.ed∧x.ed<1099511627776)(w:World)(hX:PilX w base pb x c L):
  Calls Tryz.prog 47 #[.pointer (some ⟨pb,0,none⟩),i6 er,sT dt] w (fun e w'=>e=.returned (.tuple #[])∧PilX w' base pb (x.ended er dt) { c with opn:=[] } L∧(∀base',PartyX 124 141 w' base' x.cb { c with opn:=[] })∧Kept (PilT [] base x.lb pb x.cb w) w w'):=by
 obtain⟨v,hP,hR⟩:=hX
 have hPT:=blk_ty hP
 refine cH (S:=(fun y=>y=pb)) (n:=33) Tryz.func47 (MemOk.startP hP) ?_
 refine hgS 9 (dz 4 270565376) [0,1,2,9] [] [(pb,2,1)] [.ops [0] [4],.code [1]] [⟨pb,98,true,(PilC.cells { x with ak:=v })⟩] [] w.heap.size ?_
 refine hcV (w:=w) (S':=(PilT [] base x.lb pb x.cb w)) (Y:=Unit) (fun _=>.tuple #[]) (fun _=>[⟨pb,98,true,(PilC.cells { x with ak:=v })⟩]) (fun _ W_=>(∀base',PartyX 124 141 W_ base' x.cb { c with opn:=[] })∧PilR W_ base x.lb x.cb { c with opn:=[] } L v) (show _=some (79,[(pt x.cb 0)],some 10,[])by kernel_rfl) tI (fun wx hm=>?_) (fun y_ W1 hX1 hm1=>?_)
 ·have hm0_:=(hm.wide (S':=PilT [] base x.lb pb x.cb w) (fun _ h=>.inl h))
  have hR_:=(hR.keptT (es:=[98]) hm.kept (fun y hy=>by subst hy; exact⟨98,by simp,hPT⟩) rfl rfl rfl)
  obtain⟨hQ,A,ca,hv,hA,hl⟩:=hR_
  refine(drop_partyX hQ).mono fun e w' hq=>?_
  obtain⟨h1,h2,h3⟩:=hq
  exact⟨(),h1,⟨h2,h2 base,A,ca,hv,hA.kept h3 (fun y hy e=>ty_off (hA.ty y hy) e.symm hQ.blk rfl),Nat.le_trans hl h3.size⟩,hm0_.offA (fun _ h=>h) h3 (fun y hy=>.inl (.inr (.inl hy))) (fun b hb hy=>by obtain rfl:=List.mem_singleton.1 hb; exact ty_off (blk_ty (hm.at_ 0 rfl)) hy.symm hQ.blk rfl)⟩
 obtain⟨hD1,hR1⟩:=hX1
 refine hgE 39 (dz 27 0x1480800201480800001470800014608000000192c0800012b0800000) [] [n64 ((x.ed+1))] [(pb,43,1),(pb,44,25),(pb,70,1),(pb,71,1),(pb,72,1),(pb,72,1)] [] ⟨[],[⟨pb,98,true,(PilC.cells { x with busy:=false,kd:=0,at_:=0,da:=⟨#[]⟩,sn:=0,cn:=0,nx:=.nilFunc,lg:=false,en:=0,ep:=0,ou:=0,db:=false,te:=0,ts:=0,kn:=(.slice none 0 0),rc:=(.slice none 0 0),stl:=false,rd:=(.slice none 0 0),wr:=(.slice none 0 0),bl:=noB,ud:=(.pointer none),ak:=v,er:=er,dt:=dt,ed:=(x.ed+1) })⟩],[],W1.heap.size⟩ ?_
 refine holds_end [] (show _=some ([],dupR [])by kernel_rfl) ?_
 intro wx hm
 exact⟨rfl,⟨v,hm.at_ 0 rfl,(hR1.keptT hm.kept (turned_tys hm1) rfl rfl rfl)⟩,fun base'=>(hD1 base').keptT hm.kept (turned_tys hm1) rfl rfl,(MemOk.bck hm1 hm).kept⟩
theorem pilX_sent1(w:World)(hX:PilX w base pb x c L) :
  Calls Tryz.prog 37 #[.pointer (some ⟨pb,0,none⟩)] w (fun e w'=>∃A ca,e=.returned (.slice A L.length ca)∧OwnR w' x.lb 65 26 A L.length ca (lettersC c.frm L)∧PilS w' base pb x c∧Kept (PilT [] base x.lb pb x.cb w) w w'∧Kept (fun y=>y=pb) w w'):=by
 obtain⟨v,hP,hR⟩:=hX
 have hPT:=blk_ty hP
 refine cH (S:=(fun y=>y=pb)) (n:=12) Tryz.func37 (MemOk.startP hP) ?_
 refine hgS 27 (dz 12 0x1450800000145080000) [2] [] [(pb,69,1),(pb,69,1)] [.code [1,1,1,1]] [⟨pb,98,true,(PilC.cells { x with ak:=(.slice none 0 0) })⟩] [] w.heap.size ?_
 refine hrt [] [v] [] ?_
 intro wx hm
 obtain⟨hQ,A,ca,rfl,hA,hl⟩:=(hR.keptT (es:=[98]) hm.kept (fun y hy=>by subst hy; exact⟨98,by simp,hPT⟩) rfl rfl rfl)
 exact⟨A,ca,rfl,hA,⟨hm.at_ 0 rfl,hQ⟩,(hm.wide (S':=PilT [] base x.lb pb x.cb w) (fun _ h=>.inl h)).kept,hm.kept⟩
theorem pilX_sent(hX:PilX w base pb x c L):
  Calls Tryz.prog 37 #[.pointer (some ⟨pb,0,none⟩)] w (fun e w'=>∃A ca,e=.returned (.slice A L.length ca)∧OwnR w' x.lb 65 26 A L.length ca (lettersC c.frm L)∧PilS w' base pb x c∧Kept (PilT [] base x.lb pb x.cb w) w w'):=
 (pilX_sent1 x c L pb base w hX).mono fun _ _ h=>by
  obtain⟨A,ca,h1,h2,h3,h4,_⟩:=h
  exact⟨A,ca,h1,h2,h3,h4⟩
end
def pel_v1:List Value:=[i6 8]++rp 7 (i6 0)++[sT ⟨#[]⟩]
@[simp] def pel_b1(x:PilC)(pb:Nat)(now:Int)(v2:Value):List Bk:=[⟨pb,98,true,(PilC.cells { x with nx:=(.func (.func 54) #[(pt pb 0)] #[]),lg:=true,en:=now,ak:=v2 })⟩]
theorem pilX_enterLease(x:PilC)(c:CM)(L:List OneM)(pb:Nat)(base:Nat)(now:Int)(hcl:c.last<1099511627776)(hL:L.length<=50)(w:World)(hX:PilX w base pb x c L)(hb0:base<=w.heap.size) :
  Calls Tryz.prog 33 #[.pointer (some ⟨pb,0,none⟩),i6 now] w (fun e w'=>e=.returned (.tuple #[])∧PilX w' base pb { x with nx:=.func (.func 54) #[.pointer (some ⟨pb,0,none⟩)] #[],lg:=true,en:=now } (askC { c with opn:=[] } now 100 ⟨8,x.sn,0,0,0,0,0,0,⟨#[]⟩⟩) (L++[⟨100,c.last+1,⟨8,x.sn,0,0,0,0,0,0,⟨#[]⟩⟩,within14 now,within14 now⟩])∧Kept (PilT [141] base x.lb pb x.cb w) w w'):=by
 obtain⟨v,hP,hR⟩:=hX
 have hPT:=blk_ty hP
 refine cH (S:=(fun y=>y=pb)) (n:=21) Tryz.func33 (MemOk.startP hP) ?_
 refine hgS 8 (dz 3 0) [0,1,4,6] [] [] [.ops [0] [3],.code [1]] [⟨pb,98,true,(PilC.cells { x with ak:=v })⟩] [] w.heap.size ?_
 refine hcV (w:=w) (S':=(PilT [141] base x.lb pb x.cb w)) (Y:=Value) (fun v1=>.tuple #[]) (fun v1=>[⟨pb,98,true,(PilC.cells { x with nx:=(.func (.func 54) #[(pt pb 0)] #[]),lg:=false,ak:=v1 })⟩]) (fun v1 W_=>PilR W_ base x.lb x.cb ({ c with opn:=[] }) L v1) (show _=some (53,[(pt pb 0),.func (.func 54) #[(pt pb 0)] #[]],some 7,[])by kernel_rfl) tI (fun wx hm=>?_) (fun v1 W1 hX1 hm1=>?_)
 ·have hm0_:=(hm.wide (S':=PilT [141] base x.lb pb x.cb w) (fun _ h=>.inl h))
  have hb1:base<=wx.heap.size:=Nat.le_trans hb0 hm0_.kept.size
  have hR_:=(hR.keptT (es:=[98]) hm.kept (fun y hy=>by subst hy; exact⟨98,by simp,hPT⟩) rfl rfl rfl)
  have hX0:PilX wx base pb ({ x with ak:=v }) c L:=⟨_,hm.at_ 0 rfl,hR_⟩
  refine(pilX_enter (.func 54) #[(pt pb 0)] #[] hX0).mono fun e w' hq_=>?_
  obtain⟨he_,⟨v_,hB_,hR_2⟩,h3_⟩:=hq_
  have hT_:=hX0.tys (es:=[])
  exact⟨v_,he_,hR_2,hm0_.turnP h3_ (pilT_up hm0_.kept rfl) hB_ (off_tysP hm hT_ rfl)⟩
 have hR1:=hX1
 refine hgS 22 (dz 14 0x13308000013208000000) [17,18,19] [] [(pb,50,1),(pb,51,1)] [.ops [1,1] [3]] [⟨pb,98,true,(PilC.cells { x with nx:=(.func (.func 54) #[(pt pb 0)] #[]),lg:=true,en:=now,ak:=v1 })⟩] [] W1.heap.size ?_
 refine hcV (w:=w) (S':=(PilT [141] base x.lb pb x.cb w)) (Y:=Value) (fun v2=>.tuple #[]) (fun v2=>(pel_b1 x pb now v2)) (fun v2 W_=>PilR W_ base x.lb x.cb (askC { c with opn:=[] } now 100 ⟨8,x.sn,0,0,0,0,0,0,⟨#[]⟩⟩) (L++[⟨100,c.last+1,⟨8,x.sn,0,0,0,0,0,0,⟨#[]⟩⟩,within14 now,within14 now⟩]) v2) (show _=some (55,[(pt pb 0),i6 now,i6 100,.agg (List.toArray (pel_v1))],some 20,[])by kernel_rfl) tI (fun wx hm=>?_) (fun v2 W2 hX2 hm2=>?_)
 ·have hm0_:=(MemOk.bck hm1 hm)
  have hb1:base<=wx.heap.size:=Nat.le_trans hb0 hm0_.kept.size
  have hR_:=(hR1.keptT hm.kept (turned_tys hm1) rfl rfl rfl)
  have hX0:PilX wx base pb ({ x with nx:=(.func (.func 54) #[(pt pb 0)] #[]),lg:=true,en:=now,ak:=v1 }) ({ c with opn:=[] }) L:=⟨_,hm.at_ 0 rfl,hR_⟩
  refine(pilX_ask now 100 (⟨8,0,0,0,0,0,0,0,⟨#[]⟩⟩) hX0 ⟨by simp,hcl,by decide,by decide⟩ hL hb1).mono fun e w' hq_=>?_
  obtain⟨he_,⟨v_,hB_,hR_2⟩,h3_⟩:=hq_
  have hT_:=hX0.tys (es:=[141])
  exact⟨v_,he_,hR_2,hm0_.turnP h3_ (pilT_up hm0_.kept rfl) hB_ (off_tysP hm hT_ rfl)⟩
 have hR2:=hX2
 refine hgE 4 [] [] [] [] [] ⟨[],(pel_b1 x pb now v2),[],W2.heap.size⟩ ?_
 refine holds_end [] (show _=some ([],dupR [])by kernel_rfl) ?_
 intro wx hm
 exact⟨rfl,⟨_,hm.at_ 0 rfl,(hR2.keptT hm.kept (turned_tys hm2) rfl rfl rfl)⟩,(MemOk.bck hm2 hm).kept⟩
end Go.Proofs.YtcmpkkapkdlfhaaGreat
namespace Go.Proofs.YtcmpkkapkdlfhaaGreat
open Go.RowKit
def n24(n:Int):Bool:=decide (0<=n)&&decide (n<=16777215)
def fitB(s:ByteArray)(u:Bool):Bool:=bif u then(s.size:Int)==16 else(s.size:Int)==0
def tagB(a b:Int):Bool:=((a:Int)==0)&&(((b:Int)==0)&&true)
def okB(r:RecM):Bool:=
 (n24 r.fence&&n24 r.de&&n24 r.ds&&n24 r.ie&&n24 r.is)&&(!decide (r.mask<0)&&!decide (r.mask>63))&&(fitB r.block r.used&&fitB r.staged r.op)
  && (r.op||(tagB r.ie r.is&&r.mask==0))&&(r.used||(!r.op&&tagB r.de r.ds))
theorem n24_iff(n:Int):n24 n=true↔0<=n∧n<=16777215:=by simp[n24]
theorem size_zero{s:ByteArray}:s.size=0↔s=noText:=by
 constructor
 ·intro h
  apply ByteArray.ext
  exact Array.size_eq_zero_iff.1 h
 ·rintro rfl
  rfl
end Go.Proofs.YtcmpkkapkdlfhaaGreat
namespace Go.Proofs.YtcmpkkapkdlfhaaGreat
open Go.RowKit
set_option maxHeartbeats 4000000
set_option maxRecDepth 100000
def numOff:Nat->Nat
 |0=>1
 |1=>2
 |2=>3
 |3=>6
 |_=>7
def NumsSp(pre:List Nat):Prop:=∃i,i<5∧pre=List.range (i+1)
theorem abides_nn{β:Type}{B:Nat}{J:β->World->Prop}(h:AbidesFrom B J){s:β}{W W':World}(hs:J s W)(hk:Kept (fun _=>False) W W'):J s W':=
 h s W W' none hs ⟨hk.os,hk.tape,hk.output,hk.size,fun k hk' _=>hk.block k hk' id⟩ (fun _ e=>by cases e)
theorem nums_stops(m Bn rb:Nat)(w:World)(hB:Blk w Bn 190 [.pointer (some ⟨rb,0,none⟩)]) :
  SeqStopsK Fence.wide m Tryz.prog 138 #[.pointer (some ⟨Bn,0,none⟩)] (fun i:Nat=>#[.pointer (some ⟨rb,numOff i,none⟩)]) (fun W W'=>Kept (fun x=>x≠Bn) W W') (fun xs=>xs=[0,1,2,3,4]) NumsSp 5 w:=by
 intro l J Jx W hW hJ hJx hY h0
 have hBW:Blk W Bn 190 [.pointer (some ⟨rb,0,none⟩)]:=(hW.block Bn hB.lt).trans hB
 refine callsIn_of_holdsR (S:=(fun _=>False)) (l:=[.func (.yield l) #[] #[],.pointer (some ⟨Bn,0,none⟩)]) (n:=40) (bk:=[⟨Bn,190,false,[.pointer (some ⟨rb,0,none⟩)]⟩]) (wn:=[]) (fun _=>trivial) rfl Tryz.func138 (body_of (by kernel_rfl)) rfl (by simp) (MemOk.start (by simpa using hBW) (by simp) (by simp) (by simp)) ?_
 refine holdsR_go (fun _=>trivial) (f:=8) (hs:=[oh0,(oA 0 0 1),oh0,oh0]) [0,1,3,6] [] (show _=some (Res.mk [] (dupR [(Bn,0,1)]) [.ops [] [4,5,6,7,8,9,10,11,12,13,14,15,16,17,18,19,20,21,22,23,24,25,26,27,28,29,30,31,32,33,34,35,36]] ⟨[(0,.func (.yield l) #[] #[]),(1,.pointer (some ⟨Bn,0,none⟩)),(3,.func (.yield l) #[] #[]),(6,.pointer (some ⟨rb,1,none⟩))],[⟨Bn,190,false,[.pointer (some ⟨rb,0,none⟩)]⟩],[],W.heap.size⟩)by kernel_rfl) trivial ?_
 refine holdsR_yield (l:=[5,6,7,8,9,10,11,12,13,14,15,16,17,18,19,20,21,22,23,24,25,26,27,28,29,30,31,32,33,34,35,36]) (dst:=some 7) (lp:=l) (args:=#[.pointer (some ⟨rb,1,none⟩)]) (c:=true) (gd:=none) (fun _=>trivial) rfl (by kernel_rfl) (by kernel_rfl) (by intro j hj; cases hj) (fun _=>rfl) (fun wx hm=>?_)
 have h0:=abides_nn hJ h0 hm.kept
 refine YieldAt.mono (hY [] 0 wx h0 (by simp)) (fun e wx1 he=>?_)
 have hB0:=hm.at_ 0 rfl
 rcases he with⟨rfl,g0,k0⟩|⟨rfl,g0⟩
 ·skip
  have hC0:=hB0.kept k0 (by simp)
  refine⟨.bool true,[(7,.bool true),(0,.func (.yield l) #[] #[]),(1,.pointer (some ⟨Bn,0,none⟩)),(3,.func (.yield l) #[] #[]),(6,.pointer (some ⟨rb,1,none⟩))],rfl,rfl,[⟨Bn,190,false,[.pointer (some ⟨rb,0,none⟩)]⟩],[],(fun _=>False),MemOk.start (by simpa using hC0) (by simp) (by simp) (by simp),?_⟩
  refine holdsR_go (fun _=>trivial) (f:=9) (hs:=[oh0,oh1,⟨true,0,[⟨false,0,0,1⟩]⟩,oh1,oh1,oh1]) [0,1,8,9,13] [] (show _=some (Res.mk [true=true,true=true,true=true,true=true,true=true] (dupR [(Bn,0,1)]) [.ops [] [11,12,13,14,15,16,17,18,19,20,21,22,23,24,25,26,27,28,29,30,31,32,33,34,35,36]] ⟨[(0,.func (.yield l) #[] #[]),(1,.pointer (some ⟨Bn,0,none⟩)),(8,.bool true),(9,.func (.yield l) #[] #[]),(13,.pointer (some ⟨rb,2,none⟩))],[⟨Bn,190,false,[.pointer (some ⟨rb,0,none⟩)]⟩],[],wx1.heap.size⟩)by kernel_rfl) ⟨rfl,rfl,rfl,rfl,rfl,trivial⟩ ?_
  refine holdsR_yield (l:=[12,13,14,15,16,17,18,19,20,21,22,23,24,25,26,27,28,29,30,31,32,33,34,35,36]) (dst:=some 14) (lp:=l) (args:=#[.pointer (some ⟨rb,2,none⟩)]) (c:=true) (gd:=(some 5)) (fun _=>trivial) rfl (by kernel_rfl) (by kernel_rfl) (by intro j hj; cases hj; kernel_rfl) (fun _=>rfl) (fun wx hm=>?_)
  have h1:=abides_nn hJ g0 hm.kept
  refine YieldAt.mono (hY [0] 1 wx h1 (by simp)) (fun e wx2 he=>?_)
  have hB1:=hm.at_ 0 rfl
  rcases he with⟨rfl,g1,k1⟩|⟨rfl,g1⟩
  ·skip
   have hC1:=hB1.kept k1 (by simp)
   refine⟨.bool true,[(14,.bool true),(0,.func (.yield l) #[] #[]),(1,.pointer (some ⟨Bn,0,none⟩)),(8,.bool true),(9,.func (.yield l) #[] #[]),(13,.pointer (some ⟨rb,2,none⟩))],rfl,rfl,[⟨Bn,190,false,[.pointer (some ⟨rb,0,none⟩)]⟩],[],(fun _=>False),MemOk.start (by simpa using hC1) (by simp) (by simp) (by simp),?_⟩
   refine holdsR_go (fun _=>trivial) (f:=10) (hs:=[⟨false,2,[]⟩,oh0,oh1,⟨true,0,[⟨false,0,0,1⟩]⟩,oh1,oh1,oh1]) [0,1,16,17,21] [] (show _=some (Res.mk [true=true,true=true,true=true,true=true,true=true,true=true] (dupR [(Bn,0,1)]) [.ops [] [19,20,21,22,23,24,25,26,27,28,29,30,31,32,33,34,35,36]] ⟨[(0,.func (.yield l) #[] #[]),(1,.pointer (some ⟨Bn,0,none⟩)),(16,.bool true),(17,.func (.yield l) #[] #[]),(21,.pointer (some ⟨rb,3,none⟩))],[⟨Bn,190,false,[.pointer (some ⟨rb,0,none⟩)]⟩],[],wx2.heap.size⟩)by kernel_rfl) ⟨rfl,rfl,rfl,rfl,rfl,rfl,trivial⟩ ?_
   refine holdsR_yield (l:=[20,21,22,23,24,25,26,27,28,29,30,31,32,33,34,35,36]) (dst:=some 22) (lp:=l) (args:=#[.pointer (some ⟨rb,3,none⟩)]) (c:=true) (gd:=(some 13)) (fun _=>trivial) rfl (by kernel_rfl) (by kernel_rfl) (by intro j hj; cases hj; kernel_rfl) (fun _=>rfl) (fun wx hm=>?_)
   have h2:=abides_nn hJ g1 hm.kept
   refine YieldAt.mono (hY [0,1] 2 wx h2 (by simp)) (fun e wx3 he=>?_)
   have hB2:=hm.at_ 0 rfl
   rcases he with⟨rfl,g2,k2⟩|⟨rfl,g2⟩
   ·skip
    have hC2:=hB2.kept k2 (by simp)
    refine⟨.bool true,[(22,.bool true),(0,.func (.yield l) #[] #[]),(1,.pointer (some ⟨Bn,0,none⟩)),(16,.bool true),(17,.func (.yield l) #[] #[]),(21,.pointer (some ⟨rb,3,none⟩))],rfl,rfl,[⟨Bn,190,false,[.pointer (some ⟨rb,0,none⟩)]⟩],[],(fun _=>False),MemOk.start (by simpa using hC2) (by simp) (by simp) (by simp),?_⟩
    refine holdsR_go (fun _=>trivial) (f:=10) (hs:=[⟨false,2,[]⟩,oh0,oh1,⟨true,0,[⟨false,0,0,1⟩]⟩,oh1,oh1,oh1]) [0,1,24,25,29] [] (show _=some (Res.mk [true=true,true=true,true=true,true=true,true=true,true=true] (dupR [(Bn,0,1)]) [.ops [] [27,28,29,30,31,32,33,34,35,36]] ⟨[(0,.func (.yield l) #[] #[]),(1,.pointer (some ⟨Bn,0,none⟩)),(24,.bool true),(25,.func (.yield l) #[] #[]),(29,.pointer (some ⟨rb,6,none⟩))],[⟨Bn,190,false,[.pointer (some ⟨rb,0,none⟩)]⟩],[],wx3.heap.size⟩)by kernel_rfl) ⟨rfl,rfl,rfl,rfl,rfl,rfl,trivial⟩ ?_
    refine holdsR_yield (l:=[28,29,30,31,32,33,34,35,36]) (dst:=some 30) (lp:=l) (args:=#[.pointer (some ⟨rb,6,none⟩)]) (c:=true) (gd:=(some 21)) (fun _=>trivial) rfl (by kernel_rfl) (by kernel_rfl) (by intro j hj; cases hj; kernel_rfl) (fun _=>rfl) (fun wx hm=>?_)
    have h3:=abides_nn hJ g2 hm.kept
    refine YieldAt.mono (hY [0,1,2] 3 wx h3 (by simp)) (fun e wx4 he=>?_)
    have hB3:=hm.at_ 0 rfl
    rcases he with⟨rfl,g3,k3⟩|⟨rfl,g3⟩
    ·skip
     have hC3:=hB3.kept k3 (by simp)
     refine⟨.bool true,[(30,.bool true),(0,.func (.yield l) #[] #[]),(1,.pointer (some ⟨Bn,0,none⟩)),(24,.bool true),(25,.func (.yield l) #[] #[]),(29,.pointer (some ⟨rb,6,none⟩))],rfl,rfl,[⟨Bn,190,false,[.pointer (some ⟨rb,0,none⟩)]⟩],[],(fun _=>False),MemOk.start (by simpa using hC3) (by simp) (by simp) (by simp),?_⟩
     refine holdsR_go (fun _=>trivial) (f:=10) (hs:=[⟨false,2,[]⟩,oh0,oh1,⟨true,0,[⟨false,0,0,1⟩]⟩,oh1,oh1,oh1]) [32,33,37] [] (show _=some (Res.mk [true=true,true=true,true=true,true=true,true=true,true=true] (dupR [(Bn,0,1)]) [.ops [] [35,36]] ⟨[(32,.bool true),(33,.func (.yield l) #[] #[]),(37,.pointer (some ⟨rb,7,none⟩))],[⟨Bn,190,false,[.pointer (some ⟨rb,0,none⟩)]⟩],[],wx4.heap.size⟩)by kernel_rfl) ⟨rfl,rfl,rfl,rfl,rfl,rfl,trivial⟩ ?_
     refine holdsR_yield (l:=[36]) (dst:=some 38) (lp:=l) (args:=#[.pointer (some ⟨rb,7,none⟩)]) (c:=true) (gd:=(some 29)) (fun _=>trivial) rfl (by kernel_rfl) (by kernel_rfl) (by intro j hj; cases hj; kernel_rfl) (fun _=>rfl) (fun wx hm=>?_)
     have h4:=abides_nn hJ g3 hm.kept
     refine YieldAt.mono (hY [0,1,2,3] 4 wx h4 (by simp)) (fun e wx5 he=>?_)
     have hB4:=hm.at_ 0 rfl
     rcases he with⟨rfl,g4,k4⟩|⟨rfl,g4⟩
     ·skip
      have hC4:=hB4.kept k4 (by simp)
      refine⟨.bool true,[(38,.bool true),(32,.bool true),(33,.func (.yield l) #[] #[]),(37,.pointer (some ⟨rb,7,none⟩))],rfl,rfl,[⟨Bn,190,false,[.pointer (some ⟨rb,0,none⟩)]⟩],[],(fun _=>False),MemOk.start (by simpa using hC4) (by simp) (by simp) (by simp),?_⟩
      refine holdsR_go (fun _=>trivial) (f:=5) (hs:=[⟨false,2,[]⟩]) [] [] (show _=some (Res.mk [true=true] (dupR []) [] ⟨[],[⟨Bn,190,false,[.pointer (some ⟨rb,0,none⟩)]⟩],[],wx5.heap.size⟩)by kernel_rfl) ⟨rfl,trivial⟩ ?_
      refine holdsR_fin rfl (fun wx hm=>⟨⟨_,rfl⟩,.inl ⟨_,rfl,abides_nn hJ g4 hm.kept⟩⟩)
     ·skip
      refine⟨.bool false,[(38,.bool false),(32,.bool true),(33,.func (.yield l) #[] #[]),(37,.pointer (some ⟨rb,7,none⟩))],rfl,rfl,[],[],(fun _=>False),MemOk.none _ _,?_⟩
      refine holdsR_go (fun _=>trivial) (f:=5) (hs:=[⟨false,2,[]⟩]) [] [] (show _=some (Res.mk [true=true] (dupR []) [] ⟨[],[],[],wx5.heap.size⟩)by kernel_rfl) ⟨rfl,trivial⟩ ?_
      refine holdsR_fin rfl (fun wx hm=>⟨⟨_,rfl⟩,.inr ⟨_,⟨4,by omega,rfl⟩,abides_nn hJx g4 hm.kept⟩⟩)
    ·skip
     refine⟨.bool false,[(30,.bool false),(0,.func (.yield l) #[] #[]),(1,.pointer (some ⟨Bn,0,none⟩)),(24,.bool true),(25,.func (.yield l) #[] #[]),(29,.pointer (some ⟨rb,6,none⟩))],rfl,rfl,[],[],(fun _=>False),MemOk.none _ _,?_⟩
     refine holdsR_go (fun _=>trivial) (f:=13) (hs:=[⟨false,2,[]⟩,oh0,oh0,oh0,oh0,oh0,oh0,oh0,⟨false,3,[]⟩]) [] [] (show _=some (Res.mk [true=true,false=false,false=false,false=false,false=false,false=false,false=false,false=false] (dupR []) [] ⟨[],[],[],wx4.heap.size⟩)by kernel_rfl) ⟨rfl,rfl,rfl,rfl,rfl,rfl,rfl,rfl,trivial⟩ ?_
     refine holdsR_fin rfl (fun wx hm=>⟨⟨_,rfl⟩,.inr ⟨_,⟨3,by omega,rfl⟩,abides_nn hJx g3 hm.kept⟩⟩)
   ·skip
    refine⟨.bool false,[(22,.bool false),(0,.func (.yield l) #[] #[]),(1,.pointer (some ⟨Bn,0,none⟩)),(16,.bool true),(17,.func (.yield l) #[] #[]),(21,.pointer (some ⟨rb,3,none⟩))],rfl,rfl,[],[],(fun _=>False),MemOk.none _ _,?_⟩
    refine holdsR_go (fun _=>trivial) (f:=21) (hs:=[⟨false,2,[]⟩,oh0,oh0,oh0,oh0,oh0,oh0,oh0,⟨false,3,[]⟩,oh0,oh0,oh0,oh0,oh0,oh0,oh0,⟨false,3,[]⟩]) [] [] (show _=some (Res.mk [true=true,false=false,false=false,false=false,false=false,false=false,false=false,false=false,false=false,false=false,false=false,false=false,false=false,false=false,false=false] (dupR []) [] ⟨[],[],[],wx3.heap.size⟩)by kernel_rfl) ⟨rfl,rfl,rfl,rfl,rfl,rfl,rfl,rfl,rfl,rfl,rfl,rfl,rfl,rfl,rfl,trivial⟩ ?_
    refine holdsR_fin rfl (fun wx hm=>⟨⟨_,rfl⟩,.inr ⟨_,⟨2,by omega,rfl⟩,abides_nn hJx g2 hm.kept⟩⟩)
  ·skip
   refine⟨.bool false,[(14,.bool false),(0,.func (.yield l) #[] #[]),(1,.pointer (some ⟨Bn,0,none⟩)),(8,.bool true),(9,.func (.yield l) #[] #[]),(13,.pointer (some ⟨rb,2,none⟩))],rfl,rfl,[],[],(fun _=>False),MemOk.none _ _,?_⟩
   refine holdsR_go (fun _=>trivial) (f:=29) (hs:=[⟨false,2,[]⟩,oh0,oh0,oh0,oh0,oh0,oh0,oh0,⟨false,3,[]⟩,oh0,oh0,oh0,oh0,oh0,oh0,oh0,⟨false,3,[]⟩,oh0,oh0,oh0,oh0,oh0,oh0,oh0,⟨false,3,[]⟩]) [] [] (show _=some (Res.mk [true=true,false=false,false=false,false=false,false=false,false=false,false=false,false=false,false=false,false=false,false=false,false=false,false=false,false=false,false=false,false=false,false=false,false=false,false=false,false=false,false=false,false=false] (dupR []) [] ⟨[],[],[],wx2.heap.size⟩)by kernel_rfl) ⟨rfl,rfl,rfl,rfl,rfl,rfl,rfl,rfl,rfl,rfl,rfl,rfl,rfl,rfl,rfl,rfl,rfl,rfl,rfl,rfl,rfl,rfl,trivial⟩ ?_
   refine holdsR_fin rfl (fun wx hm=>⟨⟨_,rfl⟩,.inr ⟨_,⟨1,by omega,rfl⟩,abides_nn hJx g1 hm.kept⟩⟩)
 ·skip
  refine⟨.bool false,[(7,.bool false),(0,.func (.yield l) #[] #[]),(1,.pointer (some ⟨Bn,0,none⟩)),(3,.func (.yield l) #[] #[]),(6,.pointer (some ⟨rb,1,none⟩))],rfl,rfl,[],[],(fun _=>False),MemOk.none _ _,?_⟩
  refine holdsR_go (fun _=>trivial) (f:=36) (hs:=[oh0,oh0,oh0,oh0,oh0,oh0,oh0,⟨false,3,[]⟩,oh0,oh0,oh0,oh0,oh0,oh0,oh0,⟨false,3,[]⟩,oh0,oh0,oh0,oh0,oh0,oh0,oh0,⟨false,3,[]⟩,oh0,oh0,oh0,oh0,oh0,oh0,oh0,⟨false,3,[]⟩]) [] [] (show _=some (Res.mk [false=false,false=false,false=false,false=false,false=false,false=false,false=false,false=false,false=false,false=false,false=false,false=false,false=false,false=false,false=false,false=false,false=false,false=false,false=false,false=false,false=false,false=false,false=false,false=false,false=false,false=false,false=false,false=false] (dupR []) [] ⟨[],[],[],wx1.heap.size⟩)by kernel_rfl) ⟨rfl,rfl,rfl,rfl,rfl,rfl,rfl,rfl,rfl,rfl,rfl,rfl,rfl,rfl,rfl,rfl,rfl,rfl,rfl,rfl,rfl,rfl,rfl,rfl,rfl,rfl,rfl,rfl,trivial⟩ ?_
  refine holdsR_fin rfl (fun wx hm=>⟨⟨_,rfl⟩,.inr ⟨_,⟨0,by omega,rfl⟩,abides_nn hJx g0 hm.kept⟩⟩)
theorem nums_any(rb:Nat)(w:World) :
  Calls Tryz.prog 117 #[.pointer (some ⟨rb,0,none⟩)] w (fun e w'=>e=.returned (.func (.func 138) #[] #[.pointer (some ⟨w.heap.size,0,none⟩)])∧Blk w' w.heap.size 190 [.pointer (some ⟨rb,0,none⟩)]∧Kept (fun _=>False) w w'):=by
 refine cH (S:=(fun _=>False)) (n:=4) Tryz.func117 (MemOk.none w _) ?_
 refine hgS 13 (dz 4 0) [2] [] [] [.code [1,1]] [⟨w.heap.size,190,true,[(pt rb 0)]⟩] [] (w.heap.size+1) ?_
 refine hrt [] [.func (.func 138) #[] #[(pt w.heap.size 0)]] [] ?_
 intro wx hm
 exact⟨rfl,hm.at_ 0 rfl,hm.kept⟩
end Go.Proofs.YtcmpkkapkdlfhaaGreat
