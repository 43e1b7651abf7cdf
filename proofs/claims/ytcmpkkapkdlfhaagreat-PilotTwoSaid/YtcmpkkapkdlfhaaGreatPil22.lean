import Derived.Test.YtcmpkkapkdlfhaaGreatPhase7
import Derived.Shelf.Sort.Plain
import Derived.Shelf.Slices.In.SortNone
import Derived.Sort.OwnSortedInts
namespace Go.Proofs.YtcmpkkapkdlfhaaGreat
open Go.RowKit
theorem SimQ.pil{k:OpC}(hk:OpOk k){R:Nat->RecM}{W w':World}{x:PilC}{c:CM}{es:List TypeId}(h:SimQ k R W)(hS:PilS W k.B0 k.pb x c)(hx:x.cb=k.x0.cb)(hb:k.B0<=W.heap.size)(hK:Kept (PilT es k.B0 W.heap.size k.pb k.x0.cb W) W w'):SimQ k R w':=by
 have h1:=hk.hb
 exact h.kept hK (fun y hy=>pilT_sim hS h1 (Nat.le_trans h1 hb) y (by rw[hx]; exact hy))
theorem RF_all{k:OpC}(i:Nat)(hi:i=k.n):∀m,m<k.n->k.RF i m=k.fen m:=fun m hm=>by
 subst hi
 unfold OpC.RF
 rw[if_pos hm]
theorem RU_fen{k:OpC}:∀m,m<k.n->k.fen m=k.RU (k.fen (k.nd k.cn)) (k.fen (k.nd (k.n-1))) m:=fun m _=>by
 unfold OpC.RU
 by_cases e:m=k.nd k.cn
 ·subst e; simp
 ·by_cases e2:m=k.nd (k.n-1)
  ·rw[if_neg e,if_pos e2,e2]
  ·rw[if_neg e,if_neg e2]
def OpC.nxt(k:OpC)(p:Ph)(ls:List OneM)(W:World)(e:Ending)(w':World):Prop:=∃A ca nx p',e=.returned (.slice A (List.length nx) ca)∧Ph.ok k p'∧Ph.ms k p'+1=p.ms k∧p'.ls k=ls++nx∧p'.sim k w'∧p'.pil k w'∧OwnR w' W.heap.size 65 26 A nx.length ca (lettersC k.frm nx)∧Kept (LawT W) W w'∧∃es:List TypeId,Kept (PilT es k.B0 W.heap.size k.pb k.x0.cb W) W w'∧es.contains 3=false
theorem op_fen{k:OpC}(hk:OpOk2 k){i:Nat}(hi:i<k.n){g:Nat×Nat}{W:World}(hs:SimQ k (k.RF (i+1)) W)(hS:PilS W k.B0 k.pb (k.xF g) (k.cF i))(hg:k.gF i g W)(hb:k.B0<=W.heap.size)(o:OneM)(sy:SayR)(frm:Int)(ho:o=k.oF i)(hsy:sy=k.syF i)(hfrm:frm=k.frm) :
  Calls Tryz.prog 19 #[.pointer (some ⟨k.pb,0,none⟩),i6 k.now,.agg #[i6 o.to,i6 frm,i6 o.id,.bool true,i6 0,i6 0,i6 0,i6 0,i6 0,i6 0,i6 0,i6 0,sT ⟨#[]⟩,i6 sy.st,i6 sy.ep,i6 sy.ou,.bool sy.rc.used,i6 sy.rc.fence,i6 sy.rc.de,i6 sy.rc.ds,sT sy.rc.block,.bool sy.rc.op,i6 sy.rc.ie,i6 sy.rc.is,i6 sy.rc.mask,sT sy.rc.staged]] W (k.nxt (.fen i) (k.lsF.drop (i+1)) W):=by
 have hk1:=hk.toOpOk
 by_cases hl:i+1<k.n
 ·refine(recv_fence hk1 hi (α:=Unit) (fun _=>k.xF g) (fun _=>k.cF (i+1)) (fun _=>[]) (fun _=>k.gF (i+1) g) (fun _=>(k.gF_stb _ g).s) (fun _=>rfl) (fun _=>⟨(),rfl,rfl,rfl,fun _ h=>h⟩) (fun h=>by omega) hS hg hb o sy frm ho hsy hfrm).mono fun e w' ⟨_,A,ca,q1,q2,q3,q4,q5,q6⟩=>?_
  exact⟨A,ca,[],.fen (i+1),q1,hl,by simp only[Ph.ms]; omega,by simp[Ph.ls],hs.pil hk1 hS rfl hb q5,⟨g,q3,q4⟩,q2,q6,_,q5,rfl⟩
 ·have hn:i+1=k.n:=by omega
  have hd:k.lsF.drop (i+1)=[]:=by rw[List.drop_eq_nil_iff,k.lsF_len]; omega
  have hf:=hs.congr (RF_all (i+1) hn)
  rw[hd]
  rcases hk.hkd with h|h|h
  ·have er:k.rest=2:=by simp[OpC.rest,h]
   refine(recv_fence hk1 hi (fun gx=>k.xR g gx noB) (fun _=>k.cR 0) (fun _=>k.lsR) (fun gx=>k.gR gx) (fun gx=>(k.gR_stb gx).s) (fun _=>rfl) (fun h=>by omega) (fun _ wx hX hbx=>work_read hk1 h hX hbx) hS hg hb o sy frm ho hsy hfrm).mono fun e w' ⟨gx,A,ca,q1,q2,q3,q4,q5,q6⟩=>?_
   exact⟨A,ca,k.lsR,.rd0,q1,h,by simp only[Ph.ms,er]; omega,rfl,hf.pil hk1 hS rfl hb q5,⟨g,gx,q3,q4⟩,q2,q6,_,q5,rfl⟩
  ·have er:k.rest=6:=by simp[OpC.rest,h]
   refine(recv_fence hk1 hi (fun gx=>k.xQ g gx noB) (fun _=>k.cQ 0) (fun _=>k.lsQ) (fun gx=>k.gQ gx) (fun gx=>(k.gQ_stb gx).s) (fun _=>rfl) (fun h=>by omega) (fun _ wx hX hbx=>work_write hk1 h hX hbx) hS hg hb o sy frm ho hsy hfrm).mono fun e w' ⟨gx,A,ca,q1,q2,q3,q4,q5,q6⟩=>?_
   exact⟨A,ca,k.lsQ,.rw0,q1,h,by simp only[Ph.ms,er]; omega,rfl,hf.pil hk1 hS rfl hb q5,⟨g,gx,q3,q4⟩,q2,q6,_,q5,rfl⟩
  ·have er:k.rest=0:=by simp[OpC.rest,h]
   have el:k.lvE=k.lvW:=by simp[OpC.lvE,h]
   have ed:k.dtE=⟨#[]⟩:=by simp[OpC.dtE,h]
   have eR:k.Rend=k.fen:=by simp[OpC.Rend,h]
   refine(recv_fence hk1 hi (α:=Unit) (fun _=>k.xI k.lvW ⟨#[]⟩) (fun _=>k.cI 0) (fun _=>[]) (fun _ W_=>∀base',PartyX 124 141 W_ base' k.x0.cb (k.cI 0)) (fun _=>stbS_party) (fun _=>rfl) (fun h=>by omega) (fun _ wx hX hbx=>(work_reb hk1 h hX hbx).mono fun _ _ ⟨h1,h2,h3,h4⟩=>⟨h1,⟨(),h2,h3⟩,h4⟩) hS hg hb o sy frm ho hsy hfrm).mono fun e w' ⟨_,A,ca,q1,q2,q3,q4,q5,q6⟩=>?_
   refine⟨A,ca,[],.fin,q1,trivial,by simp only[Ph.ms,er]; omega,rfl,?_,?_,q2,q6,_,q5,rfl⟩
   ·show SimQ k k.Rend w'
    rw[eR]
    exact hf.pil hk1 hS rfl hb q5
   ·show PilS w' k.B0 k.pb (k.xI k.lvE k.dtE) (k.cI (k.rest:Int))∧∀base',PartyX 124 141 w' base' k.x0.cb (k.cI (k.rest:Int))
    rw[el,ed,er]
    exact⟨q3,q4⟩
theorem op_rec{k:OpC}(hk:OpOk2 k){p:Ph}(hp:p.ok k){o:OneM}{ls:List OneM}(hl:p.ls k=o::ls){W:World}(hs:SimQ k (p.RA k) W)(hP:p.pil k W)(hb:k.B0<=W.heap.size)(sy:SayR)(hsy:sy=p.sy k)(frm:Int)(hfrm:frm=k.frm) :
  Calls Tryz.prog 19 #[.pointer (some ⟨k.pb,0,none⟩),i6 k.now,.agg #[i6 o.to,i6 frm,i6 o.id,.bool true,i6 0,i6 0,i6 0,i6 0,i6 0,i6 0,i6 0,i6 0,sT ⟨#[]⟩,i6 sy.st,i6 sy.ep,i6 sy.ou,.bool sy.rc.used,i6 sy.rc.fence,i6 sy.rc.de,i6 sy.rc.ds,sT sy.rc.block,.bool sy.rc.op,i6 sy.rc.ie,i6 sy.rc.is,i6 sy.rc.mask,sT sy.rc.staged]] W (k.nxt p ls W):=by
 have hk1:=hk.toOpOk
 have hn:=hk1.hn
 have h3:=hk1.hlast
 have hcn:=hk1.hcn
 cases p with
 |lea=>
  obtain⟨rfl,rfl⟩:=List.cons.inj hl
  refine(recv_lease hk1 hP hb _ sy frm rfl hsy hfrm).mono fun e w' ⟨g,A,ca,q1,q2,q3,q4,q5,q6⟩=>?_
  rw[hfrm]at q2
  exact⟨A,ca,k.lsF,.fen 0,q1,by show 0<k.n; omega,by simp only[Ph.ms]; omega,rfl,(hs.pil hk1 hP rfl hb q5).congr (fun m _=>by simp[Ph.RA,OpC.RF,Ph.RB]),⟨g,q3,q4⟩,q2,q6,_,q5,rfl⟩
 |fen i=>
  have hi:i<k.n:=hp
  have e:k.lsF.drop i=o::ls:=hl
  rw[k.lsF_drop hi]at e
  obtain⟨rfl,rfl⟩:=List.cons.inj e
  obtain⟨g,hS,hg⟩:=hP
  exact op_fen hk hi hs hS hg hb _ sy frm rfl hsy hfrm
 |rd0=>
  obtain⟨rfl,rfl⟩:=List.cons.inj hl
  obtain⟨g,gx,hS,hg⟩:=hP
  refine(recv_read0 hk1 hS hg hb _ sy frm rfl hsy hfrm).mono fun e w' ⟨A,ca,q1,q2,q3,q4,q5,q6⟩=>?_
  exact⟨A,ca,[],.rd1,q1,hp,rfl,rfl,SimQ.pil hk1 hs hS rfl hb q5,⟨g,gx,q3,q4⟩,q2,q6,_,q5,rfl⟩
 |rd1=>
  obtain⟨rfl,rfl⟩:=List.cons.inj hl
  obtain⟨g,gx,hS,hg⟩:=hP
  have h:k.kd=1:=hp
  have er:k.rest=2:=by simp[OpC.rest,h]
  have el:k.lvE=k.lvW:=by simp[OpC.lvE,h]
  have ed:k.dtE=k.blk (k.nd k.cn):=by simp[OpC.dtE,h]
  have eR:k.Rend=k.fen:=by simp[OpC.Rend,h]
  refine(recv_read1 hk1 (blk_size hk1 _) hS hg hb _ sy frm rfl hsy hfrm).mono fun e w' ⟨A,ca,q1,q2,q3,q4,q5,q6⟩=>?_
  refine⟨A,ca,[],.fin,q1,trivial,rfl,rfl,?_,?_,q2,q6,_,q5,rfl⟩
  ·show SimQ k k.Rend w'
   rw[eR]
   exact SimQ.pil hk1 hs hS rfl hb q5
  ·show PilS w' k.B0 k.pb (k.xI k.lvE k.dtE) (k.cI (k.rest:Int))∧∀base',PartyX 124 141 w' base' k.x0.cb (k.cI (k.rest:Int))
   rw[el,ed,er]
   exact⟨q3,q4⟩
 |rw0=>
  obtain⟨rfl,rfl⟩:=List.cons.inj hl
  obtain⟨g,gx,hS,hg⟩:=hP
  refine(recv_rw0 hk1 hS hg hb _ sy frm rfl hsy hfrm).mono fun e w' ⟨A,ca,q1,q2,q3,q4,q5,q6⟩=>?_
  exact⟨A,ca,[],.rw1,q1,hp,rfl,rfl,SimQ.pil hk1 hs hS rfl hb q5,⟨g,gx,q3,q4⟩,q2,q6,_,q5,rfl⟩
 |rw1=>
  obtain⟨rfl,rfl⟩:=List.cons.inj hl
  obtain⟨g,gx,hS,hg⟩:=hP
  refine(recv_rw1 hk1 (hk.hda hp) hS hg hb _ sy frm rfl hsy hfrm).mono fun e w' ⟨v,A,ca,q1,q2,q3,q4,q5,q6⟩=>?_
  exact⟨A,ca,k.lsP,.pr0,q1,hp,rfl,rfl,(SimQ.pil hk1 hs hS rfl hb q5).congr RU_fen,⟨g,gx,v,q3,q4⟩,q2,q6,_,q5,rfl⟩
 |pr0=>
  obtain⟨rfl,rfl⟩:=List.cons.inj hl
  obtain⟨g,gx,v,hS,hg⟩:=hP
  refine(recv_upd hk1 (cc:=k.cP 0) (o:=k.oP k.cn k.da 0) (R:=[k.oP (k.n-1) k.par 1]) (col:=k.cn) rfl rfl (by omega) rfl (by show 1<=k.last+1+(k.n:Int)+2+((0:Nat):Int)+1∧k.last+1+(k.n:Int)+2+((0:Nat):Int)+1<=_; omega) (fun wx h1 h2=>said_P rfl (pU_open hk1 _ _ _ _).1 rfl wx h1 h2) (α:=Unit) (fun _=>k.xU g gx v) (fun _=>k.cP 1) (fun _=>[]) (fun _=>k.gU v (k.pU true false false false)) (fun _=>(k.gU_stb v _).s) (fun _=>rfl) (fun _=>⟨(),rfl,rfl,rfl,fun _ h=>h⟩) (fun h=>by cases h) hS hg hb sy frm hsy hfrm).mono fun e w' ⟨_,A,ca,q1,q2,q3,q4,q5,q6⟩=>?_
  exact⟨A,ca,[],.pr1,q1,hp,rfl,rfl,SimQ.pil hk1 hs hS rfl hb q5,⟨g,gx,v,q3,q4⟩,q2,q6,_,q5,rfl⟩
 |pr1=>
  obtain⟨rfl,rfl⟩:=List.cons.inj hl
  obtain⟨g,gx,v,hS,hg⟩:=hP
  refine(recv_upd hk1 (cc:=k.cP 1) (o:=k.oP (k.n-1) k.par 1) (R:=[]) (col:=k.n-1) rfl rfl (by omega) rfl (by show 1<=k.last+1+(k.n:Int)+2+((1:Nat):Int)+1∧k.last+1+(k.n:Int)+2+((1:Nat):Int)+1<=_; omega) (fun wx h1 h2=>said_P rfl (pU_open hk1 _ _ _ _).2 rfl wx h1 h2) (α:=Unit) (fun _=>k.xU g gx v) (fun _=>k.cC 0) (fun _=>k.lsC) (fun _=>k.gU v (k.pU true true false false)) (fun _=>(k.gU_stb v _).s) (fun _=>rfl) (fun h=>absurd rfl h) (fun _=>.inl ⟨rfl,fun wx lb hX hg hbx=>(work_comm hk1 hX hg hbx).mono fun _ _ ⟨h1,h2,h3⟩=>⟨h1,⟨(),h2⟩,h3⟩⟩) hS hg hb sy frm hsy hfrm).mono fun e w' ⟨_,A,ca,q1,q2,q3,q4,q5,q6⟩=>?_
  exact⟨A,ca,k.lsC,.co0,q1,hp,rfl,rfl,SimQ.pil hk1 hs hS rfl hb q5,⟨g,gx,v,q3,q4⟩,q2,q6,_,q5,rfl⟩
 |co0=>
  obtain⟨rfl,rfl⟩:=List.cons.inj hl
  obtain⟨g,gx,v,hS,hg⟩:=hP
  refine(recv_upd hk1 (cc:=k.cC 0) (o:=k.oC k.cn 0) (R:=[k.oC (k.n-1) 1]) (col:=k.cn) rfl rfl (by omega) rfl (by show 1<=k.last+1+(k.n:Int)+2+2+((0:Nat):Int)+1∧k.last+1+(k.n:Int)+2+2+((0:Nat):Int)+1<=_; omega) (fun wx h1 h2=>said_C rfl (by show(1:Int)≠0; decide) (pU_done hk1 _ _ _ _).1 rfl wx h1 h2) (α:=Unit) (fun _=>k.xU g gx v) (fun _=>k.cC 1) (fun _=>[]) (fun _=>k.gU v (k.pU true true true false)) (fun _=>(k.gU_stb v _).s) (fun _=>rfl) (fun _=>⟨(),rfl,rfl,rfl,fun _ h=>h⟩) (fun h=>by cases h) hS hg hb sy frm hsy hfrm).mono fun e w' ⟨_,A,ca,q1,q2,q3,q4,q5,q6⟩=>?_
  exact⟨A,ca,[],.co1,q1,hp,rfl,rfl,SimQ.pil hk1 hs hS rfl hb q5,⟨g,gx,v,q3,q4⟩,q2,q6,_,q5,rfl⟩
 |co1=>
  obtain⟨rfl,rfl⟩:=List.cons.inj hl
  obtain⟨g,gx,v,hS,hg⟩:=hP
  have h:k.kd=2:=hp
  have er:k.rest=6:=by simp[OpC.rest,h]
  have el:k.lvE=k.lvU:=by simp[OpC.lvE,h]
  have ed:k.dtE=⟨#[]⟩:=by simp[OpC.dtE,h]
  have eR:k.Rend=k.RU (k.dn k.cn k.da) (k.dn (k.n-1) k.par):=by simp[OpC.Rend,h]
  have ec:(⟨k.frm,k.last+1+(k.n:Int)+2+2+2,[]⟩:CM)=k.cI 6:=by
   unfold OpC.cI
   rw[show k.last+1+(k.n:Int)+2+2+2=k.last+1+(k.n:Int)+6 by omega]
  refine(recv_upd hk1 (cc:=k.cC 1) (o:=k.oC (k.n-1) 1) (R:=[]) (col:=k.n-1) rfl rfl (by omega) rfl (by show 1<=k.last+1+(k.n:Int)+2+2+((1:Nat):Int)+1∧k.last+1+(k.n:Int)+2+2+((1:Nat):Int)+1<=_; omega) (fun wx h1 h2=>said_C rfl (by show(1:Int)≠0; decide) (pU_done hk1 _ _ _ _).2 rfl wx h1 h2) (α:=Unit) (fun _=>k.xI k.lvU ⟨#[]⟩) (fun _=>k.cI 6) (fun _=>[]) (fun _ W_=>∀base',PartyX 124 141 W_ base' k.x0.cb (k.cI 6)) (fun _=>stbS_party) (fun _=>rfl) (fun h=>absurd rfl h) (fun _=>.inr ⟨rfl,fun wx lb hX hq=>⟨(),by rw[<-ec]; exact hX,by rw[<-ec]; exact hq⟩⟩) hS hg hb sy frm hsy hfrm).mono fun e w' ⟨_,A,ca,q1,q2,q3,q4,q5,q6⟩=>?_
  refine⟨A,ca,[],.fin,q1,trivial,rfl,rfl,?_,?_,q2,q6,_,q5,rfl⟩
  ·show SimQ k k.Rend w'
   rw[eR]
   exact SimQ.pil hk1 hs hS rfl hb q5
  ·show PilS w' k.B0 k.pb (k.xI k.lvE k.dtE) (k.cI (k.rest:Int))∧∀base',PartyX 124 141 w' base' k.x0.cb (k.cI (k.rest:Int))
   rw[el,ed,er]
   exact⟨q3,q4⟩
 |fin=>cases hl
end Go.Proofs.YtcmpkkapkdlfhaaGreat
namespace Go.Proofs.YtcmpkkapkdlfhaaGreat
open Go.Shelf Go.RowKit Go.Sort
def Tryz.lays189_ren:Go.Shelf.Ren:=⟨fun|189=>93|125=>116|257=>115|128=>136|129=>137|294=>127|295=>128|296=>129|297=>130|298=>131|299=>132|216=>133|300=>134|301=>135|328=>143|329=>144|330=>145|331=>146|332=>147|215=>148|343=>155|n=>n,fun|28=>25|3=>3|46=>186|0=>0|51=>206|53=>208|4=>4|183=>199|182=>198|131=>104|5=>5|9=>9|218=>212|222=>191|228=>224|229=>225|n=>n,fun|n=>n⟩
theorem Tryz.lays189:Go.Proofs.Lays.n189 Tryz.prog Tryz.lays189_ren:={
 mixed:=by kernel_rfl
 f125:=Tryz.func116.trans (congrArg some (by kernel_rfl))
 f128:=Tryz.func136.trans (congrArg some (by kernel_rfl))
 f129:=Tryz.func137.trans (congrArg some (by kernel_rfl))
 f189:=Tryz.func93.trans (congrArg some (by kernel_rfl))
 f215:=Tryz.func148.trans (congrArg some (by kernel_rfl))
 f216:=Tryz.func133.trans (congrArg some (by kernel_rfl))
 f257:=Tryz.func115.trans (congrArg some (by kernel_rfl))
 f294:=Tryz.func127.trans (congrArg some (by kernel_rfl))
 f295:=Tryz.func128.trans (congrArg some (by kernel_rfl))
 f296:=Tryz.func129.trans (congrArg some (by kernel_rfl))
 f297:=Tryz.func130.trans (congrArg some (by kernel_rfl))
 f298:=Tryz.func131.trans (congrArg some (by kernel_rfl))
 f299:=Tryz.func132.trans (congrArg some (by kernel_rfl))
 f300:=Tryz.func134.trans (congrArg some (by kernel_rfl))
 f301:=Tryz.func135.trans (congrArg some (by kernel_rfl))
 f328:=Tryz.func143.trans (congrArg some (by kernel_rfl))
 f329:=Tryz.func144.trans (congrArg some (by kernel_rfl))
 f330:=Tryz.func145.trans (congrArg some (by kernel_rfl))
 f331:=Tryz.func146.trans (congrArg some (by kernel_rfl))
 f332:=Tryz.func147.trans (congrArg some (by kernel_rfl))
 f343:=Tryz.func155.trans (congrArg some (by kernel_rfl))
 t0:=Tryz.underlying0
 a0:=Tryz.isAgg0
 z0:=Tryz.sizeOf0
 v0:=Tryz.zeroValue0
 t3:=Tryz.underlying3
 a3:=Tryz.isAgg3
 z3:=Tryz.sizeOf3
 v3:=Tryz.zeroValue3
 t4:=Tryz.underlying4
 a4:=Tryz.isAgg4
 z4:=Tryz.sizeOf4
 v4:=Tryz.zeroValue4
 t5:=Tryz.underlying5
 a5:=Tryz.isAgg5
 z5:=Tryz.sizeOf5
 v5:=Tryz.zeroValue5
 t9:=Tryz.underlying9
 a9:=Tryz.isAgg9
 z9:=Tryz.sizeOf9
 v9:=Tryz.zeroValue9
 t28:=Tryz.underlying25
 a28:=Tryz.isAgg25
 z28:=Tryz.sizeOf25
 v28:=Tryz.zeroValue25
 t46:=Tryz.underlying186
 a46:=Tryz.isAgg186
 z46:=Tryz.sizeOf186
 v46:=Tryz.zeroValue186
 t51:=Tryz.underlying206
 a51:=Tryz.isAgg206
 z51:=Tryz.sizeOf206
 v51:=Tryz.zeroValue206
 t53:=Tryz.underlying208
 a53:=Tryz.isAgg208
 z53:=Tryz.sizeOf208
 v53:=Tryz.zeroValue208
 t131:=Tryz.underlying104
 a131:=Tryz.isAgg104
 z131:=Tryz.sizeOf104
 v131:=Tryz.zeroValue104
 t182:=Tryz.underlying198
 a182:=Tryz.isAgg198
 z182:=Tryz.sizeOf198
 v182:=Tryz.zeroValue198
 t183:=Tryz.underlying199
 a183:=Tryz.isAgg199
 z183:=Tryz.sizeOf199
 v183:=Tryz.zeroValue199
 t218:=Tryz.underlying212
 a218:=Tryz.isAgg212
 z218:=Tryz.sizeOf212
 v218:=Tryz.zeroValue212
 t222:=Tryz.underlying191
 a222:=Tryz.isAgg191
 z222:=Tryz.sizeOf191
 v222:=Tryz.zeroValue191
 t228:=Tryz.underlying224
 a228:=Tryz.isAgg224
 z228:=Tryz.sizeOf224
 v228:=Tryz.zeroValue224
 t229:=Tryz.underlying225
 a229:=Tryz.isAgg225
 z229:=Tryz.sizeOf225
 v229:=Tryz.zeroValue225 }
theorem Tryz.slices_Sort_int_none(p:Option Addr)(cap:Nat)(w:World) :
  Calls Tryz.prog 93 #[.slice p 0 cap] w fun e w'=>e=.returned (.tuple #[])∧w'=w:=Any.slices_Sort_int_none Tryz.lays189 p cap w
theorem sort_nil(w:World):Calls Tryz.prog 93 #[.slice none 0 0] w (RetK (.tuple #[]) w):=
 (Tryz.slices_Sort_int_none none 0 w).mono fun _ _ ⟨he,hw⟩=>⟨he,by subst hw; exact Kept.refl _ _⟩
end Go.Proofs.YtcmpkkapkdlfhaaGreat
namespace Go.Proofs.YtcmpkkapkdlfhaaGreat
open Go.RowKit
set_option maxHeartbeats 4000000
set_option maxRecDepth 100000
def NoneI(W0:World)(pre:List Nat)(W:World):Prop:=pre=[]∧MemOk W0 (fun _=>False) [] [] W.heap.size W
theorem NoneI.own{W0:World}:OwnFrom W0.heap.size (NoneI W0):=by
 rintro s W W' row ⟨h1,h2⟩ hg hr
 exact⟨h1,memOk_grown (Nat.le_refl _) h2 hg hr⟩
theorem NoneI.same{W0:World}{pre:List Nat}{W W':World}(h:NoneI W0 pre W)(hk:Kept (fun _=>False) W W'):NoneI W0 pre W':=
 ⟨h.1,⟨rfl,by simp,by simp,by simp,h.2.kept.trans hk (fun _ _ h=>h.elim),by simp⟩⟩
theorem compact_nil  (w:World) :
  Calls Tryz.prog 94 #[.slice none 0 0] w (RetK (.slice none 0 0) w):=by
 refine cH (S:=(fun _=>False)) (n:=61) Tryz.func94 (MemOk.none w _) ?_
 refine hgS 20 (dz 7 65536) [0,2] [tT] [] [.code [1,0,1,0,1],.code [1,1]] [] [] w.heap.size ?_
 refine hrt [] [.slice none 0 0] [] ?_
 intro wx hm
 exact⟨rfl,hm.kept⟩
@[simp] def ln0_b1(frm:Int)(lst:Int)(now:Int)(n:Nat)(A:Option Addr)(cp:Nat)(cb:Nat)(c1:Nat)(c2:Nat)(w:World)(z2:Nat):List Bk:=[⟨cb,124,false,[i6 frm,i6 lst,.slice A n cp]⟩,⟨w.heap.size,85,true,[(pt cb 0)]⟩,⟨w.heap.size+1,3,true,[i6 (within14 now)]⟩,⟨z2,25,true,[.slice none 0 0]⟩,⟨c1,85,false,[(pt cb 0)]⟩,⟨c2,142,false,[.func (.func 92) #[] #[(pt (w.heap.size+1) 0)]]⟩]
theorem late_zero(frm lst now:Int)(A:Option Addr)(n cp cb base:Nat)(opn:List OneM)(hn:opn.length=n)(hn8:n<=64)(hbd:∀(j:Nat)(o:OneM),opn[j]?=some o->-9223372036854775808<=within14 now-o.asked∧within14 now-o.asked<=9223372036854775807)(hnone:∀o∈opn,¬within14 now-o.asked>=8)(w:World)(hc:Blk w cb 124 [i6 frm,i6 lst,.slice A n cp])(hO:OwnR w base 141 13 A n cp (onesV opn)) :
  Calls Tryz.prog 56 #[.pointer (some ⟨cb,0,none⟩),i6 now] w (fun e w'=>e=.returned (.slice none 0 0)∧Kept (fun _=>False) w w'):=by
 refine calls_of_holdsN (m:=5) (S:=(fun _=>False)) (n:=28) Tryz.func56 (body_of (by kernel_rfl)) rfl (by simp) (MemOk.start (bk:=[⟨cb,124,false,[i6 frm,i6 lst,.slice A n cp]⟩]) (wn:=[]) (by simpa using hc) (by simp) (by simp) (by simp)) ?_
 refine hgS 12 (dz 4 268599296) [2,3,4,7] [] [(w.heap.size+1,0,1)] [.ops [1,0] [1,2],.code [1,1]] [⟨cb,124,false,[i6 frm,i6 lst,.slice A n cp]⟩,⟨w.heap.size,85,true,[(pt cb 0)]⟩,⟨w.heap.size+1,3,true,[i6 now]⟩] [] (w.heap.size+2) ?_
 refine hcq (i6 (within14 now)) _ _ (some 8) [] tI rfl (fun wx hm=>within_any now wx) fun z2 hz2=>?_
 refine hgS 14 (dz 4 0x100180010028) [2,4,5,9,10] [] [(w.heap.size+1,0,1),(w.heap.size,0,1)] [.ops [1,1,1,0,0] [2],.code [1,1,1,0,1],.code [1,1,1,1]] [⟨cb,124,false,[i6 frm,i6 lst,.slice A n cp]⟩,⟨w.heap.size,85,true,[(pt cb 0)]⟩,⟨w.heap.size+1,3,true,[i6 (within14 now)]⟩,⟨z2,25,true,[.slice none 0 0]⟩] [] (z2+1) ?_
 refine hcV (w:=w) (S':=(fun _=>False)) (Y:=Nat×Nat) (fun(⟨c1,c2⟩:Nat×Nat)=>.func (.func 96) #[] #[(pt c1 0),(pt c2 0)]) (fun(⟨c1,c2⟩:Nat×Nat)=>(ln0_b1 frm lst now n A cp cb c1 c2 w z2)) (fun(⟨c1,c2⟩:Nat×Nat) W_=>z2+1<=c1∧c1<c2) (show _=some (59,[(pt cb 0),.func (.func 92) #[] #[(pt (w.heap.size+1) 0)]],some 11,[])by kernel_rfl) tI (fun wx hm=>?_) (fun y W1 hX1 hm1=>?_)
 ·refine(meant_fn cb (w.heap.size+1) 92 wx).mono fun e w' he=>?_
  obtain⟨c1,c2,he,h1,h2,h3,h4,h5⟩:=he
  have hs:wx.heap.size=z2+1:=hm.size
  exact⟨(c1,c2),he,⟨by omega,h2⟩,(MemOk.add hm h5 [⟨c1,85,false,_⟩,⟨c2,142,false,_⟩] ⟨h3,h4,trivial⟩ (by simp; omega) (by simp; omega)).2⟩
 obtain⟨c1,c2⟩:=y
 obtain⟨hc1,hc2⟩:=hX1
 refine hgE 5 [] [2,4,5,11] [] [] [.code [1,1,1,0,1,0],.blk 0,.code [1,1,1,1]] ⟨[(2,(pt w.heap.size 0)),(4,.slice none 0 0),(5,(pt z2 0)),(11,.func (.func 96) #[] #[(pt c1 0),(pt c2 0)])],(ln0_b1 frm lst now n A cp cb c1 c2 w z2),[],W1.heap.size⟩ ?_
 refine holds_gndF (bk':=[⟨cb,124,false,[i6 frm,i6 lst,.slice A n cp]⟩,⟨w.heap.size,85,false,[(pt cb 0)]⟩,⟨w.heap.size+1,3,false,[i6 (within14 now)]⟩,⟨z2,25,false,[.slice none 0 0]⟩,⟨c1,85,false,[(pt cb 0)]⟩,⟨c2,142,false,[.func (.func 92) #[] #[(pt (w.heap.size+1) 0)]]⟩]) [false,false,false,false,false,false] rfl (fun W2 hm0 hm2=>?_)
 have hk12:Kept (fun _=>False) w W2:=(MemOk.bck hm1 hm0).kept
 have hO2:=hO.kept hk12 (fun _ _ h=>h)
 refine holds_rangeI (α:=Nat) (wn:=[]) (gf:=96) (enc:=fun x=>i6 (x:Int)) (N:=MeantV (fun o:OneM=>decide (within14 now-o.asked>=8)) opn) rfl rfl (enters_of Tryz.func96 (by kernel_rfl) rfl) (NoneI W2) (fun _ _=>False) NoneI.own (fun _ _ _ _ h=>h.elim)
  (fun wx hm=>⟨rfl,⟨rfl,by simp,by simp,by simp,hm.kept.mono (fun x _ ⟨b,hb,hr,_⟩=>by simp at hb; rcases hb with rfl|rfl|rfl|rfl|rfl|rfl<;>cases hr),by simp⟩⟩)
  (meantLate_seq W2 c1 c2 cb (w.heap.size+1) cp n frm lst (within14 now) A opn hn (by omega) (by simp; omega) (by have:=hc.lt; omega) hbd)
  (fun pre Wq hI=>?inv) (fun _ _ _ h hk=>h.same hk) (fun x:Nat=>[(12,i6 (x:Int)),(2,(pt w.heap.size 0)),(4,.slice none 0 0),(5,(pt z2 0)),(11,.func (.func 96) #[] #[(pt c1 0),(pt c2 0)])]) (fun x:Nat=>[(6,i6 (x:Int)),(12,i6 (x:Int)),(2,(pt w.heap.size 0)),(4,.slice none 0 0),(5,(pt z2 0)),(11,.func (.func 96) #[] #[(pt c1 0),(pt c2 0)])]) (fun _=>rfl) ?asg (fun l pre x W _ hN=>?body) ?done (fun _ _ _ _ h=>h.elim)
 case inv=>
  have hk:=hI.2.kept
  exact⟨hk.mono (fun _ _ h=>h.elim),(hm2.at_ 4 rfl).kept hk id,(hm2.at_ 5 rfl).kept hk id,(hm2.at_ 2 rfl).kept hk id,fun _=>hn▸(hm2.at_ 0 rfl).kept hk id,fun j o ho _=>by obtain⟨g,e1,e2,_,e3⟩:=arr_own (hO2.kept hk (fun _ _ h=>h)) ho; exact⟨g,e1,e2,e3⟩⟩
 case body=>
  obtain⟨o,ho,hok,_⟩:=hN
  exact absurd (of_decide_eq_true hok) (hnone o (List.mem_of_getElem? ho))
 case asg=>
  intro x l W
  refine hgER (fun _=>tI) 6 [oh0] [6,12,2,4,5,11] [] [] [] ⟨[(6,i6 (x:Int)),(12,i6 (x:Int)),(2,(pt w.heap.size 0)),(4,.slice none 0 0),(5,(pt z2 0)),(11,.func (.func 96) #[] #[(pt c1 0),(pt c2 0)])],[],[],W.heap.size⟩ ?_
  exact holdsR_end (fun a wx hf hm=>⟨rfl,hm.kept,hf⟩)
 case done=>
  rintro D xs W-⟨rfl,hmW⟩ hD hK
  have hB:=(hm2.at_ 3 rfl).kept hmW.kept id
  have hkW:Kept (fun _=>False) w W:=hk12.trans hmW.kept (fun k hk h=>h)
  refine⟨[⟨z2,25,true,[.slice none 0 0]⟩],MemOk.start (fun b hb=>?_) (fun b hb _=>⟨b,hb,‹_›,rfl⟩) (by simp) (by simp),?_⟩
  ·obtain rfl:=List.mem_singleton.1 hb
   exact hB
  refine hgS 7 [(oA 0 0 1)] [4,5,24] [] [(z2,0,1)] [.ops [1,1,1,1,0] [1],.code [1,1,1,1,1]] [⟨z2,25,true,[.slice none 0 0]⟩] [] W.heap.size ?_
  refine hcq (.tuple #[]) _ _ (some 25) [] tI rfl (fun wx hm=>sort_nil wx) fun z8 hz8=>?_
  refine hgS 7 [(oA 0 0 1)] [4,26] [] [(z2,0,1)] [.ops [1,1,1,1,1,0] [1,2],.code [1,1,1,1,1,1]] [⟨z2,25,true,[.slice none 0 0]⟩] [] z8 ?_
  refine hcq (.slice none 0 0) _ _ (some 27) [] tI rfl (fun wx hm=>compact_nil wx) fun z10 hz10=>?_
  refine hgE 5 [oh0] [4] [] [] [.code [1,1,1,1,1,1]] ⟨[(4,.slice none 0 0)],[⟨z2,25,true,[.slice none 0 0]⟩],[],z10⟩ ?_
  have hDlt:D<W.heap.size:=(Array.getElem?_eq_some_iff.1 hK).1
  have hnD:z2≠D:=fun e=>by
   unfold Blk at hB
   rw[e,hK]at hB
   cases hB
  refine holds_retN [] hDlt hK (fun⟨b,hb,hr,he⟩=>by obtain rfl:=List.mem_singleton.1 hb; exact hnD he) (by kernel_rfl) (show _=some ([.slice none 0 0],dupR [])by kernel_rfl) (fun wx hm=>?_)
  refine⟨rfl,hkW.trans hm.kept (fun k hk h=>?_)⟩
  rcases h with⟨b,hb,hr,he⟩|h
  ·obtain rfl:=List.mem_singleton.1 hb
   exact absurd he (by show z2≠k; omega)
  ·have:=(MemOk.bck hm1 hm0).kept.size; omega
@[simp] def an0_b1(frm:Int)(lst:Int)(now:Int)(n:Nat)(A:Option Addr)(cp:Nat)(cb:Nat)(c1:Nat)(c2:Nat)(w:World)(z2:Nat):List Bk:=[⟨cb,124,false,[i6 frm,i6 lst,.slice A n cp]⟩,⟨w.heap.size,85,true,[(pt cb 0)]⟩,⟨w.heap.size+1,3,true,[i6 (within14 now)]⟩,⟨z2,50,true,[.slice none 0 0]⟩,⟨c1,85,false,[(pt cb 0)]⟩,⟨c2,142,false,[.func (.func 60) #[] #[(pt (w.heap.size+1) 0)]]⟩]
theorem again_zero(frm lst now:Int)(A:Option Addr)(n cp cb base:Nat)(opn:List OneM)(hn:opn.length=n)(hn8:n<=64)(hbd:∀(j:Nat)(o:OneM),opn[j]?=some o->-9223372036854775808<=within14 now-o.sent∧within14 now-o.sent<=9223372036854775807)(hnone:∀o∈opn,¬within14 now-o.sent>=2)(w:World)(hc:Blk w cb 124 [i6 frm,i6 lst,.slice A n cp])(hO:OwnR w base 141 13 A n cp (onesV opn)) :
  Calls Tryz.prog 38 #[.pointer (some ⟨cb,0,none⟩),i6 now] w (fun e w'=>e=.returned (.slice none 0 0)∧Kept (fun _=>False) w w'):=by
 refine calls_of_holdsN (m:=5) (S:=(fun _=>False)) (n:=34) Tryz.func38 (body_of (by kernel_rfl)) rfl (by simp) (MemOk.start (bk:=[⟨cb,124,false,[i6 frm,i6 lst,.slice A n cp]⟩]) (wn:=[]) (by simpa using hc) (by simp) (by simp) (by simp)) ?_
 refine hgS 12 (dz 4 268599296) [2,3,4,7] [] [(w.heap.size+1,0,1)] [.ops [1,0] [1,2],.code [1,1]] [⟨cb,124,false,[i6 frm,i6 lst,.slice A n cp]⟩,⟨w.heap.size,85,true,[(pt cb 0)]⟩,⟨w.heap.size+1,3,true,[i6 now]⟩] [] (w.heap.size+2) ?_
 refine hcq (i6 (within14 now)) _ _ (some 8) [] tI rfl (fun wx hm=>within_any now wx) fun z2 hz2=>?_
 refine hgS 14 (dz 4 0x100180010028) [2,3,4,5,9,10] [] [(w.heap.size+1,0,1),(w.heap.size,0,1)] [.ops [1,1,1,0,0] [2],.code [1,1,1,0,1],.code [1,1,1,1]] [⟨cb,124,false,[i6 frm,i6 lst,.slice A n cp]⟩,⟨w.heap.size,85,true,[(pt cb 0)]⟩,⟨w.heap.size+1,3,true,[i6 (within14 now)]⟩,⟨z2,50,true,[.slice none 0 0]⟩] [] (z2+1) ?_
 refine hcV (w:=w) (S':=(fun _=>False)) (Y:=Nat×Nat) (fun(⟨c1,c2⟩:Nat×Nat)=>.func (.func 96) #[] #[(pt c1 0),(pt c2 0)]) (fun(⟨c1,c2⟩:Nat×Nat)=>(an0_b1 frm lst now n A cp cb c1 c2 w z2)) (fun(⟨c1,c2⟩:Nat×Nat) W_=>z2+1<=c1∧c1<c2) (show _=some (59,[(pt cb 0),.func (.func 60) #[] #[(pt (w.heap.size+1) 0)]],some 11,[])by kernel_rfl) tI (fun wx hm=>?_) (fun y W1 hX1 hm1=>?_)
 ·refine(meant_fn cb (w.heap.size+1) 60 wx).mono fun e w' he=>?_
  obtain⟨c1,c2,he,h1,h2,h3,h4,h5⟩:=he
  have hs:wx.heap.size=z2+1:=hm.size
  exact⟨(c1,c2),he,⟨by omega,h2⟩,(MemOk.add hm h5 [⟨c1,85,false,_⟩,⟨c2,142,false,_⟩] ⟨h3,h4,trivial⟩ (by simp; omega) (by simp; omega)).2⟩
 obtain⟨c1,c2⟩:=y
 obtain⟨hc1,hc2⟩:=hX1
 refine hgE 5 [] [2,3,4,5,11] [] [] [.code [1,1,1,0,1,0],.blk 0,.code [1,1,1,1]] ⟨[(2,(pt w.heap.size 0)),(3,(pt (w.heap.size+1) 0)),(4,.slice none 0 0),(5,(pt z2 0)),(11,.func (.func 96) #[] #[(pt c1 0),(pt c2 0)])],(an0_b1 frm lst now n A cp cb c1 c2 w z2),[],W1.heap.size⟩ ?_
 refine holds_gndF (bk':=[⟨cb,124,false,[i6 frm,i6 lst,.slice A n cp]⟩,⟨w.heap.size,85,false,[(pt cb 0)]⟩,⟨w.heap.size+1,3,false,[i6 (within14 now)]⟩,⟨z2,50,false,[.slice none 0 0]⟩,⟨c1,85,false,[(pt cb 0)]⟩,⟨c2,142,false,[.func (.func 60) #[] #[(pt (w.heap.size+1) 0)]]⟩]) [false,false,false,false,false,false] rfl (fun W2 hm0 hm2=>?_)
 have hk12:Kept (fun _=>False) w W2:=(MemOk.bck hm1 hm0).kept
 have hO2:=hO.kept hk12 (fun _ _ h=>h)
 refine holds_rangeI (α:=Nat) (wn:=[]) (gf:=96) (enc:=fun x=>i6 (x:Int)) (N:=MeantV (fun o:OneM=>decide (within14 now-o.sent>=2)) opn) rfl rfl (enters_of Tryz.func96 (by kernel_rfl) rfl) (NoneI W2) (fun _ _=>False) NoneI.own (fun _ _ _ _ h=>h.elim)
  (fun wx hm=>⟨rfl,⟨rfl,by simp,by simp,by simp,hm.kept.mono (fun x _ ⟨b,hb,hr,_⟩=>by simp at hb; rcases hb with rfl|rfl|rfl|rfl|rfl|rfl<;>cases hr),by simp⟩⟩)
  (meantAgain_seq W2 c1 c2 cb (w.heap.size+1) cp n frm lst (within14 now) A opn hn (by omega) (by simp; omega) (by have:=hc.lt; omega) hbd)
  (fun pre Wq hI=>?inv) (fun _ _ _ h hk=>h.same hk) (fun x:Nat=>[(12,i6 (x:Int)),(2,(pt w.heap.size 0)),(3,(pt (w.heap.size+1) 0)),(4,.slice none 0 0),(5,(pt z2 0)),(11,.func (.func 96) #[] #[(pt c1 0),(pt c2 0)])]) (fun x:Nat=>[(6,i6 (x:Int)),(12,i6 (x:Int)),(2,(pt w.heap.size 0)),(3,(pt (w.heap.size+1) 0)),(4,.slice none 0 0),(5,(pt z2 0)),(11,.func (.func 96) #[] #[(pt c1 0),(pt c2 0)])]) (fun _=>rfl) ?asg (fun l pre x W _ hN=>?body) ?done (fun _ _ _ _ h=>h.elim)
 case inv=>
  have hk:=hI.2.kept
  exact⟨hk.mono (fun _ _ h=>h.elim),(hm2.at_ 4 rfl).kept hk id,(hm2.at_ 5 rfl).kept hk id,(hm2.at_ 2 rfl).kept hk id,fun _=>hn▸(hm2.at_ 0 rfl).kept hk id,fun j o ho _=>by obtain⟨g,e1,e2,_,e3⟩:=arr_own (hO2.kept hk (fun _ _ h=>h)) ho; exact⟨g,e1,e2,e3⟩⟩
 case body=>
  obtain⟨o,ho,hok,_⟩:=hN
  exact absurd (of_decide_eq_true hok) (hnone o (List.mem_of_getElem? ho))
 case asg=>
  intro x l W
  refine hgER (fun _=>tI) 6 [oh0] [6,12,2,3,4,5,11] [] [] [] ⟨[(6,i6 (x:Int)),(12,i6 (x:Int)),(2,(pt w.heap.size 0)),(3,(pt (w.heap.size+1) 0)),(4,.slice none 0 0),(5,(pt z2 0)),(11,.func (.func 96) #[] #[(pt c1 0),(pt c2 0)])],[],[],W.heap.size⟩ ?_
  exact holdsR_end (fun a wx hf hm=>⟨rfl,hm.kept,hf⟩)
 case done=>
  rintro D xs W-⟨rfl,hmW⟩ hD hK
  have hB:=(hm2.at_ 3 rfl).kept hmW.kept id
  have hkW:Kept (fun _=>False) w W:=hk12.trans hmW.kept (fun k hk h=>h)
  refine⟨[⟨z2,50,true,[.slice none 0 0]⟩],MemOk.start (fun b hb=>?_) (fun b hb _=>⟨b,hb,‹_›,rfl⟩) (by simp) (by simp),?_⟩
  ·obtain rfl:=List.mem_singleton.1 hb
   exact hB
  refine hgE 9 (dz 2 65544) [4] [] [(z2,0,1)] [.code [1,1,1,1,1]] ⟨[(4,.slice none 0 0)],[⟨z2,50,true,[.slice none 0 0]⟩],[],W.heap.size⟩ ?_
  have hDlt:D<W.heap.size:=(Array.getElem?_eq_some_iff.1 hK).1
  have hnD:z2≠D:=fun e=>by
   unfold Blk at hB
   rw[e,hK]at hB
   cases hB
  refine holds_retN [] hDlt hK (fun⟨b,hb,hr,he⟩=>by obtain rfl:=List.mem_singleton.1 hb; exact hnD he) (by kernel_rfl) (show _=some ([.slice none 0 0],dupR [])by kernel_rfl) (fun wx hm=>?_)
  refine⟨rfl,hkW.trans hm.kept (fun k hk h=>?_)⟩
  rcases h with⟨b,hb,hr,he⟩|h
  ·obtain rfl:=List.mem_singleton.1 hb
   exact absurd he (by show z2≠k; omega)
  ·have:=(MemOk.bck hm1 hm0).kept.size; omega
theorem late_none{w:World}{base cb:Nat}{c:CM}(now:Int)(h:PartyX 124 141 w base cb c)(hfr:∀o∈c.opn,o.asked=within14 now∧o.sent=within14 now):Calls Tryz.prog 56 #[.pointer (some ⟨cb,0,none⟩),i6 now] w (fun e w'=>∃Al cl,e=.returned (.slice Al 0 cl)∧OwnR w' w.heap.size 3 1 Al 0 cl []∧Kept (fun _=>False) w w'):=by
 obtain⟨h2,A,cp,h3,h4⟩:=h
 refine(late_zero c.frm c.last now A c.opn.length cp cb base c.opn rfl (by have:=h2.few; omega) (fun j o ho=>by have:=(hfr o (List.mem_of_getElem? ho)).1; omega) (fun o ho=>by have:=(hfr o ho).1; omega) w h3 h4).mono fun e w' ⟨e1,e2⟩=>?_
 exact⟨none,0,e1,OwnR.nil _ _ _ _,e2⟩
theorem again_none{w:World}{base cb:Nat}{c:CM}(now:Int)(h:PartyX 124 141 w base cb c)(hfr:∀o∈c.opn,o.asked=within14 now∧o.sent=within14 now):Calls Tryz.prog 38 #[.pointer (some ⟨cb,0,none⟩),i6 now] w (fun e w'=>∃Al cl,e=.returned (.slice Al 0 cl)∧PartyX 124 141 w' base cb c∧Kept (PartyTX 141 base cb w) w w'):=by
 obtain⟨h2,A,cp,h3,h4⟩:=h
 refine(again_zero c.frm c.last now A c.opn.length cp cb base c.opn rfl (by have:=h2.few; omega) (fun j o ho=>by have:=(hfr o (List.mem_of_getElem? ho)).2; omega) (fun o ho=>by have:=(hfr o ho).2; omega) w h3 h4).mono fun e w' ⟨e1,e4⟩=>?_
 exact⟨none,0,e1,⟨h2,A,cp,h3.kept e4 id,h4.kept e4 (fun _ _ h=>h)⟩,e4.mono (fun y _ hy=>hy.elim)⟩
theorem partyTX_ty{w:World}{base cb:Nat}{c:CM}(h:PartyX 124 141 w base cb c):∀y,PartyTX 141 base cb w y->TysIn [124,141] w y:=by
 rintro y (rfl|⟨_,e,he,ht⟩)
 ·exact⟨124,by simp,h.blk⟩
 ·exact⟨e,by simp at he ⊢; exact .inr he,ht⟩
def psi_I(x:PilC)(c:CM)(pb:Nat)(base:Nat)(A1:Option Addr)(c1:Nat)(L:List OneM)  (m:Nat) (st:St) (W0:World):Prop:=
 ∃(v0:Value)(z:Nat),m=0∧PilR W0 base x.lb x.cb c L v0∧OwnR W0 base 3 1 A1 0 c1 ([])∧st=⟨[(0,(pt pb 0)),(4,i6 0),(5,.bool false),(13,.slice A1 0 c1),(14,i6 0),(15,i6 0)],[⟨pb,98,true,(PilC.cells { x with ak:=v0 })⟩],[],z⟩
theorem pilX_silent(x:PilC)(c:CM)(L:List OneM)(pb:Nat)(base:Nat)(now:Int)(hfr:∀o∈c.opn,o.asked=within14 now∧o.sent=within14 now)(w:World)(hX:PilX w base pb x c L)(hb0:base<=w.heap.size) :
  Calls Tryz.prog 34 #[.pointer (some ⟨pb,0,none⟩),i6 now] w (fun e w'=>e=.returned (.tuple #[i6 0,.bool false])∧PilX w' base pb x c L∧Kept (PilT [] base x.lb pb x.cb w) w w'):=by
 obtain⟨v,hP,hR⟩:=hX
 have hPT:=blk_ty hP
 refine cH (S:=(fun y=>y=pb)) (n:=28) Tryz.func34 (MemOk.startP hP) ?_
 refine hgS 16 (dz 7 0x1020800000) [0,4,5,11,12] [] [(pb,2,1)] [.ops [1,0,0] [5,6,7],.code [1,0,1],.code [1,1]] [⟨pb,98,true,(PilC.cells { x with ak:=v })⟩] [] w.heap.size ?_
 refine hcV (w:=w) (S':=(PilT [] base x.lb pb x.cb w)) (Y:=Option Addr×Nat) (fun yq=>.slice yq.1 0 yq.2) (fun yq=>[⟨pb,98,true,(PilC.cells { x with ak:=v })⟩]) (fun yq W_=>PilR W_ base x.lb x.cb c L v∧OwnR W_ base 3 1 yq.1 0 yq.2 ([])) (show _=some (56,[(pt x.cb 0),i6 now],some 13,[])by kernel_rfl) tI (fun wx hm=>?_) (fun yq W1 hX1 hm1=>?_)
 ·have hm0_:=(hm.wide (S':=PilT [] base x.lb pb x.cb w) (fun _ h=>.inl h))
  have hb1:base<=wx.heap.size:=Nat.le_trans hb0 hm0_.kept.size
  have hR_:=(hR.keptT (es:=[98]) hm.kept (fun y hy=>by subst hy; exact⟨98,by simp,hPT⟩) rfl rfl rfl)
  have hX0:PilX wx base pb ({ x with ak:=v }) c L:=⟨_,hm.at_ 0 rfl,hR_⟩
  refine(late_none now hR_.1 hfr).mono fun e w' hq_=>?_
  obtain⟨A1,c1,he_,ho_lt,h3_⟩:=hq_
  exact⟨(A1,c1),he_,⟨(hR_.keptT (es:=[]) h3_ (fun _ h=>h.elim) rfl rfl rfl),(ho_lt.below hb1)⟩,hm0_.offA (fun _ h=>h) h3_ (fun _ h=>h.elim) (fun _ _ h=>h)⟩
 obtain⟨A1,c1⟩:=yq
 obtain⟨hR1,h1_lt⟩:=hX1
 refine hgE 7 (dz 2 0) [0,4,5,13,14,15] [] [] [.code [1,0,1,0],.blk 0,.code [1,1]] ⟨[(0,(pt pb 0)),(4,i6 0),(5,.bool false),(13,.slice A1 0 c1),(14,i6 0),(15,i6 0)],[⟨pb,98,true,(PilC.cells { x with ak:=v })⟩],[],W1.heap.size⟩ ?_
 refine holds_loopW (w:=w) (S':=PilT [] base x.lb pb x.cb w) (psi_I x c pb base A1 c1 L) 0 (by kernel_rfl) (fun W0 hm=>⟨⟨v,_,rfl,(hR1.keptT hm.kept (turned_tys hm1) rfl rfl rfl),(h1_lt.keptT hm.kept (turned_tys hm1) rfl),rfl⟩,(MemOk.bck hm1 hm)⟩) ?_
 rintro m _ W2 ⟨v0,z,hh2_0,hR2,h2_lt,rfl⟩ hm2 J hJ
 refine hgS 15 (dz 4 0) [4,5] [fF] [] [.code [1,1,1]] [⟨pb,98,true,(PilC.cells { x with ak:=v0 })⟩] [] W2.heap.size ?_
 refine hrt [] [i6 0,.bool false] [] ?_
 intro wx hm
 exact⟨rfl,⟨_,hm.at_ 0 rfl,(hR2.keptT hm.kept (turned_tys hm2) rfl rfl rfl)⟩,(MemOk.bck hm2 hm).kept⟩
section
variable (x:PilC)(c:CM)(pb base:Nat)(now:Int)(w:World)(v1:Value)(L:List OneM)
@[simp] def pse_b1:List Bk:=[⟨pb,98,true,(PilC.cells { x with busy:=true,lg:=true,ak:=v1 })⟩]
@[simp] def pse_b2:List Bk:=[⟨pb,98,true,(PilC.cells { x with busy:=true,lg:=true,ak:=(.slice none 0 0) })⟩]
def pse_Q:Exit->Act->World->Prop:=bodyPost Tryz.prog Tryz.f16 (fun e w'=>∃A ca,e=.returned (.slice A L.length ca)∧OwnR w' x.lb 65 26 A L.length ca (lettersC c.frm L)∧PilS w' base pb { x with busy:=true,lg:=true } c∧Kept (PilT [141] base x.lb pb x.cb w) w w')
def pse_y8s:List (Nat×Value):=[(0,(pt pb 0)),(1,i6 (within14 now)),(4,.slice none 0 0)]
def pse_y8v(d:(Option Addr×Nat)×(Option Addr×Nat)):List (Option Value):=[some ((pt pb 0)),some (.slice d.1.1 L.length d.1.2),some ((pt pb 0)),some ((pt pb 0)),some ((pt pb 2)),some ((pt x.cb 0)),some (i6 (within14 now)),some (.slice d.2.1 0 d.2.2),some (.slice d.1.1 L.length d.1.2),some (.slice d.1.1 L.length d.1.2)]
def pse_y8F(_:(Option Addr×Nat)×(Option Addr×Nat))(k:Nat):Bool:=([true,true,true,true,true,true,true,true,true,true]:List Bool)[k]?.getD true
def pse_y8m(_:(Option Addr×Nat)×(Option Addr×Nat)):List (List Bk):=[(pse_b1 x pb v1),(pse_b2 x pb),(pse_b2 x pb),(pse_b2 x pb)]
abbrev pse_y8X(x:PilC)(c:CM)(base:Nat)(v1:Value)(L:List OneM)(c_:Nat)(d:(Option Addr×Nat)×(Option Addr×Nat))(W_:World):Prop:=match c_ with|0=>PilR W_ base x.lb x.cb c L v1|1=>PartyX 124 141 W_ base x.cb c∧OwnR W_ x.lb 65 26 d.1.1 L.length d.1.2 (lettersC c.frm L)|2=>PartyX 124 141 W_ base x.cb c∧OwnR W_ x.lb 65 26 d.1.1 L.length d.1.2 (lettersC c.frm L)|3=>PartyX 124 141 W_ base x.cb c∧OwnR W_ x.lb 65 26 d.1.1 L.length d.1.2 (lettersC c.frm L)|_=>True
def pse_y8C(W1:World)(v1:Value)(L:List OneM)(z6:Nat)(i_:Nat):Prop:=cY Tryz.prog Tryz.f16 [1,1,1,1,0] 50 [] (pse_Q x c pb base w L) [.code [1,1,1,1,1]] (pse_y8s pb now) [none,some 0,none,none,none,none,none,some 1,some 2,none] 3 (pse_y8v x pb now L) pse_y8F W1 (fun y=>(Turned (pse_b1 x pb v1)) y∨(PilT [141] base x.lb pb x.cb W1) y) (pse_y8m x pb v1) z6 (pse_y8X x c base v1 L) i_
end
theorem pilX_step(x:PilC)(c:CM)(L:List OneM)(pb:Nat)(base:Nat)(now:Int)(hop:c.opn.length≠0)(hfr:∀o∈c.opn,o.asked=within14 now∧o.sent=within14 now)(w:World)(hX:PilX w base pb ({ x with busy:=true,lg:=true }) c L)(hb0:base<=w.heap.size) :
  Calls Tryz.prog 16 #[.pointer (some ⟨pb,0,none⟩),i6 now] w (fun e w'=>∃A ca,e=.returned (.slice A L.length ca)∧OwnR w' x.lb 65 26 A L.length ca (lettersC c.frm L)∧PilS w' base pb { x with busy:=true,lg:=true } c∧Kept (PilT [141] base x.lb pb x.cb w) w w'):=by
 obtain⟨v,hP,hR⟩:=hX
 have hPT:=blk_ty hP
 refine cH (S:=(fun y=>y=pb)) (n:=50) Tryz.func16 (MemOk.startP hP) ?_
 have hww:within14 (within14 now)=within14 now:=within_id (within_bd now)
 refine hgS 21 (dz 8 5016911872) [0,1,4,12] [fF] [(pb,43,1)] [.ops [1,1,0] [1,2],.code [1,1,1]] [⟨pb,98,true,(PilC.cells { x with busy:=true,lg:=true,ak:=v })⟩] [] w.heap.size ?_
 refine hcq (i6 (within14 now)) _ _ (some 13) [] tI rfl (fun wx hm=>pwithin_any now wx) fun z2 hz2=>?_
 refine hgS 10 (dz 3 0) [0,1,4,15,16] [] [] [.ops [1,1,1,0,0] [2,3,4,5,6,7],.code [1,1,1,0,1],.code [1,1,1,1]] [⟨pb,98,true,(PilC.cells { x with busy:=true,lg:=true,ak:=v })⟩] [] z2 ?_
 refine hcV (w:=w) (S':=(PilT [141] base x.lb pb x.cb w)) (Y:=Value) (fun v1=>.tuple #[i6 0,.bool false]) (fun v1=>(pse_b1 x pb v1)) (fun v1 W_=>PilR W_ base x.lb x.cb c L v1) (show _=some (34,[(pt pb 0),i6 (within14 now)],some 17,[])by kernel_rfl) tI (fun wx hm=>?_) (fun v1 W1 hX1 hm1=>?_)
 ·have hm0_:=(hm.wide (S':=PilT [141] base x.lb pb x.cb w) (fun _ h=>.inl h))
  have hb1:base<=wx.heap.size:=Nat.le_trans hb0 hm0_.kept.size
  have hR_:=(hR.keptT (es:=[98]) hm.kept (fun y hy=>by subst hy; exact⟨98,by simp,hPT⟩) rfl rfl rfl)
  have hX0:PilX wx base pb ({ x with busy:=true,lg:=true,ak:=v }) c L:=⟨_,hm.at_ 0 rfl,hR_⟩
  refine(pilX_silent ({ x with busy:=true,lg:=true,ak:=v }) c L pb base (within14 now) (by rw[hww]; exact hfr) wx hX0 hb1).mono fun e w' hq_=>?_
  obtain⟨he_,⟨v_,hB_,hR_2⟩,h3_⟩:=hq_
  have hT_:=hX0.tys (es:=[])
  exact⟨v_,he_,hR_2,hm0_.turnP h3_ (pilT_up hm0_.kept rfl) hB_ (off_tysP hm hT_ rfl)⟩
 have hR1:=hX1
 refine hgS 26 (dz 17 0x10209111001320800000000000) [0,1,4,30,34] [fF,tT,tT,tT,tT] [(pb,50,1),(pb,2,1)] [.ops [1,1,1,0,1,1,1,0] [10,11,12],.code [1,1,1,0,1,1,1,1],.code [1,1,1,1]] (pse_b1 x pb v1) [] W1.heap.size ?_
 refine hcq (i6 (c.opn.length:Int)) _ _ (some 35) [true=true] ⟨rfl,tI⟩ rfl (fun wx hm=>open_partyX ((hR1.keptT hm.kept (turned_tys hm1) rfl rfl rfl)).1) fun z6 hz6=>?_
 refine hgE 9 (dz 3 49) [0,1,4] [tT,tT,oE (((c.opn.length:Int)==0)=false) (by rw[beq_eq_false_iff_ne]; omega)] [] [.code [1,1,1,1,0],.code [1,1,1,1,1]] ⟨[(0,(pt pb 0)),(1,i6 (within14 now)),(4,.slice none 0 0)],(pse_b1 x pb v1),[],z6⟩ ?_
 have pse_y8_X:StayY W1 (fun y=>(Turned (pse_b1 x pb v1)) y∨(PilT [141] base x.lb pb x.cb W1) y) (pse_y8m x pb v1) (pse_y8X x c base v1 L):=by
  intro c_ d wx w' bk hb hm hx hk
  match c_,hb,hx with
  |0,hb,hx=>
   obtain rfl:=Option.some.inj hb
   exact hx.keptT hk (turned_tys hm) rfl rfl rfl
  |1,hb,hx=>
   obtain rfl:=Option.some.inj hb
   exact⟨hx.1.keptT hk (turned_tys hm) rfl rfl,hx.2.keptT hk (turned_tys hm) rfl⟩
  |2,hb,hx=>
   obtain rfl:=Option.some.inj hb
   exact⟨hx.1.keptT hk (turned_tys hm) rfl rfl,hx.2.keptT hk (turned_tys hm) rfl⟩
  |3,hb,hx=>
   obtain rfl:=Option.some.inj hb
   exact⟨hx.1.keptT hk (turned_tys hm) rfl rfl,hx.2.keptT hk (turned_tys hm) rfl⟩
  |c_+4,hb,hx=>exact trivial
 have pse_y8_c1:pse_y8C x c pb base now w W1 v1 L z6 1:=cyC (s:=0) (f:=37) (args:=fun d=>[(pt pb 0)]) (ob:=fun d=>[]) (fun(d:(Option Addr×Nat)×(Option Addr×Nat))(e_:(Option Addr×Nat)×(Option Addr×Nat))=>e_) (fun d=>.slice d.1.1 L.length d.1.2) (fun d=>trivial) (fun d wx bk hb hm hx hcame=>by
  obtain rfl:=Option.some.inj hb
  have hX0:PilX wx base pb ({ x with busy:=true,lg:=true,ak:=v1 }) c L:=⟨_,hm.at_ 0 rfl,hx⟩
  refine(pilX_sent ({ x with busy:=true,lg:=true,ak:=v1 }) c L pb base wx hX0).mono fun e w' hq=>?_
  obtain⟨A,ca,h1,h2,⟨hB,hQ⟩,h3⟩:=hq
  exact⟨((A,ca),(none,0)),h1,rfl,⟨hQ,h2⟩,hm.turnP h3 (pilT_upS (fun _ h=>.inr h) hm.kept rfl) hB (off_tysP hm (hX0.tys (es:=[])) rfl),h3.size⟩)
 have pse_y8_c7:pse_y8C x c pb base now w W1 v1 L z6 7:=cyC (s:=1) (f:=38) (args:=fun d=>[(pt x.cb 0),i6 (within14 now)]) (ob:=fun d=>[]) (fun(d:(Option Addr×Nat)×(Option Addr×Nat))(e_:Option Addr×Nat)=>(d.1,e_)) (fun d=>.slice d.2.1 0 d.2.2) (fun d=>trivial) (fun d wx bk hb hm hx hcame=>by
  obtain rfl:=Option.some.inj hb
  refine(again_none (within14 now) hx.1 (by rw[hww]; exact hfr)).mono fun e w' hq=>?_
  obtain⟨Al,cl,h1,h2,h3⟩:=hq
  have hT:=partyTX_ty hx.1
  exact⟨(Al,cl),h1,rfl,⟨h2,hx.2.keptT h3 hT rfl⟩,hm.offA (fun _ h=>h) h3 (fun y hy=>by
   rcases hy with rfl|⟨h4,h5⟩
   ·exact .inl (.inr (.inr (.inl rfl)))
   ·exact pilT_inS (fun _ h=>.inr h) hm.kept h4 h5 rfl) (off_tys hm hT rfl),h3.size⟩)
 have pse_y8_c8:pse_y8C x c pb base now w W1 v1 L z6 8:=cyW (s:=2) (x:=fun d=>Builtin.append_ #[50,50] 50 #[.slice d.1.1 L.length d.1.2,.slice d.2.1 0 d.2.2]) (fun(d:(Option Addr×Nat)×(Option Addr×Nat))(_:Unit)=>d) (fun d=>.slice d.1.1 L.length d.1.2) (fun d wx bk hb hm hx hcame=>by
  obtain rfl:=Option.some.inj hb
  exact⟨(),wx,run_append0 wx 50 50 65 d.1.1 L.length d.1.2 d.2.1 d.2.2 (by kernel_rfl) (by kernel_rfl) hx.2.le,rfl,hx,hm,Nat.le_refl _⟩)
 have pse_y8_R:∀e_∈(rZsY 3 [0,2,3,4,6,9]++[rY 5 3 0 2 1 pb]:List (RegY ((Option Addr×Nat)×(Option Addr×Nat)))),pse_y8C x c pb base now w W1 v1 L z6 e_.i:=certsY_reg _ pse_y8_X (fun d=>by kernel_rfl) (by kernel_rfl) (fun d sz=>by kernel_rfl)
 have pse_y8_A:∀i_,i_<10->pse_y8C x c pb base now w W1 v1 L z6 i_:=allY (l:=[1,7,8]) (by kernel_rfl) pse_y8_R ⟨pse_y8_c1,pse_y8_c7,pse_y8_c8,trivial⟩
 refine holds_mixY (Δ:=(Option Addr×Nat)×(Option Addr×Nat)) (fun y=>(Turned (pse_b1 x pb v1)) y∨(PilT [141] base x.lb pb x.cb W1) y) (pse_y8v x pb now L) pse_y8F (pse_y8m x pb v1) (pse_y8X x c base v1 L) [4] (fun d=>[(4,.slice d.1.1 L.length d.1.2)]) (fun d=>(pse_b2 x pb)) ((none,0),(none,0)) (fun _ h=>.inl h) (by kernel_rfl) (by kernel_rfl) (by kernel_rfl) (fun wx hm=>(hR1.keptT hm.kept.drew (turned_tys hm1) rfl rfl rfl)) (by kernel_rfl) pse_y8_A (fun d=>by kernel_rfl) (fun d=>by kernel_rfl) (fun d W9 hfin hX9 hz9 hm9=>?_)
 replace hm9:=hm1.bckS hm9 (fun y hy=>hy.elim (fun⟨b,hb,hr,he⟩=>he▸hm1.own b hb hr) (fun h=>pilT_up hm1.kept rfl y h))
 obtain⟨⟨A9,c9⟩,d2⟩:=d
 obtain⟨hQ9,hO9⟩:=hX9
 replace hm9:MemOk w (PilT [141] base x.lb pb x.cb w) (pse_b2 x pb) [] W9.heap.size W9:=hm9
 change Holds _ _ _ _ W9 (Turned (pse_b2 x pb)) _ [.code [1,1,1,1,1]] ⟨[(4,.slice A9 L.length c9)],(pse_b2 x pb),[],W9.heap.size⟩
 refine hgS 3 [] [4] [] [] [.code [1,1,1,1,1]] (pse_b2 x pb) [] W9.heap.size ?_
 refine hrt [] [.slice A9 L.length c9] [] ?_
 intro wx hm
 exact⟨A9,c9,rfl,hO9.keptT hm.kept (turned_tys hm9) rfl,⟨hm.at_ 0 rfl,hQ9.keptT hm.kept (turned_tys hm9) rfl rfl⟩,(MemOk.bck hm9 hm).kept⟩
end Go.Proofs.YtcmpkkapkdlfhaaGreat
