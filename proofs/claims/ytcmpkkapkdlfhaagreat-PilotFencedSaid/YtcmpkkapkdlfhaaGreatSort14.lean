import Derived.Test.YtcmpkkapkdlfhaaGreatPhase7
import Derived.Shelf.Sort.Plain
import Derived.Shelf.Slices.In.SortNone
import Derived.Sort.OwnSortedInts
namespace Go.Proofs.YtcmpkkapkdlfhaaGreat
open Go.RowKit
theorem SimQ.pil {k:OpC} (hk:OpOk k) {R:Nat → RecM} {W w':World} {x:PilC} {c:CM} {es:List TypeId} (h:SimQ k R W) (hS:PilS W k.B0 k.pb x c) (hx:x.cb = k.x0.cb) (hb:k.B0 ≤ W.heap.size) (hK:Kept (PilT es k.B0 W.heap.size k.pb k.x0.cb W) W w'):SimQ k R w':=by
 have h1:=hk.hb
 exact h.kept hK (fun y hy=>pilT_sim hS h1 (Nat.le_trans h1 hb) y (by rw [hx]; exact hy))
theorem RF_all {k:OpC} (i:Nat) (hi:i = k.n):∀ m,m < k.n → k.RF i m = k.fen m:=fun m hm=>by
 subst hi
 unfold OpC.RF
 rw [if_pos hm]
theorem RU_fen {k:OpC}:∀ m,m < k.n → k.fen m = k.RU (k.fen (k.nd k.cn)) (k.fen (k.nd (k.n - 1))) m:=fun m _=>by
 unfold OpC.RU
 by_cases e:m = k.nd k.cn
 ·subst e; simp
 ·by_cases e2:m = k.nd (k.n - 1)
  ·rw [if_neg e,if_pos e2,e2]
  ·rw [if_neg e,if_neg e2]
def OpC.nxt (k:OpC) (p:Ph) (ls:List OneM) (W:World) (e:Ending) (w':World):Prop:=∃ A ca nx p',e = .returned (.slice A (List.length nx) ca) ∧ Ph.ok k p' ∧ Ph.ms k p' + 1 = p.ms k ∧ p'.ls k = ls ++ nx ∧ p'.sim k w' ∧ p'.pil k w' ∧ OwnR w' W.heap.size 65 26 A nx.length ca (lettersC k.frm nx) ∧ Kept (LawT W) W w' ∧ ∃ es:List TypeId,Kept (PilT es k.B0 W.heap.size k.pb k.x0.cb W) W w' ∧ es.contains 3 = false
theorem op_fen {k:OpC} (hk:OpOk2 k) {i:Nat} (hi:i < k.n) {g:Nat × Nat} {W:World} (hs:SimQ k (k.RF (i + 1)) W) (hS:PilS W k.B0 k.pb (k.xF g) (k.cF i)) (hg:k.gF i g W) (hb:k.B0 ≤ W.heap.size) (o:OneM) (sy:SayR) (frm:Int) (ho:o = k.oF i) (hsy:sy = k.syF i) (hfrm:frm = k.frm) :
  Calls Tryz.prog 19 #[.pointer (some ⟨k.pb,0,none⟩),i6 k.now,.agg #[i6 o.to,i6 frm,i6 o.id,.bool true,i6 0,i6 0,i6 0,i6 0,i6 0,i6 0,i6 0,i6 0,sT ⟨#[]⟩,i6 sy.st,i6 sy.ep,i6 sy.ou,.bool sy.rc.used,i6 sy.rc.fence,i6 sy.rc.de,i6 sy.rc.ds,sT sy.rc.block,.bool sy.rc.op,i6 sy.rc.ie,i6 sy.rc.is,i6 sy.rc.mask,sT sy.rc.staged]] W (k.nxt (.fen i) (k.lsF.drop (i + 1)) W):=by
 have hk1:=hk.toOpOk
 by_cases hl:i + 1 < k.n
 ·refine (recv_fence hk1 hi (α:=Unit) (fun _=>k.xF g) (fun _=>k.cF (i + 1)) (fun _=>[]) (fun _=>k.gF (i + 1) g) (fun _=>(k.gF_stb _ g).s) (fun _=>rfl) (fun _=>⟨(),rfl,rfl,rfl,fun _ h=>h⟩) (fun h=>by omega) hS hg hb o sy frm ho hsy hfrm).mono fun e w' ⟨_,A,ca,q1,q2,q3,q4,q5,q6⟩=>?_
  exact ⟨A,ca,[],.fen (i + 1),q1,hl,by simp only [Ph.ms]; omega,by simp [Ph.ls],hs.pil hk1 hS rfl hb q5,⟨g,q3,q4⟩,q2,q6,_,q5,rfl⟩
 ·have hn:i + 1 = k.n:=by omega
  have hd:k.lsF.drop (i + 1) = []:=by rw [List.drop_eq_nil_iff,k.lsF_len]; omega
  have hf:=hs.congr (RF_all (i + 1) hn)
  rw [hd]
  rcases hk.hkd with h | h | h
  ·have er:k.rest = 2:=by simp [OpC.rest,h]
   refine (recv_fence hk1 hi (fun gx=>k.xR g gx noB) (fun _=>k.cR 0) (fun _=>k.lsR) (fun gx=>k.gR gx) (fun gx=>(k.gR_stb gx).s) (fun _=>rfl) (fun h=>by omega) (fun _ wx hX hbx=>work_read hk1 h hX hbx) hS hg hb o sy frm ho hsy hfrm).mono fun e w' ⟨gx,A,ca,q1,q2,q3,q4,q5,q6⟩=>?_
   exact ⟨A,ca,k.lsR,.rd0,q1,h,by simp only [Ph.ms,er]; omega,rfl,hf.pil hk1 hS rfl hb q5,⟨g,gx,q3,q4⟩,q2,q6,_,q5,rfl⟩
  ·have er:k.rest = 6:=by simp [OpC.rest,h]
   refine (recv_fence hk1 hi (fun gx=>k.xQ g gx noB) (fun _=>k.cQ 0) (fun _=>k.lsQ) (fun gx=>k.gQ gx) (fun gx=>(k.gQ_stb gx).s) (fun _=>rfl) (fun h=>by omega) (fun _ wx hX hbx=>work_write hk1 h hX hbx) hS hg hb o sy frm ho hsy hfrm).mono fun e w' ⟨gx,A,ca,q1,q2,q3,q4,q5,q6⟩=>?_
   exact ⟨A,ca,k.lsQ,.rw0,q1,h,by simp only [Ph.ms,er]; omega,rfl,hf.pil hk1 hS rfl hb q5,⟨g,gx,q3,q4⟩,q2,q6,_,q5,rfl⟩
  ·have er:k.rest = 0:=by simp [OpC.rest,h]
   have el:k.lvE = k.lvW:=by simp [OpC.lvE,h]
   have ed:k.dtE = ⟨#[]⟩:=by simp [OpC.dtE,h]
   have eR:k.Rend = k.fen:=by simp [OpC.Rend,h]
   refine (recv_fence hk1 hi (α:=Unit) (fun _=>k.xI k.lvW ⟨#[]⟩) (fun _=>k.cI 0) (fun _=>[]) (fun _ W_=>∀ base',PartyX 124 141 W_ base' k.x0.cb (k.cI 0)) (fun _=>stbS_party) (fun _=>rfl) (fun h=>by omega) (fun _ wx hX hbx=>(work_reb hk1 h hX hbx).mono fun _ _ ⟨h1,h2,h3,h4⟩=>⟨h1,⟨(),h2,h3⟩,h4⟩) hS hg hb o sy frm ho hsy hfrm).mono fun e w' ⟨_,A,ca,q1,q2,q3,q4,q5,q6⟩=>?_
   refine ⟨A,ca,[],.fin,q1,trivial,by simp only [Ph.ms,er]; omega,rfl,?_,?_,q2,q6,_,q5,rfl⟩
   ·show SimQ k k.Rend w'
    rw [eR]
    exact hf.pil hk1 hS rfl hb q5
   ·show PilS w' k.B0 k.pb (k.xI k.lvE k.dtE) (k.cI (k.rest:Int)) ∧ ∀ base',PartyX 124 141 w' base' k.x0.cb (k.cI (k.rest:Int))
    rw [el,ed,er]
    exact ⟨q3,q4⟩
theorem op_rec {k:OpC} (hk:OpOk2 k) {p:Ph} (hp:p.ok k) {o:OneM} {ls:List OneM} (hl:p.ls k = o :: ls) {W:World} (hs:SimQ k (p.RA k) W) (hP:p.pil k W) (hb:k.B0 ≤ W.heap.size) (sy:SayR) (hsy:sy = p.sy k) (frm:Int) (hfrm:frm = k.frm) :
  Calls Tryz.prog 19 #[.pointer (some ⟨k.pb,0,none⟩),i6 k.now,.agg #[i6 o.to,i6 frm,i6 o.id,.bool true,i6 0,i6 0,i6 0,i6 0,i6 0,i6 0,i6 0,i6 0,sT ⟨#[]⟩,i6 sy.st,i6 sy.ep,i6 sy.ou,.bool sy.rc.used,i6 sy.rc.fence,i6 sy.rc.de,i6 sy.rc.ds,sT sy.rc.block,.bool sy.rc.op,i6 sy.rc.ie,i6 sy.rc.is,i6 sy.rc.mask,sT sy.rc.staged]] W (k.nxt p ls W):=by
 have hk1:=hk.toOpOk
 have hn:=hk1.hn
 have h3:=hk1.hlast
 have hcn:=hk1.hcn
 cases p with
 | lea=>
  obtain ⟨rfl,rfl⟩:=List.cons.inj hl
  refine (recv_lease hk1 hP hb _ sy frm rfl hsy hfrm).mono fun e w' ⟨g,A,ca,q1,q2,q3,q4,q5,q6⟩=>?_
  rw [hfrm] at q2
  exact ⟨A,ca,k.lsF,.fen 0,q1,by show 0 < k.n; omega,by simp only [Ph.ms]; omega,rfl,(hs.pil hk1 hP rfl hb q5).congr (fun m _=>by simp [Ph.RA,OpC.RF,Ph.RB]),⟨g,q3,q4⟩,q2,q6,_,q5,rfl⟩
 | fen i=>
  have hi:i < k.n:=hp
  have e:k.lsF.drop i = o :: ls:=hl
  rw [k.lsF_drop hi] at e
  obtain ⟨rfl,rfl⟩:=List.cons.inj e
  obtain ⟨g,hS,hg⟩:=hP
  exact op_fen hk hi hs hS hg hb _ sy frm rfl hsy hfrm
 | rd0=>
  obtain ⟨rfl,rfl⟩:=List.cons.inj hl
  obtain ⟨g,gx,hS,hg⟩:=hP
  refine (recv_read0 hk1 hS hg hb _ sy frm rfl hsy hfrm).mono fun e w' ⟨A,ca,q1,q2,q3,q4,q5,q6⟩=>?_
  exact ⟨A,ca,[],.rd1,q1,hp,rfl,rfl,SimQ.pil hk1 hs hS rfl hb q5,⟨g,gx,q3,q4⟩,q2,q6,_,q5,rfl⟩
 | rd1=>
  obtain ⟨rfl,rfl⟩:=List.cons.inj hl
  obtain ⟨g,gx,hS,hg⟩:=hP
  have h:k.kd = 1:=hp
  have er:k.rest = 2:=by simp [OpC.rest,h]
  have el:k.lvE = k.lvW:=by simp [OpC.lvE,h]
  have ed:k.dtE = k.blk (k.nd k.cn):=by simp [OpC.dtE,h]
  have eR:k.Rend = k.fen:=by simp [OpC.Rend,h]
  refine (recv_read1 hk1 (blk_size hk1 _) hS hg hb _ sy frm rfl hsy hfrm).mono fun e w' ⟨A,ca,q1,q2,q3,q4,q5,q6⟩=>?_
  refine ⟨A,ca,[],.fin,q1,trivial,rfl,rfl,?_,?_,q2,q6,_,q5,rfl⟩
  ·show SimQ k k.Rend w'
   rw [eR]
   exact SimQ.pil hk1 hs hS rfl hb q5
  ·show PilS w' k.B0 k.pb (k.xI k.lvE k.dtE) (k.cI (k.rest:Int)) ∧ ∀ base',PartyX 124 141 w' base' k.x0.cb (k.cI (k.rest:Int))
   rw [el,ed,er]
   exact ⟨q3,q4⟩
 | rw0=>
  obtain ⟨rfl,rfl⟩:=List.cons.inj hl
  obtain ⟨g,gx,hS,hg⟩:=hP
  refine (recv_rw0 hk1 hS hg hb _ sy frm rfl hsy hfrm).mono fun e w' ⟨A,ca,q1,q2,q3,q4,q5,q6⟩=>?_
  exact ⟨A,ca,[],.rw1,q1,hp,rfl,rfl,SimQ.pil hk1 hs hS rfl hb q5,⟨g,gx,q3,q4⟩,q2,q6,_,q5,rfl⟩
 | rw1=>
  obtain ⟨rfl,rfl⟩:=List.cons.inj hl
  obtain ⟨g,gx,hS,hg⟩:=hP
  refine (recv_rw1 hk1 (hk.hda hp) hS hg hb _ sy frm rfl hsy hfrm).mono fun e w' ⟨v,A,ca,q1,q2,q3,q4,q5,q6⟩=>?_
  exact ⟨A,ca,k.lsP,.pr0,q1,hp,rfl,rfl,(SimQ.pil hk1 hs hS rfl hb q5).congr RU_fen,⟨g,gx,v,q3,q4⟩,q2,q6,_,q5,rfl⟩
 | pr0=>
  obtain ⟨rfl,rfl⟩:=List.cons.inj hl
  obtain ⟨g,gx,v,hS,hg⟩:=hP
  refine (recv_upd hk1 (cc:=k.cP 0) (o:=k.oP k.cn k.da 0) (R:=[k.oP (k.n - 1) k.par 1]) (col:=k.cn) rfl rfl (by omega) rfl (by show 1 ≤ k.last + 1 + (k.n:Int) + 2 + ((0:Nat):Int) + 1 ∧ k.last + 1 + (k.n:Int) + 2 + ((0:Nat):Int) + 1 ≤ _; omega) (fun wx h1 h2=>said_P rfl (pU_open hk1 _ _ _ _).1 rfl wx h1 h2) (α:=Unit) (fun _=>k.xU g gx v) (fun _=>k.cP 1) (fun _=>[]) (fun _=>k.gU v (k.pU true false false false)) (fun _=>(k.gU_stb v _).s) (fun _=>rfl) (fun _=>⟨(),rfl,rfl,rfl,fun _ h=>h⟩) (fun h=>by cases h) hS hg hb sy frm hsy hfrm).mono fun e w' ⟨_,A,ca,q1,q2,q3,q4,q5,q6⟩=>?_
  exact ⟨A,ca,[],.pr1,q1,hp,rfl,rfl,SimQ.pil hk1 hs hS rfl hb q5,⟨g,gx,v,q3,q4⟩,q2,q6,_,q5,rfl⟩
 | pr1=>
  obtain ⟨rfl,rfl⟩:=List.cons.inj hl
  obtain ⟨g,gx,v,hS,hg⟩:=hP
  refine (recv_upd hk1 (cc:=k.cP 1) (o:=k.oP (k.n - 1) k.par 1) (R:=[]) (col:=k.n - 1) rfl rfl (by omega) rfl (by show 1 ≤ k.last + 1 + (k.n:Int) + 2 + ((1:Nat):Int) + 1 ∧ k.last + 1 + (k.n:Int) + 2 + ((1:Nat):Int) + 1 ≤ _; omega) (fun wx h1 h2=>said_P rfl (pU_open hk1 _ _ _ _).2 rfl wx h1 h2) (α:=Unit) (fun _=>k.xU g gx v) (fun _=>k.cC 0) (fun _=>k.lsC) (fun _=>k.gU v (k.pU true true false false)) (fun _=>(k.gU_stb v _).s) (fun _=>rfl) (fun h=>absurd rfl h) (fun _=>.inl ⟨rfl,fun wx lb hX hg hbx=>(work_comm hk1 hX hg hbx).mono fun _ _ ⟨h1,h2,h3⟩=>⟨h1,⟨(),h2⟩,h3⟩⟩) hS hg hb sy frm hsy hfrm).mono fun e w' ⟨_,A,ca,q1,q2,q3,q4,q5,q6⟩=>?_
  exact ⟨A,ca,k.lsC,.co0,q1,hp,rfl,rfl,SimQ.pil hk1 hs hS rfl hb q5,⟨g,gx,v,q3,q4⟩,q2,q6,_,q5,rfl⟩
 | co0=>
  obtain ⟨rfl,rfl⟩:=List.cons.inj hl
  obtain ⟨g,gx,v,hS,hg⟩:=hP
  refine (recv_upd hk1 (cc:=k.cC 0) (o:=k.oC k.cn 0) (R:=[k.oC (k.n - 1) 1]) (col:=k.cn) rfl rfl (by omega) rfl (by show 1 ≤ k.last + 1 + (k.n:Int) + 2 + 2 + ((0:Nat):Int) + 1 ∧ k.last + 1 + (k.n:Int) + 2 + 2 + ((0:Nat):Int) + 1 ≤ _; omega) (fun wx h1 h2=>said_C rfl (by show (1:Int) ≠ 0; decide) (pU_done hk1 _ _ _ _).1 rfl wx h1 h2) (α:=Unit) (fun _=>k.xU g gx v) (fun _=>k.cC 1) (fun _=>[]) (fun _=>k.gU v (k.pU true true true false)) (fun _=>(k.gU_stb v _).s) (fun _=>rfl) (fun _=>⟨(),rfl,rfl,rfl,fun _ h=>h⟩) (fun h=>by cases h) hS hg hb sy frm hsy hfrm).mono fun e w' ⟨_,A,ca,q1,q2,q3,q4,q5,q6⟩=>?_
  exact ⟨A,ca,[],.co1,q1,hp,rfl,rfl,SimQ.pil hk1 hs hS rfl hb q5,⟨g,gx,v,q3,q4⟩,q2,q6,_,q5,rfl⟩
 | co1=>
  obtain ⟨rfl,rfl⟩:=List.cons.inj hl
  obtain ⟨g,gx,v,hS,hg⟩:=hP
  have h:k.kd = 2:=hp
  have er:k.rest = 6:=by simp [OpC.rest,h]
  have el:k.lvE = k.lvU:=by simp [OpC.lvE,h]
  have ed:k.dtE = ⟨#[]⟩:=by simp [OpC.dtE,h]
  have eR:k.Rend = k.RU (k.dn k.cn k.da) (k.dn (k.n - 1) k.par):=by simp [OpC.Rend,h]
  have ec:(⟨k.frm,k.last + 1 + (k.n:Int) + 2 + 2 + 2,[]⟩:CM) = k.cI 6:=by
   unfold OpC.cI
   rw [show k.last + 1 + (k.n:Int) + 2 + 2 + 2 = k.last + 1 + (k.n:Int) + 6 by omega]
  refine (recv_upd hk1 (cc:=k.cC 1) (o:=k.oC (k.n - 1) 1) (R:=[]) (col:=k.n - 1) rfl rfl (by omega) rfl (by show 1 ≤ k.last + 1 + (k.n:Int) + 2 + 2 + ((1:Nat):Int) + 1 ∧ k.last + 1 + (k.n:Int) + 2 + 2 + ((1:Nat):Int) + 1 ≤ _; omega) (fun wx h1 h2=>said_C rfl (by show (1:Int) ≠ 0; decide) (pU_done hk1 _ _ _ _).2 rfl wx h1 h2) (α:=Unit) (fun _=>k.xI k.lvU ⟨#[]⟩) (fun _=>k.cI 6) (fun _=>[]) (fun _ W_=>∀ base',PartyX 124 141 W_ base' k.x0.cb (k.cI 6)) (fun _=>stbS_party) (fun _=>rfl) (fun h=>absurd rfl h) (fun _=>.inr ⟨rfl,fun wx lb hX hq=>⟨(),by rw [← ec]; exact hX,by rw [← ec]; exact hq⟩⟩) hS hg hb sy frm hsy hfrm).mono fun e w' ⟨_,A,ca,q1,q2,q3,q4,q5,q6⟩=>?_
  refine ⟨A,ca,[],.fin,q1,trivial,rfl,rfl,?_,?_,q2,q6,_,q5,rfl⟩
  ·show SimQ k k.Rend w'
   rw [eR]
   exact SimQ.pil hk1 hs hS rfl hb q5
  ·show PilS w' k.B0 k.pb (k.xI k.lvE k.dtE) (k.cI (k.rest:Int)) ∧ ∀ base',PartyX 124 141 w' base' k.x0.cb (k.cI (k.rest:Int))
   rw [el,ed,er]
   exact ⟨q3,q4⟩
 | fin=>cases hl
end Go.Proofs.YtcmpkkapkdlfhaaGreat
namespace Go.Proofs.YtcmpkkapkdlfhaaGreat
open Go.Shelf Go.RowKit Go.Sort
def Tryz.lays189_ren:Go.Shelf.Ren:=⟨fun | 189=>93 | 125=>116 | 257=>115 | 128=>136 | 129=>137 | 294=>127 | 295=>128 | 296=>129 | 297=>130 | 298=>131 | 299=>132 | 216=>133 | 300=>134 | 301=>135 | 328=>143 | 329=>144 | 330=>145 | 331=>146 | 332=>147 | 215=>148 | 343=>155 | n=>n,fun | 28=>25 | 3=>3 | 46=>186 | 0=>0 | 51=>206 | 53=>208 | 4=>4 | 183=>199 | 182=>198 | 131=>104 | 5=>5 | 9=>9 | 218=>212 | 222=>191 | 228=>224 | 229=>225 | n=>n,fun | n=>n⟩
theorem Tryz.lays189:Go.Proofs.Lays.n189 Tryz.prog Tryz.lays189_ren:={
 mixed:=by kernel_rfl
 f125:=Tryz.func116.trans (congrArg some (by kernel_rfl))
 f128:=Tryz.func136.trans (congrArg some (by kernel_rfl))
 f129:=Tryz.func137.trans (congrArg some (by kernel_rfl))
 f189:=Tryz.func93.trans (congrArg some (by kernel_rfl))
 f215:=Tryz.func148.trans (congrArg some (by kernel_rfl))
 f216:=Tryz.func133.trans (congrArg some (by kernel_rfl))
 f257:=Tryz.func115.trans (congrArg some (by kernel_rfl))
 f294:=Tryz.func127.trans (congrArg some (by kernel_rfl))
 f295:=Tryz.func128.trans (congrArg some (by kernel_rfl))
 f296:=Tryz.func129.trans (congrArg some (by kernel_rfl))
 f297:=Tryz.func130.trans (congrArg some (by kernel_rfl))
 f298:=Tryz.func131.trans (congrArg some (by kernel_rfl))
 f299:=Tryz.func132.trans (congrArg some (by kernel_rfl))
 f300:=Tryz.func134.trans (congrArg some (by kernel_rfl))
 f301:=Tryz.func135.trans (congrArg some (by kernel_rfl))
 f328:=Tryz.func143.trans (congrArg some (by kernel_rfl))
 f329:=Tryz.func144.trans (congrArg some (by kernel_rfl))
 f330:=Tryz.func145.trans (congrArg some (by kernel_rfl))
 f331:=Tryz.func146.trans (congrArg some (by kernel_rfl))
 f332:=Tryz.func147.trans (congrArg some (by kernel_rfl))
 f343:=Tryz.func155.trans (congrArg some (by kernel_rfl))
 t0:=Tryz.underlying0
 a0:=Tryz.isAgg0
 z0:=Tryz.sizeOf0
 v0:=Tryz.zeroValue0
 t3:=Tryz.underlying3
 a3:=Tryz.isAgg3
 z3:=Tryz.sizeOf3
 v3:=Tryz.zeroValue3
 t4:=Tryz.underlying4
 a4:=Tryz.isAgg4
 z4:=Tryz.sizeOf4
 v4:=Tryz.zeroValue4
 t5:=Tryz.underlying5
 a5:=Tryz.isAgg5
 z5:=Tryz.sizeOf5
 v5:=Tryz.zeroValue5
 t9:=Tryz.underlying9
 a9:=Tryz.isAgg9
 z9:=Tryz.sizeOf9
 v9:=Tryz.zeroValue9
 t28:=Tryz.underlying25
 a28:=Tryz.isAgg25
 z28:=Tryz.sizeOf25
 v28:=Tryz.zeroValue25
 t46:=Tryz.underlying186
 a46:=Tryz.isAgg186
 z46:=Tryz.sizeOf186
 v46:=Tryz.zeroValue186
 t51:=Tryz.underlying206
 a51:=Tryz.isAgg206
 z51:=Tryz.sizeOf206
 v51:=Tryz.zeroValue206
 t53:=Tryz.underlying208
 a53:=Tryz.isAgg208
 z53:=Tryz.sizeOf208
 v53:=Tryz.zeroValue208
 t131:=Tryz.underlying104
 a131:=Tryz.isAgg104
 z131:=Tryz.sizeOf104
 v131:=Tryz.zeroValue104
 t182:=Tryz.underlying198
 a182:=Tryz.isAgg198
 z182:=Tryz.sizeOf198
 v182:=Tryz.zeroValue198
 t183:=Tryz.underlying199
 a183:=Tryz.isAgg199
 z183:=Tryz.sizeOf199
 v183:=Tryz.zeroValue199
 t218:=Tryz.underlying212
 a218:=Tryz.isAgg212
 z218:=Tryz.sizeOf212
 v218:=Tryz.zeroValue212
 t222:=Tryz.underlying191
 a222:=Tryz.isAgg191
 z222:=Tryz.sizeOf191
 v222:=Tryz.zeroValue191
 t228:=Tryz.underlying224
 a228:=Tryz.isAgg224
 z228:=Tryz.sizeOf224
 v228:=Tryz.zeroValue224
 t229:=Tryz.underlying225
 a229:=Tryz.isAgg225
 z229:=Tryz.sizeOf225
 v229:=Tryz.zeroValue225 }
theorem Tryz.slices_Sort_int_none (p:Option Addr) (cap:Nat) (w:World) :
  Calls Tryz.prog 93 #[.slice p 0 cap] w fun e w'=>e = .returned (.tuple #[]) ∧ w' = w:=Any.slices_Sort_int_none Tryz.lays189 p cap w
theorem sort_nil (w:World):Calls Tryz.prog 93 #[.slice none 0 0] w (RetK (.tuple #[]) w):=
 (Tryz.slices_Sort_int_none none 0 w).mono fun _ _ ⟨he,hw⟩=>⟨he,by subst hw; exact Kept.refl _ _⟩
end Go.Proofs.YtcmpkkapkdlfhaaGreat
