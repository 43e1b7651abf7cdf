import Derived.Test.YtcmpkkapkdlfhaaGreatMdl17
import Derived.Test.YtcmpkkapkdlfhaaGreatOp17
namespace Go.Proofs.YtcmpkkapkdlfhaaGreat
open Go.RowKit
def TwoL(lo N S sb pa pb:Nat)(nn T:Int)(L:List ByteArray)(W:World):Prop:=∃M,Mdl N S L M∧TwoE lo N S sb pa pb nn T M W
theorem TwoL.stb{lo N S sb pa pb:Nat}{nn T:Int}{L:List ByteArray}:Stb (TwoL lo N S sb pa pb nn T L):=fun _ _ _ _ ⟨M,h1,h2⟩ hk hT he=>⟨M,h1,TwoE.stb _ _ _ _ h2 hk hT he⟩
theorem TwoL.len{lo N S sb pa pb:Nat}{nn T:Int}{L:List ByteArray}{W:World}(h:TwoL lo N S sb pa pb nn T L W):L.length=S*(N-1):=by obtain⟨M,h1,_⟩:=h; exact h1.len
theorem opK_bd(x:Act17):opK x=1∨opK x=2∨opK x=3:=by
 have h:=pickZ_bd (x.v 1) 7 (by omega)
 unfold opK
 omega
theorem op_two{lo N S sb pa pb pp:Nat}(hpp:pp=pa∨pp=pb){x:Act17}{kd:Int}{q:Nat}{da:ByteArray}(hk:opK x=kd)(hq:opA (S:Int) (N:Int) x=(q:Int))(hd:opD x=da){nn T now:Int}{L:List ByteArray}(hN:3<=N∧N<=6)(hS:1<=S∧S<=8)(hT:-100<=T∧T+30<=now∧0<=now∧now<=1000000)(hnn:0<=nn∧nn<=100)(w:World)(h:TwoL lo N S sb pa pb nn T L w) :
  Calls Tryz.prog 23 #[.pointer (some ⟨sb,0,none⟩),.pointer (some ⟨pp,0,none⟩),i6 now,.agg #[i6 kd,i6 (q:Int),sT da]] w (fun e w'=>∃v,e=.returned (.tuple #[i6 0,sT v,.bool true])∧TwoL lo N S sb pa pb (nn+1) now (if kd=2 then L.set q da else L) w'∧((kd=1∨kd=2∨kd=3)∧(kd≠3->q<L.length)∧(kd=1->L[q]?=some v))∧Kept (LawL lo w) w w'):=by
 obtain⟨M,hM,h⟩:=h
 have hkb:=opK_bd x
 rw[hk]at hkb
 have hm2:((S*(N-1):Nat):Int)=(S:Int)*((N:Int)-1):=by rw[Int.natCast_mul,Int.natCast_sub (by omega)]; rfl
 have hm1:1*2<=S*(N-1):=Nat.mul_le_mul hS.1 (by omega)
 have hO:∃sn cn,GoodOp N S sn cn kd (q:Int) da 200 nn T now∧GoodOp N S sn cn kd (q:Int) da 201 nn T now∧(kd≠3->q<S*(N-1)∧sn=q/(N-1)∧cn=q%(N-1)):=by
  by_cases h3:kd=3
  ·have ed:da=⟨#[]⟩:=by rw[<-hd]; unfold opD; rw[if_neg (by omega)]
   have eq:pickZ (x.v 2) (S:Int)=(q:Int):=by rw[<-hq]; unfold opA; rw[if_pos (by omega)]
   have hb:=pickZ_bd (x.v 2) (S:Int) (by omega)
   rw[eq]at hb
   have hc:∀frm:Int,200<=frm∧frm<202->GoodOp N S q 0 kd (q:Int) da frm nn T now:=fun frm hf=>⟨hN,hS,by omega,by omega,hf,hT,hnn,.inl ⟨h3,rfl,rfl,ed⟩⟩
   exact⟨q,0,hc 200 (by omega),hc 201 (by omega),fun h=>absurd h3 h⟩
  ·have eq:pickZ (x.v 2) ((S:Int)*((N:Int)-1))=(q:Int):=by rw[<-hq]; unfold opA; rw[if_neg (by omega)]
   have hb:=pickZ_bd (x.v 2) ((S:Int)*((N:Int)-1)) (by omega)
   rw[eq,<-hm2]at hb
   have hda:(kd=1∧da=⟨#[]⟩)∨(kd=2∧da.size=16):=by
    rw[<-hd]
    unfold opD
    by_cases h2:kd=2
    ·exact .inr ⟨h2,by rw[if_pos (by omega)]; exact size_strL 16 _⟩
    ·exact .inl ⟨by omega,by rw[if_neg (by omega)]⟩
   have e1:Int.toNat ((q:Int)/((N:Int)-1))=q/(N-1):=by rw[show(N:Int)-1=((N-1:Nat):Int)by omega,<-Int.natCast_ediv,Int.toNat_natCast]
   have e2:Int.toNat ((q:Int)%((N:Int)-1))=q%(N-1):=by rw[show(N:Int)-1=((N-1:Nat):Int)by omega,<-Int.natCast_emod,Int.toNat_natCast]
   have hc:∀frm:Int,200<=frm∧frm<202->GoodOp N S (q/(N-1)) (q%(N-1)) kd (q:Int) da frm nn T now:=fun frm hf=>by
    have h:=goodOp_of (N:=N) (S:=S) (q:=(q:Int)) hN hS ⟨by omega,by rw[<-hm2]; omega⟩ hda hf hT hnn
    rwa [e1,e2]at h
   exact⟨_,_,hc 200 (by omega),hc 201 (by omega),fun _=>⟨by omega,rfl,rfl⟩⟩
 obtain⟨sn,cn,hOa,hOb,hs⟩:=hO
 have hc:Calls Tryz.prog 23 #[.pointer (some ⟨sb,0,none⟩),.pointer (some ⟨pp,0,none⟩),i6 now,.agg #[i6 kd,i6 (q:Int),sT da]] w (fun e w'=>e=.returned (.tuple #[i6 0,sT (if kd=1 then M ((cn+sn)%N) sn else⟨#[]⟩),.bool true])∧TwoE lo N S sb pa pb (nn+1) now (opM N sn cn kd da M) w'∧Kept (LawL lo w) w w'):=by
  rcases hpp with rfl|rfl
  ·exact plays_a hOa w h
  ·exact plays_b hOb w h
 refine hc.mono fun e w' ⟨a1,a2,a3⟩=>⟨_,a1,⟨opM N sn cn kd da M,?_,a2⟩,⟨hkb,fun h3=>by rw[hM.len]; exact(hs h3).1,fun h1=>?_⟩,a3⟩
 ·by_cases h2:kd=2
  ·obtain⟨b1,b2,b3⟩:=hs (by omega)
   subst h2 b2 b3
   rw[if_pos rfl]
   refine mdl_write hN b1 ?_ hM
   rw[<-hd]
   unfold opD
   rw[if_pos hk]
   exact size_strL 16 _
  ·rw[if_neg h2,show opM N sn cn kd da M=M by funext m i; unfold opM; rw[if_neg (fun hh=>h2 hh.2)]]
   exact hM
 ·obtain⟨b1,b2,b3⟩:=hs (by omega)
  rw[hM.at_ q b1,if_pos h1,b2,b3]
  rfl
theorem nought_two{lo N S sb pa pb i:Nat}{nn T:Int}{L:List ByteArray}(hN:3<=N∧N<=6)(hi:i<S)(w:World)(h:TwoL lo N S sb pa pb nn T L w):Calls Tryz.prog 22 #[.pointer (some ⟨sb,0,none⟩),i6 (i:Int)] w (RetK (.bool true) w):=by
 obtain⟨M,hM,b,ca,cb,s,x,c,y,d,h1,h2,h3,h4,h5,h6,h7,h8,h9,h10⟩:=h
 have e1:=h3.sN
 have e2:=h3.sS
 have hh:=nought_any s b i (fun m=>M m i) (by omega) (by omega) (fun m hm=>hM.sz i hi m (by omega)) (by rw[e1]; exact hM.zer i hi) w h1 (fun m hm=>by
  obtain⟨F,d,q,B,b1,_⟩:=h3.rcd i hi m (by omega)
  have b2:=h8 i hi m (by omega)
  rw[b1]at b2
  exact⟨F,d,q,by rw[b1,<-b2]⟩)
 rw[h2.1]at hh
 exact hh
theorem own_store{w:World}{base g:Nat}{t e:TypeId}{n cp:Nat}{cs:List Value}{v:Value}(h:OwnR w base e 1 (some ⟨g,0,none⟩) n cp cs)(k:Nat)(hk:k<n)(hs:(Tryz.prog.info? t).map (·.size)=some 1)(hv:v.cells=#[v])(h1:v.oneCell'=true) :
  ∃w',(Instr.storeAt t (.pointer (some ⟨g,0+k*1,none⟩)) v).run Tryz.prog w=.ok () w'∧OwnR w' base e 1 (some ⟨g,0,none⟩) n cp (cs.set k v)∧Kept (ownS (some ⟨g,0,none⟩)) w w':=by
 have hl:=h.len
 obtain⟨w',a1,a2,a3,_⟩:=own_storeG (P:=Tryz.prog) (t:=t) (v:=v) (0+k*1) 1 h (by rw[hv]; rfl) (by omega) hs (by rw[hv]; simpa using h1)
 refine⟨w',a1,?_,a3⟩
 rw[show 0+k*1=k by omega,hv]at a2
 rw[List.set_eq_take_append_cons_drop,if_pos (by omega)]
 simpa using a2
def TwoA(lo N S sb pa pb:Nat)(W:World):Prop:=∃nn T L,TwoL lo N S sb pa pb nn T L W
theorem TwoA.stb{lo N S sb pa pb:Nat}:Stb (TwoA lo N S sb pa pb):=fun _ _ _ _ ⟨nn,T,L,h⟩ hk hT he=>⟨nn,T,L,TwoL.stb _ _ _ _ h hk hT he⟩
theorem nought_a{lo N S sb pa pb i:Nat}(hN:3<=N∧N<=6)(hi:i<S)(w:World)(h:TwoA lo N S sb pa pb w):Calls Tryz.prog 22 #[.pointer (some ⟨sb,0,none⟩),i6 (i:Int)] w (RetK (.bool true) w):=by
 obtain⟨nn,T,L,h⟩:=h
 exact nought_two hN hi w h
theorem act_cellL{w W:World}{T:Nat->Prop}{b o j:Nat}{x:Act17}{v:Value}(hk:Kept T w W)(hT:∀y,T y->w.heap.size<=y)(hb:b<w.heap.size)(hc:∀j,j<31->w.cell? ⟨b,o+j,none⟩=x.cells[j]?)(hj:x.cells[j]?=some v):W.cell? ⟨b,o+j,none⟩=some v:=by
 have h5:j<31:=(List.getElem?_eq_some_iff.1 hj).1
 exact(hk.cell (p:=⟨b,o+j,none⟩) hb (fun h=>absurd (hT _ h) (Nat.not_le.2 hb))).trans ((hc j h5).trans hj)
theorem turned_lo{w W:World}{bk:List Bk}{wn:List Wn}{sz:Nat}(hm:MemOk w (LawL w.heap.size w) bk wn sz W){y:Nat}(h:Turned bk y):w.heap.size<=y:=by
 obtain⟨b,hb,hr,rfl⟩:=h
 exact(hm.own b hb hr).elim (fun h=>h.2) id
def Acts17At(w:World)(A:Option Addr)(n:Nat)(f:Nat->Act17):Prop:=
 ∀k,k<n->Act17Ok (f k)∧∃b o,A=some ⟨b,o,none⟩∧b<w.heap.size∧∀j,j<31->w.cell? ⟨b,o+k*31+j,none⟩=(f k).cells[j]?
theorem made_strs(n:Nat):(madeCells (Value.string ⟨#[]⟩).cells (n*1)).toList=strsV (List.replicate n ⟨#[]⟩):=by
 rw[show(Value.string ⟨#[]⟩).cells=#[sT ⟨#[]⟩]from rfl,toList_madeCells_one,Nat.mul_one]
 simp[strsV]
end Go.Proofs.YtcmpkkapkdlfhaaGreat
namespace Go.Proofs.YtcmpkkapkdlfhaaGreat
open Go.RowKit
set_option maxHeartbeats 4000000
set_option maxRecDepth 100000
theorem platRight_no  (w:World) :
  Calls Tryz.prog 26 #[.agg #[i6 0,i6 0]] w (RetK (.bool false) w):=by
 refine cH (S:=(fun _=>False)) (n:=14) Tryz.func26 (MemOk.none w _) ?_
 refine hgS 23 (dz 14 0x2000010108000010008002000800) [2] [vV] [(w.heap.size,0,2),(w.heap.size,0,1),(w.heap.size,1,1)] [.code [1,1]] [⟨w.heap.size,23,true,[i6 0,i6 0]⟩] [] (w.heap.size+1) ?_
 refine hrt [] [.bool false] [] ?_
 intro wx hm
 exact⟨rfl,hm.kept⟩
theorem pil_no  (w:World) :
  Calls Tryz.prog 8 #[.agg #[i6 0,i6 0],i6 0,i6 1] w (RetK (.pointer none) w):=by
 refine cH (S:=(fun _=>False)) (n:=34) Tryz.func8 (MemOk.none w _) ?_
 refine hgS 12 (dz 3 33556480) [1,2,3,6,7] [] [(w.heap.size,0,2)] [.ops [1,0,0] [1,2,3,4,5,6,7,8,9,10,11,12,13,14,15,16,17,18],.code [1,0,1],.code [1,1]] [⟨w.heap.size,23,true,[i6 0,i6 0]⟩] [] (w.heap.size+1) ?_
 refine hcq (.bool false) _ _ (some 8) [] tI rfl (fun wx hm=>platRight_no wx) fun z2 hz2=>?_
 refine hgS 26 (dz 19 0x131103110311031100) [1,2,3,6] (rE 13 tT) [] [.code [1,0,1,0,1],.code [1,1]] [⟨w.heap.size,23,true,[i6 0,i6 0]⟩] [] z2 ?_
 refine hrt [] [.pointer none] [] ?_
 intro wx hm
 exact⟨rfl,hm.kept⟩
end Go.Proofs.YtcmpkkapkdlfhaaGreat
namespace Go.Proofs.YtcmpkkapkdlfhaaGreat
open Go.RowKit
def awT:ByteArray:=⟨#[48,49,50,51,52,53,54,55,56,57,97,98,99,100,101,102]⟩
structure AwK(k:OpC)(h0 pa sb:Nat):Prop where
 ok:OpOk3 k
 lo:k.lo=h0
 pb:k.pb=pa
 sb:k.s0.sb=sb
 now:k.now=0
 kd:k.kd=2
 at_:k.at_=0
 da:k.da=awT
 frm:k.frm=200
 n:k.n=3
 S:k.S=1
 sn:k.sn=0
 cn:k.cn=0
 recs:k.s0.recs=fun _ _=>zrec
 hB:h0<=k.B0
 ed:k.x0.ed=0
def AwQ0(k:OpC)(h0 pa sb:Nat)(W:World):Prop:=AwK k h0 pa sb∧k.Q0 (fun _=>True) W
def AwQ1(k:OpC)(h0 pa sb:Nat)(W:World):Prop:=AwK k h0 pa sb∧k.Q1 (fun _=>True) W
def WantB(k:OpC)(g:Nat)(W:World):Prop:=Blk W g 3 [i6 1,i6 3,i6 2,i6 2,i6 2]∧k.b<=g∧g≠k.pb∧g≠k.x0.cb
theorem want_oth{k:OpC}{g:Nat}:OthOk k (WantB k g):=fun w w' T ⟨h1,h2,h3,h4⟩ hk hT=>⟨h1.kept hk (fun hx=>by
 rcases hT _ hx with e|e|e|e
 ·exact h3 e
 ·exact h4 e
 ·exact e.2 (blk_ty h1)
 ·have:=e.2 (blk_ty h1)
  omega),h2,h3,h4⟩
theorem WantB.stb{k:OpC}{g:Nat}:Stb (WantB k g):=want_oth.stb
def AwQ1W(k:OpC)(h0 pa sb g:Nat)(W:World):Prop:=AwQ1 k h0 pa sb W∧WantB k g W
def AwQ(k:OpC)(h0 pa sb g m:Nat)(ls:List OneM)(W:World):Prop:=AwK k h0 pa sb∧k.Q (WantB k g) m ls W
def AwA(k:OpC)(h0 pa sb g m:Nat)(o:OneM)(ls:List OneM)(sy:SayR)(W:World):Prop:=AwK k h0 pa sb∧k.QA (WantB k g) m o ls sy W
theorem aw_far{k:OpC}{h0 pa sb:Nat}{W:World}(h:AwQ1 k h0 pa sb W):k.b<=W.heap.size∧W.heap.size≠k.pb∧W.heap.size≠k.x0.cb:=by
 obtain⟨a,h1,⟨lb,h2,v,h3,h4⟩,h5,h6⟩:=h
 have e1:=a.ok.toOpOk.hb
 have e2:=h3.lt
 obtain⟨cur,fz,hc⟩:=h4.1.blk
 have e3:k.x0.cb<W.heap.size:=(Array.getElem?_eq_some_iff.1 hc).1
 exact⟨by omega,by omega,by omega⟩
theorem oth_true{k:OpC}:OthOk k (fun _=>True):=fun _ _ _ _ _ _=>trivial
theorem aw_s{h0 pa:Nat}(w:World)(h:NewA h0 3 1 pa w) :
  Calls Tryz.prog 9 #[.agg #[i6 3,i6 1]] w (fun e w'=>∃sb k,e=.returned (.pointer (some ⟨sb,0,none⟩))∧AwQ0 k h0 pa sb w'∧Kept (LawL h0 w) w w'):=by
 obtain⟨ca,a1,a2,a3⟩:=h
 have hh0:h0<=w.heap.size:=by have:=a2.1; have:=a3.1; omega
 refine(new_sim 3 1 (by decide) (by decide) w).mono fun _ w' ⟨s,h1,h2,⟨h3,h3l⟩,h4⟩=>?_
 have hG:GoodS 3 1 0 (-30) s:=⟨h3.sN,h3.sS,by rw[h3.ids]; rfl,by rw[h3.says]; rfl,fun i _=>⟨0,0,0,by rw[h3.lea],by omega,by omega⟩,fun i _ m _=>⟨0,0,0,zer16,by rw[h3.recs]; rfl,by rw[h3.lea]; exact⟨Int.le_refl 0,Int.le_refl 0⟩,by rw[h3.lea]; exact⟨Int.le_refl 0,Int.le_refl 0⟩,by omega,rfl⟩⟩
 have hO:GoodOp 3 1 0 0 2 0 awT 200 0 (-30) 0:=⟨by omega,by omega,by omega,by omega,by omega,by omega,by omega,.inr ⟨.inr ⟨rfl,rfl⟩,by decide,by decide,by decide⟩⟩
 have hP:GoodP 3 1 ca 200 0 (-30) s.ids (pil0 ((3:Nat):Int) ((1:Nat):Int) ca) ⟨200,1048576,[]⟩:=by rw[h3.ids]; exact goodP_new (by omega)
 exact⟨s.sb,mkC h0 w'.heap.size w'.heap.size pa 3 1 0 0 2 0 awT 200 0 s (pil0 ((3:Nat):Int) ((1:Nat):Int) ca) ⟨200,1048576,[]⟩,h1,⟨⟨good_ok hO hG hP (Nat.le_refl _) ⟨a3.1,a3.2,Nat.le_trans hh0 h4.size,Nat.le_trans hh0 h3l.1,Nat.le_trans hh0 h3l.2.1,Nat.le_trans hh0 h3l.2.2.1,fun n hn=>Nat.le_trans hh0 (h3l.2.2.2 n hn)⟩,rfl,rfl,rfl,rfl,rfl,rfl,rfl,rfl,rfl,rfl,rfl,rfl,h3.recs,Nat.le_trans hh0 h4.size,rfl⟩,h2,a1.kept0 h4,trivial,Nat.le_refl _⟩,h4.mono fun _ _ h=>h.elim⟩
theorem aw_sub{k:OpC}{h0 pa sb:Nat}(w:World)(h:AwQ0 k h0 pa sb w) :
  Calls Tryz.prog 14 #[.pointer (some ⟨pa,0,none⟩),i6 0,.agg #[i6 2,i6 0,sT awT]] w (fun e w'=>e=.returned (i6 0)∧AwQ1 k h0 pa sb w'∧Kept (LawL h0 w) w w'):=by
 obtain⟨a,h⟩:=h
 have hq:=op_sub a.ok oth_true w h
 rw[a.lo,a.pb,a.now,a.kd,a.at_,a.da]at hq
 exact hq.mono fun _ _ ⟨h1,h2,h3⟩=>⟨h1,⟨a,h2⟩,h3⟩
theorem aw_ms{k:OpC}{h0 pa sb:Nat}(a:AwK k h0 pa sb):k.rest=6:=by simp[OpC.rest,a.kd]
def awLen:Nat->Nat
 |0=>0|1=>1|2=>2|3=>1|4=>2|5=>1|6=>2|7=>1|8=>2|9=>3|_=>1
theorem aw_len{k:OpC}{h0 pa sb g m:Nat}{ls:List OneM}{W:World}(h:AwQ k h0 pa sb g m ls W):ls.length=awLen m∧m<=10:=by
 obtain⟨a,p,a1,rfl,rfl,_⟩:=h
 have er:=aw_ms a
 have en:=a.n
 have hl:=k.lsF_len
 cases p with
 |lea=>simp only[Ph.ms,Ph.ls,er,en]; exact⟨rfl,by omega⟩
 |fen i=>
  have hi:i<k.n:=a1
  simp only[Ph.ms,Ph.ls,er,en,List.length_drop,hl]
  have h3:i=0∨i=1∨i=2:=by omega
  rcases h3 with rfl|rfl|rfl<;>exact⟨rfl,by omega⟩
 |rd0|rd1=>
  have h1:k.kd=1:=a1
  have:=a.kd
  omega
 |_=>exact⟨rfl,by simp only[Ph.ms]; omega⟩
theorem aw_step{k:OpC}{h0 pa sb g:Nat}(w:World)(h:AwQ1W k h0 pa sb g w) :
  Calls Tryz.prog 16 #[.pointer (some ⟨pa,0,none⟩),i6 0] w (fun e w'=>∃A ca ls,e=.returned (.slice A (List.length ls) ca)∧AwQ k h0 pa sb g 10 ls w'∧OwnR w' h0 65 26 A ls.length ca (lettersC 200 ls)∧Kept (fun y=>LawL h0 w y∨(h0<=y∧TyIn w 65 y)) w w'):=by
 obtain⟨⟨a,h⟩,hw⟩:=h
 have hq:=op_step a.ok want_oth w ⟨h.1,h.2.1,hw,h.2.2.2⟩
 rw[a.lo,a.pb,a.now,a.frm]at hq
 refine hq.mono fun _ _ ⟨A,ca,ls,h1,h2,h3,h4⟩=>⟨A,ca,ls,h1,⟨a,?_⟩,h3.below a.hB,h4.mono fun y _ hy=>hy.imp id (fun h=>⟨Nat.le_trans a.hB h.1,h.2⟩)⟩
 rw[aw_ms a,a.n]at h2
 exact h2
theorem Ph.busy{k:OpC}(p:Ph){W:World}(h:p.pil k W)(hp:p≠.fin):∃x,Blk W k.pb 98 (PilC.cells x)∧x.busy=true:=by
 cases p with
 |lea=>exact⟨_,h.1,rfl⟩
 |fen i=>
  obtain⟨g,h1,_⟩:=h
  exact⟨_,h1.1,rfl⟩
 |rd0|rd1|rw0|rw1=>
  obtain⟨g,gx,h1,_⟩:=h
  exact⟨_,h1.1,rfl⟩
 |pr0|pr1|co0|co1=>
  obtain⟨g,gx,v,h1,_⟩:=h
  exact⟨_,h1.1,rfl⟩
 |fin=>exact absurd rfl hp
theorem aw_busy{k:OpC}{h0 pa sb g m:Nat}{ls:List OneM}(w:World)(h:AwQ k h0 pa sb g m ls w)(hm:m≠0) :
  Calls Tryz.prog 15 #[.pointer (some ⟨pa,0,none⟩)] w (RetK (.bool true) w):=by
 obtain⟨a,p,a1,a2,a3,a4,a5,a6,a7⟩:=h
 obtain⟨x,h1,h2⟩:=p.busy a5 (fun e=>hm (by rw[a2,e]; rfl))
 have hq:=pil_busy x k.pb w h1
 rw[h2,a.pb]at hq
 exact hq
theorem aw_fin{k:OpC}{h0 pa sb g:Nat}{ls:List OneM}{W:World}(h:AwQ k h0 pa sb g 0 ls W):AwK k h0 pa sb∧SimQ k k.Rend W∧PilS W k.B0 pa (k.xI k.lvE k.dtE) (k.cI (k.rest:Int)):=by
 obtain⟨a,p,a1,a2,a3,a4,a5,a6,a7⟩:=h
 have er:=aw_ms a
 have en:=a.n
 have e:p=.fin:=by
  cases p with
  |fin=>rfl
  |fen i=>
   have hi:i<k.n:=a1
   simp only[Ph.ms]at a2
   omega
  |_=>simp only[Ph.ms]at a2; omega
 subst e
 exact⟨a,a4,by rw[<-a.pb]; exact a5.1⟩
theorem aw_idle{k:OpC}{h0 pa sb g:Nat}{ls:List OneM}(w:World)(h:AwQ k h0 pa sb g 0 ls w) :
  Calls Tryz.prog 15 #[.pointer (some ⟨pa,0,none⟩)] w (RetK (.bool false) w)∧Calls Tryz.prog 20 #[.pointer (some ⟨pa,0,none⟩)] w (RetK (.tuple #[i6 0,sT ⟨#[]⟩,i6 1]) w):=by
 obtain⟨a,_,h1⟩:=aw_fin h
 have ed:k.dtE=⟨#[]⟩:=by simp[OpC.dtE,a.kd]
 rw[ed]at h1
 have hl:=pil_last _ pa w h1.1
 have e1:k.x0.ed+1=1:=by rw[a.ed]; rfl
 refine⟨pil_busy _ pa w h1.1,?_⟩
 rw[<-e1]
 exact hl
theorem aw_ans{k:OpC}{h0 pa sb g m:Nat}{o:OneM}{ls:List OneM}(w:World)(h:AwQ k h0 pa sb g m (o::ls) w) :
  Calls Tryz.prog 18 #[.pointer (some ⟨sb,0,none⟩),i6 0,.agg #[i6 200,i6 o.to,i6 o.id,.bool false,i6 o.q.kind,i6 o.q.stripe,i6 o.q.epoch,i6 o.q.seq,i6 o.q.mask,i6 o.q.node,i6 o.q.oe,i6 o.q.os,sT o.q.block,i6 0,i6 0,i6 0,.bool false,i6 0,i6 0,i6 0,sT ⟨#[]⟩,.bool false,i6 0,i6 0,i6 0,sT ⟨#[]⟩]] w (fun e w'=>∃sy:SayR,e=.returned (.tuple #[.agg #[i6 o.to,i6 200,i6 o.id,.bool true,i6 0,i6 0,i6 0,i6 0,i6 0,i6 0,i6 0,i6 0,sT ⟨#[]⟩,i6 sy.st,i6 sy.ep,i6 sy.ou,.bool sy.rc.used,i6 sy.rc.fence,i6 sy.rc.de,i6 sy.rc.ds,sT sy.rc.block,.bool sy.rc.op,i6 sy.rc.ie,i6 sy.rc.is,i6 sy.rc.mask,sT sy.rc.staged],.bool true])∧AwA k h0 pa sb g m o ls sy w'∧Kept (LawL h0 w) w w'):=by
 obtain⟨a,h⟩:=h
 have hq:=op_answer a.ok want_oth w h
 rw[a.lo,a.sb,a.now,a.frm]at hq
 exact hq.mono fun _ _ ⟨sy,h1,h2,h3⟩=>⟨sy,h1,⟨a,h2⟩,h3⟩
theorem aw_rec{k:OpC}{h0 pa sb g m:Nat}{o:OneM}{ls:List OneM}{sy:SayR}(w:World)(h:AwA k h0 pa sb g m o ls sy w) :
  Calls Tryz.prog 19 #[.pointer (some ⟨pa,0,none⟩),i6 0,.agg #[i6 o.to,i6 200,i6 o.id,.bool true,i6 0,i6 0,i6 0,i6 0,i6 0,i6 0,i6 0,i6 0,sT ⟨#[]⟩,i6 sy.st,i6 sy.ep,i6 sy.ou,.bool sy.rc.used,i6 sy.rc.fence,i6 sy.rc.de,i6 sy.rc.ds,sT sy.rc.block,.bool sy.rc.op,i6 sy.rc.ie,i6 sy.rc.is,i6 sy.rc.mask,sT sy.rc.staged]] w (fun e w'=>∃A ca nx,e=.returned (.slice A (List.length nx) ca)∧(AwQ k h0 pa sb g (m-1) (ls++nx) w'∧0<m)∧OwnR w' w.heap.size 65 26 A nx.length ca (lettersC 200 nx)∧Kept (LawL h0 w) w w'):=by
 obtain⟨a,p,a1,a2,a3,a0,a4,a5,a6,a7⟩:=h
 have hq:=op_rec a.ok.toOpOk2 a1 a3 a4 a5 a7 sy a0 200 a.frm.symm
 rw[a.pb,a.now]at hq
 refine hq.mono fun e w' hh=>?_
 obtain⟨A,ca,nx,p',b1,b2,b3,b4,b5,b6,b7,b8,es,b9,b10⟩:=hh
 rw[a.frm]at b7
 exact⟨A,ca,nx,b1,⟨⟨a,p',b2,by omega,b4,b5,b6,want_oth _ _ _ a6 b9 (pilT_oth a7 b10),Nat.le_trans a7 b9.size⟩,by omega⟩,b7,b8.and_ (b9.mono fun y _ hy=>by have h_:=pilT_lo a.ok.toOpOk a7 y hy; rw[a.lo]at h_; exact h_)⟩
def awM:Nat->Nat
 |0=>10|1=>9|2=>6|3=>4|4=>2|_=>0
theorem awM_fin:∀i,i<5->awM i-awLen (awM i)=awM (i+1)∧awM i≠0:=by decide
theorem AwQ0.stb{k:OpC}{h0 pa sb:Nat}:Stb (AwQ0 k h0 pa sb):=fun _ _ _ _ ⟨a,h⟩ hk hT he=>⟨a,SimAt.stb _ _ _ _ h.1 hk hT he,PilI.stb _ _ _ _ h.2.1 hk hT he,trivial,Nat.le_trans h.2.2.2 hk.size⟩
theorem AwQ1.stb{k:OpC}{h0 pa sb:Nat}:Stb1 (AwQ1 k h0 pa sb):=by
 intro w1 w2 T es h hk hT he
 obtain⟨a,h1,⟨lb,h2,v,h3,h4⟩,h5,h6⟩:=h
 have he2:es.all (fun e=>!(TL17.contains e))=true:=List.all_eq_true.2 fun e h5=>by
  have h6:=List.all_eq_true.1 he e h5
  simp at h6 ⊢
  exact h6.2
 have h65:es.contains 65=false:=by
  cases h6:es.contains 65 with
  |false=>rfl
  |true=>
   have h7:=List.all_eq_true.1 he 65 (by simpa using h6)
   simp at h7
 have H:=stb_not he2
 exact⟨a,SimAt.stb _ _ _ _ h1 hk hT he2,⟨lb,h2,v,h3.kept hk (fun hx=>tysIn_not (H _ rfl) (blk_ty h3) (hT _ hx)),h4.keptT hk hT (H _ rfl) (H _ rfl) h65⟩,trivial,Nat.le_trans h6 hk.size⟩
theorem AwQ.stb{k:OpC}{h0 pa sb g m:Nat}{ls:List OneM}:Stb (AwQ k h0 pa sb g m ls):=fun _ _ _ _ ⟨a,p,a1,a2,a3,a4,a5,a6,a7⟩ hk hT he=>⟨a,p,a1,a2,a3,p.sim_stb _ _ _ _ a4 hk hT he,p.pil_stb _ _ _ _ a5 hk hT he,WantB.stb _ _ _ _ a6 hk hT he,Nat.le_trans a7 hk.size⟩
theorem AwA.stb{k:OpC}{h0 pa sb g m:Nat}{o:OneM}{ls:List OneM}{sy:SayR}:Stb (AwA k h0 pa sb g m o ls sy):=fun _ _ _ _ ⟨a,p,a1,a2,a3,a0,a4,a5,a6,a7⟩ hk hT he=>⟨a,p,a1,a2,a3,a0,SimQ.stb _ _ _ _ a4 hk hT he,p.pil_stb _ _ _ _ a5 hk hT he,WantB.stb _ _ _ _ a6 hk hT he,Nat.le_trans a7 hk.size⟩
theorem AwQ1W.stb{k:OpC}{h0 pa sb g:Nat}:Stb1 (AwQ1W k h0 pa sb g):=by
 intro w1 w2 T es h hk hT he
 have he2:es.all (fun e=>!(TL17.contains e))=true:=List.all_eq_true.2 fun e h5=>by
  have h6:=List.all_eq_true.1 he e h5
  simp at h6 ⊢
  exact h6.2
 exact⟨AwQ1.stb _ _ _ _ h.1 hk hT he,WantB.stb _ _ _ _ h.2 hk hT he2⟩
theorem aw_a{lo:Nat}(w:World)(hl:lo<=w.heap.size):Calls Tryz.prog 8 #[.agg #[i6 3,i6 1],i6 0,i6 1] w (fun e w'=>∃pa,e=.returned (.pointer (some ⟨pa,0,none⟩))∧NewA lo 3 1 pa w'∧Kept (LawL lo w) w w'):=new_a (N:=3) (S:=1) (by decide) (by decide) w hl
end Go.Proofs.YtcmpkkapkdlfhaaGreat
