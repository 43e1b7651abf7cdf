import Derived.Test.YtcmpkkapkdlfhaaGreatNought17
import Derived.Test.YtcmpkkapkdlfhaaGreatPil23
namespace Go.Proofs.YtcmpkkapkdlfhaaGreat
open Go.RowKit
theorem pil_idle{W:World}{N S frm last:Int}{pa ca:Nat}(h1:Blk W pa 98 (PilC.cells { (pil0 N S ca)with ak:=.slice none 0 0 }))(h2:Blk W ca 124 [i6 frm,i6 last,.slice none 0 0])(hl:0<=last):PilI W pa (pil0 N S ca) ⟨frm,last,[]⟩:=
 ⟨h1,fun _=>⟨⟨Nat.zero_le _,hl,fun _ h=>(by cases h),fun _ h=>(by cases h)⟩,none,0,h2,OwnR.nil _ _ _ _⟩⟩
def NewA(lo N S pa:Nat)(W:World):Prop:=∃ca,PilI W pa (pil0 (N:Int) (S:Int) ca) ⟨200,1048576,[]⟩∧(pa<W.heap.size∧ca<W.heap.size)∧lo<=pa∧lo<=ca
def NewB(lo N S pa pb:Nat)(W:World):Prop:=∃ca cb,PilI W pa (pil0 (N:Int) (S:Int) ca) ⟨200,1048576,[]⟩∧PilI W pb (pil0 (N:Int) (S:Int) cb) ⟨201,1048576,[]⟩∧PilPok lo ⟨pa,ca,200⟩ ⟨pb,cb,201⟩ W.heap.size
def TwoE(lo N S sb pa pb:Nat)(nn T:Int)(M:Nat->Nat->ByteArray)(W:World):Prop:=∃b ca cb,TwoP lo N S b sb ⟨pa,ca,200⟩ ⟨pb,cb,201⟩ nn T M W
theorem NewA.stb{lo N S pa:Nat}:Stb (NewA lo N S pa):=fun _ _ _ _ ⟨ca,h1,h2,h3⟩ hk hT he=>⟨ca,PilI.stb _ _ _ _ h1 hk hT he,⟨Nat.lt_of_lt_of_le h2.1 hk.size,Nat.lt_of_lt_of_le h2.2 hk.size⟩,h3⟩
theorem NewB.stb{lo N S pa pb:Nat}:Stb (NewB lo N S pa pb):=fun _ _ _ _ ⟨ca,cb,h1,h2,h3⟩ hk hT he=>⟨ca,cb,PilI.stb _ _ _ _ h1 hk hT he,PilI.stb _ _ _ _ h2 hk hT he,⟨h3.hl,by have:=h3.hp; have:=hk.size; omega,h3.hd,h3.hf⟩⟩
theorem TwoE.stb{lo N S sb pa pb:Nat}{nn T:Int}{M:Nat->Nat->ByteArray}:Stb (TwoE lo N S sb pa pb nn T M):=fun _ _ _ _ ⟨b,ca,cb,h⟩ hk hT he=>⟨b,ca,cb,TwoP.stb _ _ _ _ h hk hT he⟩
theorem PilI.kept0{w w':World}{pb:Nat}{x:PilC}{c:CM}(h:PilI w pb x c)(hk:Kept (fun _=>False) w w'):PilI w' pb x c:=PilI.stb _ _ _ [] h hk (fun _ h=>h.elim) rfl
theorem new_a{lo N S:Nat}(hN:3<=N∧N<=6)(hS:1<=S∧S<=8)(w:World)(hl:lo<=w.heap.size) :
  Calls Tryz.prog 8 #[.agg #[i6 (N:Int),i6 (S:Int)],i6 0,i6 1] w (fun e w'=>∃pa,e=.returned (.pointer (some ⟨pa,0,none⟩))∧NewA lo N S pa w'∧Kept (LawL lo w) w w'):=
 (pil_new (N:Int) (S:Int) 0 1 (by omega) (by omega) (by omega) w).mono fun _ _ ⟨p,q,h1,h2,h3,h4,h5,h6⟩=>⟨p,h1,⟨q,pil_idle h4 h5 (by decide),⟨h4.lt,h5.lt⟩,Nat.le_trans hl h2,Nat.le_trans hl h3⟩,h6.mono fun _ _ h=>h.elim⟩
theorem new_b{lo N S pa:Nat}(hN:3<=N∧N<=6)(hS:1<=S∧S<=8)(w:World)(h:NewA lo N S pa w) :
  Calls Tryz.prog 8 #[.agg #[i6 (N:Int),i6 (S:Int)],i6 1,i6 1] w (fun e w'=>∃pb,e=.returned (.pointer (some ⟨pb,0,none⟩))∧NewB lo N S pa pb w'∧Kept (LawL lo w) w w'):=by
 obtain⟨ca,a1,a2,a3⟩:=h
 refine(pil_new (N:Int) (S:Int) 1 1 (by omega) (by omega) (by omega) w).mono fun _ w' ⟨p,q,h1,h2,h3,h4,h5,h6⟩=>?_
 have hz:=h6.size
 have l4:=h4.lt
 have l5:=h5.lt
 exact⟨p,h1,⟨ca,q,a1.kept0 h6,pil_idle h4 h5 (by decide),⟨⟨a3.1,a3.2,by show lo<=p; omega,by show lo<=q; omega⟩,⟨Nat.lt_of_lt_of_le a2.1 hz,Nat.lt_of_lt_of_le a2.2 hz,l4,l5⟩,⟨by show p≠pa; omega,by show p≠ca; omega,by show q≠pa; omega,by show q≠ca; omega⟩,⟨⟨(by decide:(200:Int)<=200),(by decide:(200:Int)<202)⟩,⟨(by decide:(200:Int)<=201),(by decide:(201:Int)<202)⟩,(by decide:(200:Int)≠201)⟩⟩⟩,h6.mono fun _ _ h=>h.elim⟩
theorem goodP_new{N S ca:Nat}{frm:Int}(hf:200<=frm∧frm<202):GoodP N S ca frm 0 (-30) [0,0] (pil0 (N:Int) (S:Int) ca) ⟨frm,1048576,[]⟩:=by
 refine⟨rfl,rfl,rfl,rfl,⟨Int.le_refl 0,Int.le_refl 0⟩,fun i=>⟨⟨Int.le_refl 0,(by decide:(0:Int)<=1000000)⟩,fun h=>by cases h⟩,rfl,⟨(by decide:(0:Int)<=1048576),(by decide:(1048576:Int)<=2000000+20*0)⟩,0,?_,(by decide:(0:Int)<=1048576)⟩
 have h:Int.toNat (frm-200)<2:=by omega
 match Int.toNat (frm-200),h with
 |0,_=>rfl
 |1,_=>rfl
theorem new_s{lo N S pa pb:Nat}(hN:3<=N∧N<=6)(hS:1<=S∧S<=8)(w:World)(h:NewB lo N S pa pb w) :
  Calls Tryz.prog 9 #[.agg #[i6 (N:Int),i6 (S:Int)]] w (fun e w'=>∃sb,e=.returned (.pointer (some ⟨sb,0,none⟩))∧TwoE lo N S sb pa pb 0 (-30) (fun _ _=>zer16) w'∧Kept (LawL lo w) w w'):=by
 obtain⟨ca,cb,a1,a2,a3⟩:=h
 refine(new_sim N S hN hS w).mono fun _ w' ⟨s,h1,h2,⟨h3,h3l⟩,h4⟩=>?_
 have hlw:lo<=w.heap.size:=by have:=a3.hl; have:=a3.hp; dsimp only at *; omega
 refine⟨s.sb,h1,⟨w'.heap.size,ca,cb,s,_,_,_,_,h2,⟨rfl,Nat.le_trans hlw h3l.1,Nat.le_trans hlw h3l.2.1,Nat.le_trans hlw h3l.2.2.1,fun n hn=>Nat.le_trans hlw (h3l.2.2.2 n hn)⟩,⟨h3.sN,h3.sS,by rw[h3.ids]; rfl,by rw[h3.says]; rfl,fun i _=>⟨0,0,0,by rw[h3.lea],by omega,by omega⟩,fun i _ m _=>⟨0,0,0,zer16,by rw[h3.recs]; rfl,?_,?_,by omega,rfl⟩⟩,a1.kept0 h4,by rw[h3.ids]; exact goodP_new (by dsimp only; omega),a2.kept0 h4,by rw[h3.ids]; exact goodP_new (by dsimp only; omega),fun i _ m _=>by rw[h3.recs]; rfl,Nat.le_refl _,⟨a3.hl,by have:=a3.hp; have:=h4.size; dsimp only at *; omega,a3.hd,a3.hf⟩⟩,h4.mono fun _ _ h=>h.elim⟩
 ·rw[h3.lea]; exact⟨Int.le_refl 0,Int.le_refl 0⟩
 ·rw[h3.lea]; exact⟨Int.le_refl 0,Int.le_refl 0⟩
theorem plays_a{lo N S sn cn sb pa pb:Nat}{kd at_:Int}{da:ByteArray}{nn T now:Int}{M:Nat->Nat->ByteArray}(hO:GoodOp N S sn cn kd at_ da 200 nn T now)(w:World)(h:TwoE lo N S sb pa pb nn T M w) :
  Calls Tryz.prog 23 #[.pointer (some ⟨sb,0,none⟩),.pointer (some ⟨pa,0,none⟩),i6 now,.agg #[i6 kd,i6 at_,sT da]] w (fun e w'=>e=.returned (.tuple #[i6 0,sT (if kd=1 then M ((cn+sn)%N) sn else⟨#[]⟩),.bool true])∧TwoE lo N S sb pa pb (nn+1) now (opM N sn cn kd da M) w'∧Kept (LawL lo w) w w'):=by
 obtain⟨b,ca,cb,h⟩:=h
 exact(two_plays (p:=⟨pa,ca,200⟩) hO w h).mono fun _ _ ⟨h1,h2,h3⟩=>⟨h1,⟨b,ca,cb,h2⟩,h3⟩
theorem plays_b{lo N S sn cn sb pa pb:Nat}{kd at_:Int}{da:ByteArray}{nn T now:Int}{M:Nat->Nat->ByteArray}(hO:GoodOp N S sn cn kd at_ da 201 nn T now)(w:World)(h:TwoE lo N S sb pa pb nn T M w) :
  Calls Tryz.prog 23 #[.pointer (some ⟨sb,0,none⟩),.pointer (some ⟨pb,0,none⟩),i6 now,.agg #[i6 kd,i6 at_,sT da]] w (fun e w'=>e=.returned (.tuple #[i6 0,sT (if kd=1 then M ((cn+sn)%N) sn else⟨#[]⟩),.bool true])∧TwoE lo N S sb pa pb (nn+1) now (opM N sn cn kd da M) w'∧Kept (LawL lo w) w w'):=by
 obtain⟨b,ca,cb,h⟩:=h
 exact(two_plays (p:=⟨pb,cb,201⟩) hO w h.swap).mono fun _ _ ⟨h1,h2,h3⟩=>⟨h1,⟨b,ca,cb,h2.swap⟩,h3⟩
theorem goodOp_of{N S:Nat}{kd q:Int}{da:ByteArray}{frm nn T now:Int}(hN:3<=N∧N<=6)(hS:1<=S∧S<=8)(hq:0<=q∧q<(S:Int)*((N:Int)-1))(hkd:(kd=1∧da=⟨#[]⟩)∨(kd=2∧da.size=16))(hfrm:200<=frm∧frm<202)(hT:-100<=T∧T+30<=now∧0<=now∧now<=1000000)(hnn:0<=nn∧nn<=100):GoodOp N S (Int.toNat (q/((N:Int)-1))) (Int.toNat (q%((N:Int)-1))) kd q da frm nn T now:=by
 have h1:0<=q/((N:Int)-1)∧q/((N:Int)-1)<(S:Int):=⟨Int.ediv_nonneg (by omega) (by omega),Int.ediv_lt_of_lt_mul (by omega) hq.2⟩
 have h2:0<=q%((N:Int)-1)∧q%((N:Int)-1)<(N:Int)-1:=⟨Int.emod_nonneg _ (by omega),Int.emod_lt_of_pos _ (by omega)⟩
 exact⟨hN,hS,by omega,by omega,hfrm,hT,hnn,.inr ⟨hkd,hq,by omega,by omega⟩⟩
def byN(j:Nat)(s:ByteArray):Nat:=((intsOf s)[j]?.getD 0).toNat
theorem byN_xorS{a b:ByteArray}(ha:a.size=16)(hb:b.size=16){j:Nat}(hj:j<16):byN j (xorS a b)=byN j a^^^byN j b:=by
 have la:(intsOf a).length=16:=by rw[length_intsOf,ha]
 have lb:(intsOf b).length=16:=by rw[length_intsOf,hb]
 unfold byN xorS
 rw[intsOf_bytesI (byts_xorI (byts_intsOf a) (byts_intsOf b)),xorI,List.getElem?_zipWith,List.getElem?_eq_getElem (show j<(intsOf a).length by omega),List.getElem?_eq_getElem (show j<(intsOf b).length by omega)]
 simp[xorZ]
theorem byN_ext{a b:ByteArray}(ha:a.size=16)(hb:b.size=16)(h:∀j,j<16->byN j a=byN j b):a=b:=by
 rw[<-bytesI_intsOf a,<-bytesI_intsOf b]
 refine congrArg _ (List.ext_getElem? fun j=>?_)
 have la:(intsOf a).length=16:=by rw[length_intsOf,ha]
 have lb:(intsOf b).length=16:=by rw[length_intsOf,hb]
 by_cases hj:j<16
 ·have h1:=h j hj
  unfold byN at h1
  have e1:=List.getElem?_eq_getElem (show j<(intsOf a).length by omega)
  have e2:=List.getElem?_eq_getElem (show j<(intsOf b).length by omega)
  have p1:=byts_intsOf a _ (List.mem_of_getElem? e1)
  have p2:=byts_intsOf b _ (List.mem_of_getElem? e2)
  rw[e1,e2]at h1
  rw[e1,e2]
  simp only[Option.getD_some]at h1
  exact congrArg some (by omega)
 ·rw[List.getElem?_eq_none (by omega),List.getElem?_eq_none (by omega)]
def xsN(f:Nat->Nat):Nat->Nat
 |0=>0
 |n+1=>xsN f n^^^f n
theorem xsN_upd{f g:Nat->Nat}{m:Nat}(h:∀i,i≠m->g i=f i):∀n,xsN g n=if m<n then xsN f n^^^(f m^^^g m)else xsN f n
 |0=>rfl
 |n+1=>by
  show xsN g n^^^g n=_
  rw[xsN_upd h n]
  by_cases h1:m<n
  ·rw[if_pos h1,if_pos (by omega),h n (by omega)]
   show _=(xsN f n^^^f n)^^^_
   ac_rfl
  ·rw[if_neg h1]
   by_cases h2:m=n
   ·subst h2
    rw[if_pos (by omega)]
    show _=(xsN f m^^^f m)^^^(f m^^^g m)
    rw[<-Nat.xor_assoc,Nat.xor_assoc (xsN f m),Nat.xor_self,Nat.xor_zero]
   ·rw[if_neg (by omega),h n (by omega)]
    rfl
theorem allB_app{L:List ByteArray}{t:ByteArray}(h:1<=L.length):allB (L++[t])=xorS (allB L) t:=by
 cases L with
 |nil=>simp at h
 |cons x R=>show(R++[t]).foldl xorS x=_; rw[List.foldl_append]; rfl
theorem byN_all{F:Nat->ByteArray}{j:Nat}(hj:j<16):∀n,(∀m,m<n+1->(F m).size=16)->byN j (allB ((List.range (n+1)).map F))=xsN (fun m=>byN j (F m)) (n+1)
 |0,_=>by
  show byN j (F 0)=0^^^byN j (F 0)
  rw[Nat.zero_xor]
 |n+1,h=>by
  rw[List.range_succ,List.map_append,List.map_cons,List.map_nil,allB_app (by simp),byN_xorS (allB_size (by
   intro x hx
   obtain⟨m,hm,rfl⟩:=List.mem_map.1 hx
   exact h m (by have:=List.mem_range.1 hm; omega)) (by simp)) (h _ (by omega)) hj,byN_all hj n fun m hm=>h m (by omega)]
  rfl
theorem byN_zer{j:Nat}(hj:j<16):byN j zer16=0:=by
 unfold byN zer16
 rw[intsOf_bytesI (by intro n hn; rw[List.eq_of_mem_replicate hn]; omega),List.getElem?_replicate,if_pos hj]
 rfl
theorem all_zer{F:Nat->ByteArray}{N:Nat}(hN:1<=N)(h:∀m,m<N->(F m).size=16):allB ((List.range N).map F)=zer16↔∀j,j<16->xsN (fun m=>byN j (F m)) N=0:=by
 obtain⟨n,rfl⟩:∃n,N=n+1:=⟨N-1,by omega⟩
 constructor
 ·intro e j hj
  rw[<-byN_all hj n h,e,byN_zer hj]
 ·intro e
  refine byN_ext (allB_size (by
   intro x hx
   obtain⟨m,hm,rfl⟩:=List.mem_map.1 hx
   exact h m (by have:=List.mem_range.1 hm; omega)) (by simp)) (by decide) fun j hj=>?_
  rw[byN_all hj n h,e j hj,byN_zer hj]
theorem par_xorS{a b c:ByteArray}:bytesI (xorI (xorI (intsOf a) (intsOf b)) (intsOf c))=xorS (xorS a b) c:=by
 unfold xorS
 rw[intsOf_bytesI (byts_xorI (byts_intsOf a) (byts_intsOf b))]
theorem mod_inj{N a b s:Nat}(ha:a<N)(hb:b<N)(h:(a+s)%N=(b+s)%N):a=b:=by
 have h1:=Nat.div_add_mod (a+s) N
 have h2:=Nat.div_add_mod (b+s) N
 rcases Nat.lt_trichotomy ((a+s)/N) ((b+s)/N)with h3|h3|h3
 ·have:=Nat.mul_le_mul_left N (show(a+s)/N+1<=(b+s)/N by omega)
  rw[Nat.mul_add,Nat.mul_one]at this
  omega
 ·rw[h3]at h1
  omega
 ·have:=Nat.mul_le_mul_left N (show(b+s)/N+1<=(a+s)/N by omega)
  rw[Nat.mul_add,Nat.mul_one]at this
  omega
def atM(N:Nat)(M:Nat->Nat->ByteArray)(q:Nat):ByteArray:=M ((q%(N-1)+q/(N-1))%N) (q/(N-1))
structure Mdl(N S:Nat)(L:List ByteArray)(M:Nat->Nat->ByteArray):Prop where
 len:L.length=S*(N-1)
 at_:∀q,q<S*(N-1)->L[q]?=some (atM N M q)
 sz:∀i,i<S->∀m,m<N->(M m i).size=16
 zer:∀i,i<S->allB ((List.range N).map fun m=>M m i)=zer16
theorem mdl_new{N S:Nat}(hN:3<=N∧N<=6):Mdl N S (List.replicate (S*(N-1)) zer16) (fun _ _=>zer16):=by
 refine⟨List.length_replicate,fun q hq=>by rw[List.getElem?_replicate,if_pos hq]; rfl,fun _ _ _ _=>by decide,fun i _=>(all_zer (by omega) fun _ _=>by decide).2 fun j hj=>?_⟩
 simp only[byN_zer hj]
 generalize N=n
 induction n with
 |zero=>rfl
 |succ n ih=>show xsN _ n^^^0=0; rw[ih]; rfl
theorem xor_two{t a b d:Nat}:(t^^^(a^^^d))^^^(b^^^((b^^^a)^^^d))=t:=by
 have e:(t^^^(a^^^d))^^^(b^^^((b^^^a)^^^d))=t^^^((a^^^a)^^^((d^^^d)^^^(b^^^b))):=by ac_rfl
 rw[e]
 simp
theorem mdl_write{N S q:Nat}{L:List ByteArray}{M:Nat->Nat->ByteArray}{da:ByteArray}(hN:3<=N∧N<=6)(hq:q<S*(N-1))(hda:da.size=16)(h:Mdl N S L M):Mdl N S (L.set q da) (opM N (q/(N-1)) (q%(N-1)) 2 da M):=by
 have hc:q%(N-1)<N-1:=Nat.mod_lt _ (by omega)
 have hs:q/(N-1)<S:=(Nat.div_lt_iff_lt_mul (by omega)).2 hq
 have hdm:=Nat.div_add_mod q (N-1)
 obtain⟨sn,hsn⟩:∃sn,q/(N-1)=sn:=⟨_,rfl⟩
 obtain⟨cn,hcn⟩:∃cn,q%(N-1)=cn:=⟨_,rfl⟩
 rw[hsn]at hs hdm
 rw[hcn]at hc hdm
 rw[hsn,hcn]
 have h12:(cn+sn)%N≠(N-1+sn)%N:=fun e=>by have:=mod_inj (show cn<N by omega) (show N-1<N by omega) e; omega
 have hm1:(cn+sn)%N<N:=Nat.mod_lt _ (by omega)
 have hm2:(N-1+sn)%N<N:=Nat.mod_lt _ (by omega)
 have hp:(xorS (xorS (M ((N-1+sn)%N) sn) (M ((cn+sn)%N) sn)) da).size=16:=xorS_size (xorS_size (h.sz _ hs _ hm2) (h.sz _ hs _ hm1)) hda
 have hsz:∀i,i<S->∀m,m<N->(opM N sn cn 2 da M m i).size=16:=fun i hi m hm=>by
  unfold opM
  rw[par_xorS]
  split
  ·split
   ·exact hda
   ·split
    ·exact hp
    ·exact h.sz i hi m hm
  ·exact h.sz i hi m hm
 refine⟨by rw[List.length_set]; exact h.len,fun q' hq'=>?_,hsz,fun i hi=>?_⟩
 ·have hc':q'%(N-1)<N-1:=Nat.mod_lt _ (by omega)
  have hdm':=Nat.div_add_mod q' (N-1)
  by_cases e:q'=q
  ·subst e
   rw[List.getElem?_set_self (by rw[h.len]; exact hq)]
   unfold atM opM
   rw[hsn,hcn,if_pos ⟨rfl,rfl⟩,if_pos rfl]
  ·rw[List.getElem?_set_ne (Ne.symm e),h.at_ q' hq']
   refine congrArg some ?_
   unfold atM opM
   by_cases e1:q'/(N-1)=sn
   ·rw[e1]at hdm'
    rw[e1,if_pos ⟨rfl,rfl⟩,if_neg,if_neg]
    ·intro e2
     have:=mod_inj (show q'%(N-1)<N by omega) (show N-1<N by omega) e2
     omega
    ·intro e2
     have:=mod_inj (show q'%(N-1)<N by omega) (show cn<N by omega) e2
     exact e (by rw[<-hdm,<-hdm',this])
   ·rw[if_neg (fun hh=>e1 hh.1)]
 ·by_cases e:i=sn
  ·subst e
   have h0:=(all_zer (by omega) (h.sz i hi)).1 (h.zer i hi)
   refine(all_zer (by omega) (hsz i hi)).2 fun j hj=>?_
   have u1:=xsN_upd (f:=fun m=>byN j (M m i)) (g:=fun m=>byN j (if m=(cn+i)%N then da else M m i)) (m:=(cn+i)%N) (fun k hk=>by simp only[if_neg hk]) N
   have u2:=xsN_upd (f:=fun m=>byN j (if m=(cn+i)%N then da else M m i)) (g:=fun m=>byN j (opM N i cn 2 da M m i)) (m:=(N-1+i)%N) (fun k hk=>by unfold opM; simp only[if_neg hk,and_self,if_true]) N
   rw[if_pos hm1,h0 j hj]at u1
   rw[if_pos hm2,u1]at u2
   rw[u2]
   simp only[if_true,if_neg (Ne.symm h12)]
   rw[show byN j (opM N i cn 2 da M ((N-1+i)%N) i)=(byN j (M ((N-1+i)%N) i)^^^byN j (M ((cn+i)%N) i))^^^byN j da by
    unfold opM
    rw[if_pos ⟨rfl,rfl⟩,if_neg (Ne.symm h12),if_pos rfl,par_xorS,byN_xorS (xorS_size (h.sz _ hi _ hm2) (h.sz _ hi _ hm1)) hda hj,byN_xorS (h.sz _ hi _ hm2) (h.sz _ hi _ hm1) hj]]
   exact xor_two
  ·have e1:(fun m=>opM N sn cn 2 da M m i)=fun m=>M m i:=by
    funext m
    unfold opM
    rw[if_neg (fun hh=>e hh.1)]
   rw[e1]
   exact h.zer i hi
end Go.Proofs.YtcmpkkapkdlfhaaGreat
