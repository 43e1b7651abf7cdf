import Derived.Test.YtcmpkkapkdlfhaaGreatEngM
namespace Go.Proofs.YtcmpkkapkdlfhaaGreat
open Go.RowKit
def KnowsY{Y:Type}(ops:Array Oper)(val:Y->Nat->Option Value)(y:Y)(l:List Nat)(a:Act):Prop:=∀k∈l,∀d,dstOf ops k=some d->∃v,val y k=some v∧a.tmps[d]?=some v
structure MixY{Y:Type}(D:List Deferred)(n:Nat)(ops:Array Oper)(sl0:List (Nat×Value))(stg:List (Option Nat))(J:Nat)(st:Y->Nat)(val:Y->Nat->Option Value)(M:Y->World->Prop)(ls:Array Bool)(y:Y)(a:Act)(w:World):Prop where
 fsize:a.tmps.size=n
 fdf:a.defers=D
 base:∀q v,getS sl0 q=some v->(∀k,ls.getD k false=true->dstOf ops k≠some q)->a.tmps[q]?=some v
 closed:∀k,ls.getD k false=true->∀i∈needsOf ops k,ls.getD i false=true
 size:ls.size=ops.size
 vals:∀i d,ls.getD i false=true->dstOf ops i=some d->∃v,val y i=some v∧a.tmps[d]?=some v
 stage:∀i s,stgOf stg i=some s->(ls.getD i false=true↔s<st y)
 le:st y<=J
 mem:M y w
def aftL(ops:Array Oper)(i:Nat)(l:List Nat):Bool:=l.all fun k=>(needsOf ops k).any fun j=>Nat.beq j i||(Nat.blt j k&&l.any (Nat.beq j))
theorem aft_not{ops:Array Oper}{i:Nat}{l:List Nat}{p:Nat->Prop}(hl:aftL ops i l=true)(hc:∀k,p k->∀j∈needsOf ops k,p j)(hi:¬p i):∀n k,k<n->p k->k ∉ l
 |0,k,hk,_=>absurd hk (Nat.not_lt_zero _)
 |n+1,k,hk,hp=>fun hm=>by
  have h1:=List.all_eq_true.1 hl k hm
  obtain⟨j,hj,h2⟩:=List.any_eq_true.1 h1
  rcases Bool.or_eq_true _ _ |>.mp h2 with h3|h3
  ·exact hi (Nat.eq_of_beq_eq_true h3▸hc k hp j hj)
  ·obtain⟨h4,h5⟩:=Bool.and_eq_true _ _ |>.mp h3
   obtain⟨x,hx,hxe⟩:=List.any_eq_true.1 h5
   have hjx:=Nat.eq_of_beq_eq_true hxe
   exact aft_not hl hc hi n j (by rw[Nat.blt_eq]at h4; omega) (hc k hp j hj) (hjx▸hx)
def CertY{Y:Type}(WP:Nat->(Act->World->Prop)->Act->World->Prop)(D:List Deferred)(n:Nat)(ops:Array Oper)(sl0:List (Nat×Value))(stg:List (Option Nat))(J:Nat)(st:Y->Nat)(val:Y->Nat->Option Value)(M:Y->World->Prop)(i:Nat):Prop:=
 ∀(y:Y)(a:Act)(w:World)(K:Act->World->Prop),st y<=J->(∀s,stgOf stg i=some s->st y=s∧s<J)->(∀k s,stgOf stg k=some s->i∈needsOf ops k->st y<=s)->FrOk D n sl0 a->KnowsY ops val y (needsOf ops i) a->M y w ->
  (∀y' v w',st y'=nextG stg i (st y)->val y' i=some v->(∀k,k≠i->(∀l,aftL ops i l=true->k ∉ l)->(∀s,stgOf stg k=some s->s<st y)->val y' k=val y k)->M y' w'->K (a.put (dstOf ops i) v) w')->WP i K a w
theorem mix_stepY{Y:Type}{WP:Nat->(Act->World->Prop)->Act->World->Prop}{D:List Deferred}{n:Nat}{ops:Array Oper}{sl0:List (Nat×Value)}{stg:List (Option Nat)}{J:Nat}{st:Y->Nat}{val:Y->Nat->Option Value}{M:Y->World->Prop}
  (hc:mixChk n ops [] ops.size J stg=true) {i:Nat} (hcert:CertY WP D n ops (slI ops sl0 i) stg J st val M i)
  {ls:Array Bool} {y:Y} {a:Act} {w:World} {K:Act->World->Prop} (hI:MixY D n ops sl0 stg J st val M ls y a w) (hi:i∈Region.ready .any ops ls) (hK:∀y' a' w',MixY D n ops sl0 stg J st val M (ls.setIfInBounds i true) y' a' w'->K a' w'):WP i K a w:=by
 simp only[mixChk,Bool.and_eq_true]at hc
 obtain⟨⟨⟨⟨⟨⟨c1,c2⟩,_⟩,c7⟩,c4⟩,c5⟩,c6⟩:=hc
 rw[List.all_eq_true]at c2 c4 c5
 obtain⟨h0,hi',hneed⟩:=(ready_iff ls i).1 hi
 obtain⟨_,hls⟩:=getD_of_false h0
 have hoi:ops[i]?=some ops[i]:=Array.getElem?_eq_getElem hi'
 have hmemd:∀d,dstOf ops i=some d->d<n:=fun d hd=>by
  have hd':ops[i].dst=some d:=by simpa[dstOf,hoi]using hd
  have hmem:d∈ops.toList.filterMap (·.dst):=List.mem_filterMap.2 ⟨ops[i],by simp,hd'⟩
  have h3:=c2 d hmem
  simp only[Bool.and_eq_true]at h3
  simpa[Nat.blt_eq]using h3.1
 have hfr:FrOk D n (slI ops sl0 i) a:=by
  refine⟨hI.fsize,hI.fdf,fun q v hq=>?_⟩
  obtain⟨h1,h2⟩:=getS_filter (fun _ _ _=>rfl) sl0 hq
  refine hI.base q v h1 (fun k hkl hd=>?_)
  have hk:k<ops.size:=by
   unfold dstOf at hd
   rcases Nat.lt_or_ge k ops.size with h'|h'
   ·exact h'
   ·rw[Array.getElem?_eq_none h']at hd
    cases hd
  have h3:=List.all_eq_true.1 h2 k (List.mem_range.2 hk)
  rw[hd]at h3
  simp only[eqO,Nat.beq_refl,Bool.not_true,Bool.false_or,List.any_eq_true]at h3
  obtain⟨x,hx,hx2⟩:=h3
  have hxi:=Nat.eq_of_beq_eq_true hx2
  subst hxi
  have h4:=hI.closed k hkl i hx
  simp only[Array.getD,hI.size,hi',dif_pos]at h4
  have h5:=(Array.getElem?_eq_some_iff.1 hls).2
  exact absurd (h5.symm.trans h4) (by decide)
 have hunl:¬ls.getD i false=true:=by
  simp only[Array.getD,hI.size,hi',dif_pos]
  have:=(Array.getElem?_eq_some_iff.1 hls).2
  simpa using this
 have hstage:∀s,stgOf stg i=some s->st y=s∧s<J:=by
  intro s hs
  have h5:=c5 i (List.mem_range.2 hi')
  rw[hs]at h5
  simp only[Bool.and_eq_true,Bool.or_eq_true,List.any_eq_true,List.all_eq_true]at h5
  obtain⟨⟨h51,h52⟩,_⟩:=h5
  have hsJ:s<J:=by simpa[Nat.blt_eq]using h51
  have hge:¬s<st y:=by
   rw[<-hI.stage i s hs]
   exact hunl
  have hle:s<=st y:=by
   rcases h52 with h52|⟨k,hk,hk2⟩
   ·have:=Nat.eq_of_beq_eq_true h52
    omega
   ·unfold eqO at hk2
    split at hk2
    ·rename_i t ht
     have e:=Nat.eq_of_beq_eq_true hk2
     subst e
     have:=(hI.stage k _ ht).1 (hneed k hk)
     omega
    ·cases hk2
  exact⟨by omega,hsJ⟩
 have hcap:∀k s,stgOf stg k=some s->i∈needsOf ops k->st y<=s:=fun k s hks hik=>by
  rcases Nat.lt_or_ge s (st y)with h1|h1
  ·exact absurd (hI.closed k ((hI.stage k s hks).2 h1) i hik) hunl
  ·exact h1
 refine hcert y a w _ hI.le hstage hcap hfr (fun k hk d hd=>hI.vals k d (hneed k hk) hd) hI.mem (fun y' v w' hsy hv hkeep hm=>hK y' _ w' ?_)
 have hold:∀k,k≠i->(ls.setIfInBounds i true).getD k false=true->ls.getD k false=true:=fun k hk h=>by rwa [getD_set_ne false (Ne.symm hk)]at h
 have hnew:∀k,ls.getD k false=true->(ls.setIfInBounds i true).getD k false=true:=fun k h=>getD_set_true h
 have hself:(ls.setIfInBounds i true).getD i false=true:=by simp[Array.getD,hI.size,hi']
 refine⟨?_,?_,fun q u hq hno=>?_,fun k hkl x hx=>?_,by simp[hI.size],fun k d hkl hd=>?_,fun k s hks=>?_,?_,hm⟩
 ·cases dstOf ops i<;>simp[Act.put,hI.fsize]
 ·cases dstOf ops i<;>simp[Act.put,hI.fdf]
 ·have h1:=hI.base q u hq (fun k hk=>hno k (hnew k hk))
  have h2:=hno i hself
  cases hdi:dstOf ops i with
  |none=>exact h1
  |some e=>
   have hne:e≠q:=by
    rintro rfl
    exact h2 hdi
   simp only[Act.put]
   rw[Array.getElem?_setIfInBounds_ne hne]
   exact h1
 ·by_cases hki:k=i
  ·subst hki
   exact hnew x (hneed x hx)
  ·exact hnew x (hI.closed k (hold k hki hkl) x hx)
 ·by_cases hik:k=i
  ·subst hik
   refine⟨v,hv,?_⟩
   rw[hd]
   have hs:=hI.fsize
   have hlt:=hmemd d hd
   simp[Act.put,hs,hlt]
  ·have hk':ls.getD k false=true:=by rwa [getD_set_ne false (Ne.symm hik)]at hkl
   obtain⟨u,hu1,hu2⟩:=hI.vals k d hk' hd
   refine⟨u,(hkeep k hik (fun l hl=>aft_not (p:=fun k=>ls.getD k false=true) hl hI.closed hunl (k+1) k (Nat.lt_succ_self k) hk') (fun s hs=>(hI.stage k s hs).1 hk')).trans hu1,?_⟩
   cases hdi:dstOf ops i with
   |none=>exact hu2
   |some e=>
    have hne:e≠d:=by
     rintro rfl
     have hkl2:k<ops.size:=by
      unfold dstOf at hd
      rcases Nat.lt_or_ge k ops.size with h'|h'
      ·exact h'
      ·rw[Array.getElem?_eq_none h']at hd
       cases hd
     have h5:ops[k].dst=some e:=by simpa[dstOf,Array.getElem?_eq_getElem hkl2]using hd
     have h6:ops[i].dst=some e:=by simpa[dstOf,hoi]using hdi
     exact hik (filterMap_dst c1 (by simp[Array.getElem?_eq_getElem hkl2]) (by simp[hoi]) h5 h6)
    simp only[Act.put]
    rw[Array.getElem?_setIfInBounds_ne hne]
    exact hu2
 ·rw[hsy]
  unfold nextG
  by_cases hik:i=k
  ·subst hik
   rw[hks]
   have:=hstage s hks
   simp only[Array.getD,Array.size_setIfInBounds,hI.size,hi',dif_pos]
   simp
   omega
  ·rw[getD_set_ne false hik,hI.stage k s hks]
   cases hsi:stgOf stg i with
   |none=>exact Iff.rfl
   |some t=>
    have h6:=hstage t hsi
    have hne:s≠t:=by
     rintro rfl
     have h5:=c5 i (List.mem_range.2 hi')
     rw[hsi]at h5
     simp only[Bool.and_eq_true,List.all_eq_true]at h5
     have hkl:k<ops.size:=by
      have hl:=Nat.eq_of_beq_eq_true c7
      rcases Nat.lt_or_ge k ops.size with h'|h'
      ·exact h'
      ·unfold stgOf at hks
       rw[List.getElem?_eq_none (by omega)]at hks
       cases hks
     have:=h5.2 k (List.mem_range.2 hkl)
     simp only[eqO,hks,Nat.beq_refl,Bool.not_true]at this
     exact hik (Nat.eq_of_beq_eq_true (by simpa using this)).symm
    show s<st y↔s<st y+1
    omega
 ·rw[hsy]
  unfold nextG
  cases hsi:stgOf stg i with
  |none=>exact hI.le
  |some t=>
   have:=hstage t hsi
   show st y+1<=J
   omega
theorem anyMixY{Y:Type}{WP:Nat->(Act->World->Prop)->Act->World->Prop}{D:List Deferred}{n:Nat}{ops:Array Oper}{sl0:List (Nat×Value)}{stg:List (Option Nat)}{J:Nat}{st:Y->Nat}{val:Y->Nat->Option Value}{M:Y->World->Prop}{Q:Act->World->Prop}
  (hc:mixChk n ops [] ops.size J stg=true) (hcert:∀i,i<ops.size->CertY WP D n ops (slI ops sl0 i) stg J st val M i)
  (hQ:∀y a w,st y=J->M y w->FrOk D n (slE ops sl0) a->KnowsY ops val y (List.range ops.size) a->Q a w) :
  ∀(f:Nat)(ls:Array Bool)(y:Y)(a:Act)(w:World),ls.toList.count false<=f->MixY D n ops sl0 stg J st val M ls y a w->anyG WP ops Q f ls a w:=by
 have hc':=hc
 simp only[mixChk,Bool.and_eq_true]at hc
 obtain⟨_,c6⟩:=hc
 have hfin:∀(ls:Array Bool)(y:Y)(a:Act)(w:World),Region.ready .any ops ls=[]->MixY D n ops sl0 stg J st val M ls y a w->Q a w:=by
  intro ls y a w hr hI
  have hA:=all_ready hc' ls hI.size hr
  have hjJ:st y=J:=by
   rcases Nat.eq_zero_or_pos J with h0|hpos
   ·have:=hI.le
    omega
   ·simp only[Bool.or_eq_true,List.any_eq_true]at c6
    rcases c6 with c6|⟨i,hi,hs⟩
    ·have:=Nat.eq_of_beq_eq_true c6
     omega
    ·have hi':=List.mem_range.1 hi
     unfold eqO at hs
     split at hs
     ·rename_i t ht
      have e:=Nat.eq_of_beq_eq_true hs
      subst e
      have:=(hI.stage i _ ht).1 (hA i hi')
      have:=hI.le
      omega
     ·cases hs
  refine hQ y a w hjJ hI.mem ⟨hI.fsize,hI.fdf,fun q v hq=>?_⟩ (fun k hk d hd=>hI.vals k d (hA k (List.mem_range.1 hk)) hd)
  obtain⟨h1,h2⟩:=getS_filter (fun _ _ _=>rfl) sl0 hq
  refine hI.base q v h1 (fun k _ hd=>?_)
  simp only[List.all_eq_true,Bool.not_eq_true']at h2
  have hk:k<ops.size:=by
   unfold dstOf at hd
   rcases Nat.lt_or_ge k ops.size with h'|h'
   ·exact h'
   ·rw[Array.getElem?_eq_none h']at hd
    cases hd
  have h3:=h2 k (List.mem_range.2 hk)
  rw[hd]at h3
  simp[eqO]at h3
 intro f
 induction f with
 |zero=>
  intro ls y a w hcnt hI
  have hr:Region.ready .any ops ls=[]:=by
   rw[List.eq_nil_iff_forall_not_mem]
   intro i hi
   have h1:=getD_of_false ((ready_iff ls i).1 hi).1
   have:=count_set h1.2
   omega
  exact⟨hr,hfin ls y a w hr hI⟩
 |succ f ih=>
  intro ls y a w hcnt hI
  refine⟨fun hr=>hfin ls y a w hr hI,fun i hi=>?_⟩
  obtain⟨h0,hi',_⟩:=(ready_iff ls i).1 hi
  have hcnt':=count_set (getD_of_false h0).2
  exact mix_stepY hc' (hcert i hi') hI hi (fun y' a' w' hI'=>ih _ y' a' w' (by omega) hI')
section
variable {P:Program}{D:List Deferred}{n:Nat}{w0:World}{S:Nat->Prop}{Q:Exit->Act->World->Prop}{ops:Array Oper}{sl0:List (Nat×Value)}{Δ:Type}{vs:Δ->List (Option Value)}{fl:Δ->Nat->Bool}{ms:Δ->List (List Bk)}{z0:Nat}{stg:List (Option Nat)}{J:Nat}{X:Nat->Δ->World->Prop}
def MY(w0:World)(S:Nat->Prop)(ms:Δ->List (List Bk))(z0:Nat)(X:Nat->Δ->World->Prop)(y:Nat×Δ)(w:World):Prop:=∃bk,(ms y.2)[y.1]?=some bk∧z0<=w.heap.size∧MemOk w0 S bk [] w.heap.size w∧X y.1 y.2 w
def valY(vs:Δ->List (Option Value))(fl:Δ->Nat->Bool)(y:Nat×Δ)(k:Nat):Option Value:=match fl y.2 k with
 |true=>vkOf (vs y.2) k
 |false=>none
theorem valY_of{y:Nat×Δ}{k:Nat}{v:Value}(h:fl y.2 k=true)(hv:vkOf (vs y.2) k=some v):valY vs fl y k=some v:=by simp only[valY,h,hv]
theorem valY_is{y:Nat×Δ}{k:Nat}{v:Value}(h:valY vs fl y k=some v):fl y.2 k=true∧vkOf (vs y.2) k=some v:=by
 unfold valY at h
 split at h
 ·rename_i h1
  exact⟨h1,h⟩
 ·cases h
theorem valY_eq{y y':Nat×Δ}{k:Nat}(h:vkOf (vs y'.2) k=vkOf (vs y.2) k∧fl y'.2 k=fl y.2 k):valY vs fl y' k=valY vs fl y k:=by simp only[valY,h.1,h.2]
def CameY(ops:Array Oper)(fl:Δ->Nat->Bool)(d:Δ)(i:Nat):Prop:=∀k∈needsOf ops i,dstOf ops k≠none->fl d k=true
theorem cameY_of{a:Act}{y:Nat×Δ}{i:Nat}(h:KnowsY ops (valY vs fl) y (needsOf ops i) a):CameY ops fl y.2 i:=fun k hk hd=>by
 cases e:dstOf ops k with
 |none=>exact absurd e hd
 |some d=>
  obtain⟨v,h1,_⟩:=h k hk d e
  exact(valY_is h1).1
theorem knowsY_sl{a:Act}{y:Nat×Δ}(h0:FrOk D n sl0 a)(l:List Nat)(h:KnowsY ops (valY vs fl) y l a):FrOk D n (slG ops (vs y.2) sl0 l) a:=
 knows_slG (C:=fun _ _ _=>False) (w:=default) h0 l (fun k hk d hd=>by
  obtain⟨v,h1,h2⟩:=h k hk d hd
  refine⟨v,h2,?_⟩
  simp only[PvG,(valY_is h1).2])
theorem certY_reg{i B:Nat}{h:OH}{ob:Δ->List Prop}{rs:Δ->List (Nat×Nat×Nat)}(v:Δ->Value)(hs:stgOf stg i=none)(hB:B=J∨∃k,stgOf stg k=some B∧i∈needsOf ops k)(hfl:∀d,fl d i=true)(hv:∀d,vkOf (vs d) i=some (v d))
  (he:∀d sz,(List.range (B+1)).map (fun c=>((ms d)[c]?).bind fun bk=>opG P ops ⟨slG ops (vs d) sl0 (needsOf ops i),bk,[],sz⟩ i h)=(List.range (B+1)).map (fun c=>((ms d)[c]?).map fun bk=>(ob d,dupR (rs d),v d,bk,sz))) (ho:∀d,All (ob d))
  (hX:∀c d w w' bk,(ms d)[c]?=some bk->MemOk w0 S bk [] w.heap.size w->X c d w->Kept (Turned bk) w w'->X c d w'):CertY (wpOp P ops Q) D n ops sl0 stg J (fun y:Nat×Δ=>y.1) (valY vs fl) (MY w0 S ms z0 X) i:=by
 rintro⟨c,d⟩ a w K hcJ _ hcap hf hk ⟨bk,hb,hz,hM,hx⟩ hK
 have hcB:c<=B:=by
  rcases hB with rfl|⟨k,hks,hik⟩
  ·exact hcJ
  ·exact hcap k B hks hik
 have h1:=congrArg (fun l=>l[c]?) (he d w.heap.size)
 dsimp only at hb hcB hx
 simp only[List.getElem?_map,List.getElem?_range (show c<B+1 by omega),Option.map_some,Option.some.injEq,hb,Option.bind_some]at h1
 refine opG_soundW (w0:=w) (S:=Turned bk) h1 (ho d) (dupR_good _) (knowsY_sl hf _ hk) hM.again (fun w' hm'=>?_)
 have hm2:MemOk w (Turned bk) bk [] w'.heap.size w':=by rw[hm'.size]; exact hm'
 refine hK (c,d) (v d) w' ?_ (valY_of (hfl d) (hv d)) (fun _ _ _ _=>rfl) ⟨bk,hb,Nat.le_trans hz hm'.kept.size,hM.onto hm2 rfl,hX c d w w' bk hb hM hx hm2.kept⟩
 unfold nextG
 rw[hs]
structure RegY(Δ:Type)where
 i:Nat
 B:Nat
 h:OH
 es:Δ->List Ev
 rs:Δ->List (Nat×Nat×Nat)
def rZsY(J:Nat)(l:List Nat):List (RegY Δ):=l.map fun i=>⟨i,J,oh0,fun _=>[],fun _=>[]⟩
theorem certsY_reg(L:List (RegY Δ))(hX:∀c d w w' bk,(ms d)[c]?=some bk->MemOk w0 S bk [] w.heap.size w->X c d w->Kept (Turned bk) w w'->X c d w')
  (hfl:∀d,L.all (fun e=>fl d e.i)=true) (hB:L.all (fun e=>Nat.beq e.B J||(List.range ops.size).any (fun k=>eqO (stgOf stg k) e.B&&(needsOf ops k).any (Nat.beq e.i)))=true)
  (he:∀d sz,L.map (fun e=>(stgOf stg e.i,(vkOf (vs d) e.i).isSome,(List.range (e.B+1)).map (fun c=>((ms d)[c]?).bind fun bk=>opG P ops ⟨slG ops (vs d) (slI ops sl0 e.i) (needsOf ops e.i),bk,[],sz⟩ e.i e.h)))
   = L.map (fun e=>(none,true,(List.range (e.B+1)).map (fun c=>((ms d)[c]?).bind fun bk=>(vkOf (vs d) e.i).map fun v=>(obE (e.es d),dupR (e.rs d),v,bk,sz))))) :
  ∀e∈L,CertY (wpOp P ops Q) D n ops (slI ops sl0 e.i) stg J (fun y:Nat×Δ=>y.1) (valY vs fl) (MY w0 S ms z0 X) e.i:=by
 intro e hm y a w K hcJ hst hcap hf hk hm' hK
 have h1:=fun d sz=>List.map_inj_left.1 (he d sz) e hm
 have h2:=h1 y.2 0
 simp only[Prod.mk.injEq]at h2
 have hv:∀d,vkOf (vs d) e.i=some ((vkOf (vs d) e.i).getD undef):=fun d=>by
  have h3:=h1 d 0
  simp only[Prod.mk.injEq]at h3
  obtain⟨v,hv⟩:=Option.isSome_iff_exists.1 h3.2.1
  rw[hv]
  rfl
 have hB':e.B=J∨∃k,stgOf stg k=some e.B∧e.i∈needsOf ops k:=by
  have h4:=List.all_eq_true.1 hB e hm
  simp only[Bool.or_eq_true,List.any_eq_true,Bool.and_eq_true]at h4
  rcases h4 with h4|⟨k,_,h5,x,hx,hx2⟩
  ·exact .inl (Nat.eq_of_beq_eq_true h4)
  ·refine .inr ⟨k,?_,Nat.eq_of_beq_eq_true hx2▸hx⟩
   unfold eqO at h5
   split at h5
   ·rename_i t ht
    rw[ht,Nat.eq_of_beq_eq_true h5]
   ·cases h5
 refine certY_reg (h:=e.h) (rs:=e.rs) (ob:=fun d=>obE (e.es d)) (B:=e.B) (fun d=>(vkOf (vs d) e.i).getD undef) h2.1 hB' (fun d=>List.all_eq_true.1 (hfl d) e hm) hv (fun d sz=>?_) (fun d=>allE (e.es d)) hX y a w K hcJ hst hcap hf hk hm' hK
 have h3:=h1 d sz
 simp only[Prod.mk.injEq]at h3
 refine h3.2.2.trans (List.map_congr_left fun c _=>?_)
 rw[hv d]
 cases (ms d)[c]?<;>rfl
theorem allY{N:Nat}{p:Nat->Prop}{L:List (RegY Δ)}{l:List Nat}(hc:(List.range N).all (fun i=>L.any (fun e=>Nat.beq e.i i)||l.any (Nat.beq i))=true)(hL:∀e∈L,p e.i)(hl:All (l.map p)):∀i,i<N->p i:=by
 intro i hi
 have h1:=List.all_eq_true.1 hc i (List.mem_range.2 hi)
 simp only[Bool.or_eq_true,List.any_eq_true]at h1
 rcases h1 with⟨e,he,h2⟩|⟨k,hk,h2⟩
 ·rw[<-Nat.eq_of_beq_eq_true h2]
  exact hL e he
 ·rw[Nat.eq_of_beq_eq_true h2]
  have:∀(l:List Nat),All (l.map p)->∀i∈l,p i:=by
   intro l
   induction l with
   |nil=>intro _ i hi; cases hi
   |cons x l ih=>
    intro h i hi
    rcases List.mem_cons.1 hi with rfl|hi
    ·exact h.1
    ·exact ih h.2 i hi
  exact this l hl k hk
theorem certY_call{i B:Nat}{f:FuncId}{args:Δ->List Value}{ob:Δ->List Prop}(v:Δ->Value)(hs:stgOf stg i=none)(hB:B=J∨∃k,stgOf stg k=some B∧i∈needsOf ops k)(hfl:∀d,fl d i=true)(hv:∀d,vkOf (vs d) i=some (v d))
  (h:∀d,callAt P ops (slG ops (vs d) sl0 (needsOf ops i)) i=some (f,args d,dstOf ops i,ob d)) (ho:∀d,All (ob d))
  (hc:∀c d w bk,c<=B->(ms d)[c]?=some bk->MemOk w0 S bk [] w.heap.size w->X c d w->Calls P f (args d).toArray w (RetK (v d) w))
  (hX:∀c d w w' bk,(ms d)[c]?=some bk->MemOk w0 S bk [] w.heap.size w->X c d w->Kept (Turned bk) w w'->X c d w'):CertY (wpOp P ops Q) D n ops sl0 stg J (fun y:Nat×Δ=>y.1) (valY vs fl) (MY w0 S ms z0 X) i:=by
 rintro⟨c,d⟩ a w K hcJ _ hcap hf hk ⟨bk,hb,hz,hM,hx⟩ hK
 have hcB:c<=B:=by
  rcases hB with rfl|⟨k,hks,hik⟩
  ·exact hcJ
  ·exact hcap k B hks hik
 refine callAt_wpOp (h d) (ho d) (knowsY_sl hf _ hk) ((hc c d w bk hcB hb hM hx).mono fun e w' he=>?_)
 obtain⟨h2,h3⟩:=he
 have h4:=hM.same h3
 refine⟨v d,h2,hK (c,d) (v d) w' ?_ (valY_of (hfl d) (hv d)) (fun _ _ _ _=>rfl) ⟨bk,hb,Nat.le_trans hz h3.size,h4.2,hX c d w w' bk hb hM hx (h3.mono (fun _ _ h=>h.elim))⟩⟩
 unfold nextG
 rw[hs]
theorem certY_new{i B:Nat}{h:OH}{ob:Δ->List Prop}{rs:Δ->List (Nat×Nat×Nat)}{e:TypeId}(l:List Value)(up:Δ->Nat->Δ)(mkv:Nat->Value)(hs:stgOf stg i=none)(hB:B=J∨∃k,stgOf stg k=some B∧i∈needsOf ops k)(hfl:∀d g,fl (up d g) i=true)(hv:∀d g,vkOf (vs (up d g)) i=some (mkv g))(hup:∀d g k,k≠i->(∀l,aftL ops i l=true->k ∉ l)->vkOf (vs (up d g)) k=vkOf (vs d) k∧fl (up d g) k=fl d k)
  (he:∀d sz,(List.range (B+1)).map (fun c=>((ms d)[c]?).bind fun bk=>opG P ops ⟨slG ops (vs d) sl0 (needsOf ops i),bk,[],sz⟩ i h)=(List.range (B+1)).map (fun c=>((ms d)[c]?).map fun bk=>(ob d,dupR (rs d),mkv sz,bk++[⟨sz,e,true,l⟩],sz+1))) (ho:∀d,All (ob d))
  (hms:∀d g,(List.range (B+1)).map (fun c=>(ms (up d g))[c]?)=(List.range (B+1)).map (fun c=>(ms d)[c]?))
  (hX:∀c d w w' bk,c<=B->(ms d)[c]?=some bk->MemOk w0 S bk [] w.heap.size w->X c d w->Kept (Turned bk) w w'->z0<=w.heap.size->Blk w' w.heap.size e l->X c (up d w.heap.size) w'):CertY (wpOp P ops Q) D n ops sl0 stg J (fun y:Nat×Δ=>y.1) (valY vs fl) (MY w0 S ms z0 X) i:=by
 rintro⟨c,d⟩ a w K hcJ _ hcap hf hk ⟨bk,hb,hz,hM,hx⟩ hK
 have hcB:c<=B:=by
  rcases hB with rfl|⟨k,hks,hik⟩
  ·exact hcJ
  ·exact hcap k B hks hik
 have h1:=congrArg (fun l=>l[c]?) (he d w.heap.size)
 dsimp only at hb hcB hx
 simp only[List.getElem?_map,List.getElem?_range (show c<B+1 by omega),Option.map_some,Option.some.injEq,hb,Option.bind_some]at h1
 refine opG_soundW (w0:=w) (S:=Turned bk) h1 (ho d) (dupR_good _) (knowsY_sl hf _ hk) hM.again (fun w' hm'=>?_)
 have hBl:=hm'.blk ⟨w.heap.size,e,true,l⟩ (by simp)
 have hm3:=hm'.less
 have hm2:MemOk w (Turned bk) bk [] w'.heap.size w':=by rw[hm'.size]; exact hm3
 have h2:=congrArg (fun l=>l[c]?) (hms d w.heap.size)
 simp only[List.getElem?_map,List.getElem?_range (show c<B+1 by omega),Option.map_some,Option.some.injEq]at h2
 refine hK (c,up d w.heap.size) (mkv w.heap.size) w' ?_ (valY_of (hfl d _) (hv d _)) (fun k hk ha _=>valY_eq (hup d _ k hk ha)) ⟨bk,h2.trans hb,Nat.le_trans hz hm'.kept.size,hM.onto hm2 rfl,hX c d w w' bk hcB hb hM hx hm2.kept hz hBl⟩
 unfold nextG
 rw[hs]
def mskL{α:Type}(x:α)(l:List Nat)(us:List α):List α:=l.foldl (fun us k=>us.set k x) us
theorem mskL_get{α:Type}{x:α}:∀(l:List Nat)(us us':List α),mskL x l us'=mskL x l us->∀k,k ∉ l->us'[k]?=us[k]?
 |[],us,us',h,k,_=>by rw[show us'=us from h]
 |j::l,us,us',h,k,hk=>by
  have h1:=mskL_get l (us.set j x) (us'.set j x) h k (fun hm=>hk (List.mem_cons_of_mem _ hm))
  rwa [List.getElem?_set_ne (fun e=>hk (by rw[<-e]; exact List.mem_cons_self)),List.getElem?_set_ne (fun e=>hk (by rw[<-e]; exact List.mem_cons_self))]at h1
theorem keepY{ops:Array Oper}{us us':List (Option Value)}{fs fs':List Bool}{i:Nat}{l:List Nat}(hl:aftL ops i l=true)(h:mskL none (i::l) us'=mskL none (i::l) us)(h2:fs'.set i true=fs.set i true)(k:Nat)(hk:k≠i)(ha:∀l,aftL ops i l=true->k ∉ l):vkOf us' k=vkOf us k∧fs'[k]?.getD true=fs[k]?.getD true:=by
 constructor
 ·have h3:=mskL_get (i::l) us us' h k (fun hm=>(List.mem_cons.1 hm).elim hk (ha l hl))
  simp only[vkOf,h3]
 ·have h3:=congrArg (fun l=>l[k]?) h2
  simp only[List.getElem?_set_ne (Ne.symm hk)]at h3
  rw[h3]
theorem certY_callW{i s:Nat}{f:FuncId}{args:Δ->List Value}{ob:Δ->List Prop}{Ε:Type}(up:Δ->Ε->Δ)(v:Δ->Value)(bk':Δ->Ε->List Bk)(hs:stgOf stg i=some s)(hfl:∀d,fl d i=true)(hv:∀d,vkOf (vs d) i=some (v d))(hup:∀d e k,k≠i->(∀l,aftL ops i l=true->k ∉ l)->vkOf (vs (up d e)) k=vkOf (vs d) k∧fl (up d e) k=fl d k)
  (h:∀d,callAt P ops (slG ops (vs d) sl0 (needsOf ops i)) i=some (f,args d,dstOf ops i,ob d)) (ho:∀d,All (ob d))
  (hc:∀d w bk,(ms d)[s]?=some bk->MemOk w0 S bk [] w.heap.size w->X s d w->CameY ops fl d i->Calls P f (args d).toArray w (fun e w'=>∃e',e=.returned (v (up d e'))∧(ms (up d e'))[s+1]?=some (bk' d e')∧X (s+1) (up d e') w'∧MemOk w0 S (bk' d e') [] w'.heap.size w'∧w.heap.size<=w'.heap.size)) :
  CertY (wpOp P ops Q) D n ops sl0 stg J (fun y:Nat×Δ=>y.1) (valY vs fl) (MY w0 S ms z0 X) i:=by
 rintro⟨c,d⟩ a w K _ hst _ hf hk ⟨bk,hb,hz,hM,hx⟩ hK
 obtain⟨h0,_⟩:=hst s hs
 dsimp only at h0
 subst h0
 refine callAt_wpOp (h d) (ho d) (knowsY_sl hf _ hk) ((hc d w bk hb hM hx (cameY_of hk)).mono fun e w' he=>?_)
 obtain⟨e',h2,h3,h4,h5,h6⟩:=he
 refine⟨v (up d e'),h2,hK (c+1,up d e') _ w' ?_ (valY_of (hfl _) (hv _)) (fun k hk ha _=>valY_eq (hup d e' k hk ha)) ⟨bk' d e',h3,Nat.le_trans hz h6,h5,h4⟩⟩
 unfold nextG
 rw[hs]
theorem certY_opW{i s:Nat}{x:Δ->Sem Value}{Ε:Type}(up:Δ->Ε->Δ)(v:Δ->Value)(bk':Δ->Ε->List Bk)(hs:stgOf stg i=some s)(hfl:∀d,fl d i=true)(hv:∀d,vkOf (vs d) i=some (v d))(hup:∀d e k,k≠i->(∀l,aftL ops i l=true->k ∉ l)->vkOf (vs (up d e)) k=vkOf (vs d) k∧fl (up d e) k=fl d k)
  (hda:∀d,dstAt ops (slG ops (vs d) sl0 (needsOf ops i)) i=some (dstOf ops i)) (hse:∀d,semAt ops (slG ops (vs d) sl0 (needsOf ops i)) i=some (asV (x d)))
  (hr:∀d w bk,(ms d)[s]?=some bk->MemOk w0 S bk [] w.heap.size w->X s d w->CameY ops fl d i->∃e' w',(x d).run P w=.ok (v (up d e')) w'∧(ms (up d e'))[s+1]?=some (bk' d e')∧X (s+1) (up d e') w'∧MemOk w0 S (bk' d e') [] w'.heap.size w'∧w.heap.size<=w'.heap.size) :
  CertY (wpOp P ops Q) D n ops sl0 stg J (fun y:Nat×Δ=>y.1) (valY vs fl) (MY w0 S ms z0 X) i:=by
 rintro⟨c,d⟩ a w K _ hst _ hf hk ⟨bk,hb,hz,hM,hx⟩ hK
 obtain⟨h0,_⟩:=hst s hs
 dsimp only at h0
 subst h0
 have hsl:=knowsY_sl hf _ hk
 have hd:=hda d
 have hx':=hse d
 unfold dstAt at hd
 unfold semAt at hx'
 split at hd
 ·rename_i o ho
  simp only[ho,Option.some.injEq]at hx'
  split at hd
  ·rename_i hg
   split at hd
   ·rename_i hkn
    simp only[Option.some.injEq]at hd
    have hw:Region.wanted o (yielded ops a.tmps)=true:=by simp[Region.wanted,hg]
    simp only[wpOp,ho,if_pos hw]
    refine .inl ?_
    obtain⟨e',w',h2,h3,h4,h5,h6⟩:=hr d w bk hb hM hx (cameY_of hk)
    have h7:(execOp a.eval o).run P w=.ok (.value (v (up d e'))) w':=by
     rw[hsl.rho hkn,hx']
     simp only[asV,Sem.run_bind,h2,Result.andThen_ok,Sem.run_pure]
    simp only[Oper.wp,h7,Oper.upon_value]
    rw[hd]
    refine hK (c+1,up d e') _ w' ?_ (valY_of (hfl _) (hv _)) (fun k hk ha _=>valY_eq (hup d e' k hk ha)) ⟨bk' d e',h3,Nat.le_trans hz h6,h5,h4⟩
    unfold nextG
    rw[hs]
   ·cases hd
  ·cases hd
 ·cases hd
theorem certY_opR{i B:Nat}{x:Δ->Sem Value}(v:Δ->Value)(hs:stgOf stg i=none)(hB:B=J∨∃k,stgOf stg k=some B∧i∈needsOf ops k)(hfl:∀d,fl d i=true)(hv:∀d,vkOf (vs d) i=some (v d))
  (hda:∀d,dstAt ops (slG ops (vs d) sl0 (needsOf ops i)) i=some (dstOf ops i)) (hse:∀d,semAt ops (slG ops (vs d) sl0 (needsOf ops i)) i=some (asV (x d)))
  (hr:∀c d w bk,c<=B->(ms d)[c]?=some bk->MemOk w0 S bk [] w.heap.size w->X c d w->(x d).run P w=.ok (v d) w) :
  CertY (wpOp P ops Q) D n ops sl0 stg J (fun y:Nat×Δ=>y.1) (valY vs fl) (MY w0 S ms z0 X) i:=by
 rintro⟨c,d⟩ a w K hcJ _ hcap hf hk ⟨bk,hb,hz,hM,hx⟩ hK
 have hcB:c<=B:=by
  rcases hB with rfl|⟨k,hks,hik⟩
  ·exact hcJ
  ·exact hcap k B hks hik
 have hsl:=knowsY_sl hf _ hk
 have hd:=hda d
 have hx':=hse d
 unfold dstAt at hd
 unfold semAt at hx'
 split at hd
 ·rename_i o ho
  simp only[ho,Option.some.injEq]at hx'
  split at hd
  ·rename_i hg
   split at hd
   ·rename_i hkn
    simp only[Option.some.injEq]at hd
    have hw:Region.wanted o (yielded ops a.tmps)=true:=by simp[Region.wanted,hg]
    simp only[wpOp,ho,if_pos hw]
    refine .inl ?_
    have h7:(execOp a.eval o).run P w=.ok (.value (v d)) w:=by
     rw[hsl.rho hkn,hx']
     simp only[asV,Sem.run_bind,hr c d w bk hcB hb hM hx,Result.andThen_ok,Sem.run_pure]
    simp only[Oper.wp,h7,Oper.upon_value]
    rw[hd]
    refine hK (c,d) _ w ?_ (valY_of (hfl _) (hv _)) (fun _ _ _ _=>rfl) ⟨bk,hb,hz,hM,hx⟩
    unfold nextG
    rw[hs]
   ·cases hd
  ·cases hd
 ·cases hd
theorem certY_opS{i s:Nat}{x:Δ->Sem Unit}{Ε:Type}(up:Δ->Ε->Δ)(bk':Δ->Ε->List Bk)(hs:stgOf stg i=some s)(hfl:∀d,fl d i=true)(hv:∀d,vkOf (vs d) i=some undef)(hup:∀d e k,k≠i->(∀l,aftL ops i l=true->k ∉ l)->vkOf (vs (up d e)) k=vkOf (vs d) k∧fl (up d e) k=fl d k)
  (hda:∀d,dstAt ops (slG ops (vs d) sl0 (needsOf ops i)) i=some (dstOf ops i)) (hse:∀d,semAt ops (slG ops (vs d) sl0 (needsOf ops i)) i=some (asU (x d)))
  (hr:∀d w bk,(ms d)[s]?=some bk->MemOk w0 S bk [] w.heap.size w->X s d w->CameY ops fl d i->∃e' w',(x d).run P w=.ok () w'∧(ms (up d e'))[s+1]?=some (bk' d e')∧X (s+1) (up d e') w'∧MemOk w0 S (bk' d e') [] w'.heap.size w'∧w.heap.size<=w'.heap.size) :
  CertY (wpOp P ops Q) D n ops sl0 stg J (fun y:Nat×Δ=>y.1) (valY vs fl) (MY w0 S ms z0 X) i:=by
 rintro⟨c,d⟩ a w K _ hst _ hf hk ⟨bk,hb,hz,hM,hx⟩ hK
 obtain⟨h0,_⟩:=hst s hs
 dsimp only at h0
 subst h0
 have hsl:=knowsY_sl hf _ hk
 have hd:=hda d
 have hx':=hse d
 unfold dstAt at hd
 unfold semAt at hx'
 split at hd
 ·rename_i o ho
  simp only[ho,Option.some.injEq]at hx'
  split at hd
  ·rename_i hg
   split at hd
   ·rename_i hkn
    simp only[Option.some.injEq]at hd
    have hw:Region.wanted o (yielded ops a.tmps)=true:=by simp[Region.wanted,hg]
    simp only[wpOp,ho,if_pos hw]
    refine .inl ?_
    obtain⟨e',w',h2,h3,h4,h5,h6⟩:=hr d w bk hb hM hx (cameY_of hk)
    have h7:(execOp a.eval o).run P w=.ok .skip w':=by
     rw[hsl.rho hkn,hx']
     simp only[asU,Sem.run_bind,h2,Result.andThen_ok,Sem.run_pure]
    simp only[Oper.wp,h7,Oper.upon_skip]
    rw[hd]
    refine hK (c+1,up d e') undef w' ?_ (valY_of (hfl _) (hv _)) (fun k hk ha _=>valY_eq (hup d e' k hk ha)) ⟨bk' d e',h3,Nat.le_trans hz h6,h5,h4⟩
    unfold nextG
    rw[hs]
   ·cases hd
  ·cases hd
 ·cases hd
theorem MemOk.bckS{w W W1:World}{S S2:Nat->Prop}{bk bk':List Bk}{wn:List Wn}{sz:Nat}(h:MemOk w S bk [] W.heap.size W)(h1:MemOk W S2 bk' wn sz W1)(hS:∀x,S2 x->S x∨w.heap.size<=x):MemOk w S bk' [] sz W1:=
 ⟨h1.size,h1.blk,fun b hb hr=>(h1.own b hb hr).elim (fun h2=>hS _ h2) (fun h2=>.inr (Nat.le_trans h.kept.size h2)),h1.nd,
  h.kept.trans h1.kept (fun k hk h2=>(hS k h2).elim id (fun h3=>absurd hk (by omega))),fun x hx=>by cases hx⟩
theorem holds_mixY{body:Code}{p:List Nat}{k:List KI}{st:St}(S2:Nat->Prop)(vs:Δ->List (Option Value))(fl:Δ->Nat->Bool)(ms:Δ->List (List Bk))(X:Nat->Δ->World->Prop){stg:List (Option Nat)}{J:Nat}(ks:List Nat)(sl':Δ->List (Nat×Value))(bk':Δ->List Bk)(d0:Δ)
  (hS2:∀x,S x->S2 x) (hc:isDraw (getCode body p)=true) (hmx:P.follows .mixedOrders=true) (h1:mixChk n (opsOf (getCode body p)) [] (opsOf (getCode body p)).size J stg=true)
  (hX0:∀w,MemOk w0 S st.bk st.wn st.sz w->X 0 d0 { w with drawn:=w.drawn+1 }) (h0:(ms d0)[0]?=some st.bk)
  (hcert:∀i,i<(opsOf (getCode body p)).size->CertY (wpOp P (opsOf (getCode body p)) (sem P body Q k)) D n (opsOf (getCode body p)) (slI (opsOf (getCode body p)) st.sl i) stg J (fun y:Nat×Δ=>y.1) (valY vs fl) (MY w0 S2 ms st.sz X) i)
  (hJ:∀d,(ms d)[J]?=some (bk' d))
  (hsl:∀d,keepS (slG (opsOf (getCode body p)) (vs d) (slE (opsOf (getCode body p)) st.sl) (List.range (opsOf (getCode body p)).size)) ks=sl' d)
  (hh:∀d W,(∀i,i<(opsOf (getCode body p)).size->dstOf (opsOf (getCode body p)) i≠none->fl d i=true)->X J d W->st.sz<=W.heap.size->MemOk w0 S2 (bk' d) [] W.heap.size W->Holds D P body n W (Turned (bk' d)) Q k ⟨sl' d,bk' d,[],W.heap.size⟩):Holds D P body n w0 S Q (.code p::k) st:=by
 intro a w hf hm
 obtain⟨id,hc⟩:=draw_of hc
 simp only[sem]
 rw[hc]
 refine wp_region_any hmx ?_
 rw[wpAny_anyG]
 have e:∀i,(Array.replicate (opsOf (getCode body p)).size false).getD i false=false:=fun i=>by
  simp only[Array.getD]
  split
  ·simp
  ·rfl
 refine anyMixY h1 hcert ?_ _ _ (0,d0) a _ (by simp) ⟨hf.size,hf.df,fun q v hq _=>hf.val q v hq,fun k hk=>(by rw[e]at hk; cases hk),by simp,fun i d hi=>(by rw[e]at hi; cases hi),fun i s _=>(by rw[e]; exact⟨fun h=>(by cases h),fun h=>absurd h (Nat.not_lt_zero s)⟩),Nat.zero_le _,st.bk,h0,Nat.le_of_eq hm.size.symm,⟨rfl,hm.blk,fun b hb hr=>(hm.own b hb hr).imp_left (hS2 _),hm.nd,(hm.kept.mono (fun x _ h=>hS2 x h)).drew,fun x hx=>(by cases hx)⟩,hX0 w hm⟩
 rintro⟨c,d⟩ a' w' hcJ ⟨bk,hb,hz,hM,hx⟩ hf' hk'
 dsimp only at hcJ hb hx
 subst hcJ
 rw[hJ]at hb
 cases hb
 have h2:=knowsY_sl hf' _ hk'
 exact hh d w' (fun i hi hd=>by
  cases e1:dstOf (opsOf (getCode body p)) i with
  |none=>exact absurd e1 hd
  |some q=>
   obtain⟨v,h3,_⟩:=hk' i (List.mem_range.2 hi) q e1
   exact(valY_is h3).1) hx hz hM a' w' (by rw[<-hsl d]; exact⟨h2.size,h2.df,fun i v hi=>h2.val i v (getS_keepS ks i v hi)⟩) hM.again
def aftC(ops:Array Oper)(i:Nat):List Nat:=(List.range ops.size).foldl (fun l k=>bif (needsOf ops k).any (fun j=>Nat.beq j i||(Nat.blt j k&&l.any (Nat.beq j)))then l++[k]else l) []
theorem keepYC{ops:Array Oper}{us us':List (Option Value)}{fs fs':List Bool}{i:Nat}(hl:aftL ops i (aftC ops i)=true)(h:mskL none (i::aftC ops i) us'=mskL none (i::aftC ops i) us)(h2:fs'.set i true=fs.set i true)(k:Nat)(hk:k≠i)(ha:∀l,aftL ops i l=true->k ∉ l):vkOf us' k=vkOf us k∧fs'[k]?.getD true=fs[k]?.getD true:=keepY hl h h2 k hk ha
def bkY(ms:Δ->List (List Bk))(s:Nat)(d:Δ):List Bk:=((ms d)[s+1]?).getD []
theorem hB_of{i B:Nat}(h:(Nat.beq B J||(List.range ops.size).any (fun k=>eqO (stgOf stg k) B&&(needsOf ops k).any (Nat.beq i)))=true):B=J∨∃k,stgOf stg k=some B∧i∈needsOf ops k:=by
 rcases Bool.or_eq_true _ _ |>.mp h with h|h
 ·exact .inl (Nat.eq_of_beq_eq_true h)
 ·obtain⟨k,_,h2⟩:=List.any_eq_true.1 h
  obtain⟨h3,h4⟩:=Bool.and_eq_true _ _ |>.mp h2
  obtain⟨j,h5,h6⟩:=List.any_eq_true.1 h4
  refine .inr ⟨k,?_,(Nat.eq_of_beq_eq_true h6)▸h5⟩
  cases h7:stgOf stg k with
  |none=>rw[h7]at h3; cases h3
  |some x=>rw[h7]at h3; exact congrArg some (Nat.eq_of_beq_eq_true h3)
def cY(P:Program)(fn:Func)(p:List Nat)(n:Nat)(D:List Deferred)(Q:Exit->Act->World->Prop)(k:List KI)(sl0:List (Nat×Value))(stg:List (Option Nat))(J:Nat)(vs:Δ->List (Option Value))(fl:Δ->Nat->Bool)(w0:World)(S:Nat->Prop)(ms:Δ->List (List Bk))(z0:Nat)(X:Nat->Δ->World->Prop)(i:Nat):Prop:=
 CertY (wpOp P (opsOf (getCode (bodyOf fn) p)) (sem P (bodyOf fn) Q k)) D n (opsOf (getCode (bodyOf fn) p)) (slI (opsOf (getCode (bodyOf fn) p)) sl0 i) stg J (fun y:Nat×Δ=>y.1) (valY vs fl) (MY w0 S ms z0 X) i
def StayY(w0:World)(S:Nat->Prop)(ms:Δ->List (List Bk))(X:Nat->Δ->World->Prop):Prop:=∀c d w w' bk,(ms d)[c]?=some bk->MemOk w0 S bk [] w.heap.size w->X c d w->Kept (Turned bk) w w'->X c d w'
theorem cyC{i s:Nat}{f:FuncId}{args:Δ->List Value}{ob:Δ->List Prop}{Ε:Type}(up:Δ->Ε->Δ)(v:Δ->Value)(ho:∀d,All (ob d))
  (hc:∀d w bk,(ms d)[s]?=some bk->MemOk w0 S bk [] w.heap.size w->X s d w->CameY ops fl d i->Calls P f (args d).toArray w (fun e w'=>∃e',e=.returned (v (up d e'))∧(ms (up d e'))[s+1]?=some (bkY ms s (up d e'))∧X (s+1) (up d e') w'∧MemOk w0 S (bkY ms s (up d e')) [] w'.heap.size w'∧w.heap.size<=w'.heap.size))
  (hs:stgOf stg i=some s:=by kernel_rfl) (hfl:∀d,fl d i=true:=by intro _; kernel_rfl) (hv:∀d,vkOf (vs d) i=some (v d):=by intro _; kernel_rfl)
  (hup:∀d e k,k≠i->(∀l,aftL ops i l=true->k ∉ l)->vkOf (vs (up d e)) k=vkOf (vs d) k∧fl (up d e) k=fl d k:=by intro _ _; exact keepYC (by kernel_rfl) (by kernel_rfl) (by kernel_rfl))
  (h:∀d,callAt P ops (slG ops (vs d) sl0 (needsOf ops i)) i=some (f,args d,dstOf ops i,ob d):=by intro _; kernel_rfl) :
  CertY (wpOp P ops Q) D n ops sl0 stg J (fun y:Nat×Δ=>y.1) (valY vs fl) (MY w0 S ms z0 X) i:=certY_callW up v (fun d e=>bkY ms s (up d e)) hs hfl hv hup h ho hc
theorem cyW{i s:Nat}{x:Δ->Sem Value}{Ε:Type}(up:Δ->Ε->Δ)(v:Δ->Value)
  (hr:∀d w bk,(ms d)[s]?=some bk->MemOk w0 S bk [] w.heap.size w->X s d w->CameY ops fl d i->∃e' w',(x d).run P w=.ok (v (up d e')) w'∧(ms (up d e'))[s+1]?=some (bkY ms s (up d e'))∧X (s+1) (up d e') w'∧MemOk w0 S (bkY ms s (up d e')) [] w'.heap.size w'∧w.heap.size<=w'.heap.size)
  (hs:stgOf stg i=some s:=by kernel_rfl) (hfl:∀d,fl d i=true:=by intro _; kernel_rfl) (hv:∀d,vkOf (vs d) i=some (v d):=by intro _; kernel_rfl)
  (hup:∀d e k,k≠i->(∀l,aftL ops i l=true->k ∉ l)->vkOf (vs (up d e)) k=vkOf (vs d) k∧fl (up d e) k=fl d k:=by intro _ _; exact keepYC (by kernel_rfl) (by kernel_rfl) (by kernel_rfl))
  (hda:∀d,dstAt ops (slG ops (vs d) sl0 (needsOf ops i)) i=some (dstOf ops i):=by intro _; kernel_rfl) (hse:∀d,semAt ops (slG ops (vs d) sl0 (needsOf ops i)) i=some (asV (x d)):=by intro _; kernel_rfl) :
  CertY (wpOp P ops Q) D n ops sl0 stg J (fun y:Nat×Δ=>y.1) (valY vs fl) (MY w0 S ms z0 X) i:=certY_opW up v (fun d e=>bkY ms s (up d e)) hs hfl hv hup hda hse hr
theorem cyS{i s:Nat}{x:Δ->Sem Unit}{Ε:Type}(up:Δ->Ε->Δ)
  (hr:∀d w bk,(ms d)[s]?=some bk->MemOk w0 S bk [] w.heap.size w->X s d w->CameY ops fl d i->∃e' w',(x d).run P w=.ok () w'∧(ms (up d e'))[s+1]?=some (bkY ms s (up d e'))∧X (s+1) (up d e') w'∧MemOk w0 S (bkY ms s (up d e')) [] w'.heap.size w'∧w.heap.size<=w'.heap.size)
  (hs:stgOf stg i=some s:=by kernel_rfl) (hfl:∀d,fl d i=true:=by intro _; kernel_rfl) (hv:∀d,vkOf (vs d) i=some undef:=by intro _; kernel_rfl)
  (hup:∀d e k,k≠i->(∀l,aftL ops i l=true->k ∉ l)->vkOf (vs (up d e)) k=vkOf (vs d) k∧fl (up d e) k=fl d k:=by intro _ _; exact keepYC (by kernel_rfl) (by kernel_rfl) (by kernel_rfl))
  (hda:∀d,dstAt ops (slG ops (vs d) sl0 (needsOf ops i)) i=some (dstOf ops i):=by intro _; kernel_rfl) (hse:∀d,semAt ops (slG ops (vs d) sl0 (needsOf ops i)) i=some (asU (x d)):=by intro _; kernel_rfl) :
  CertY (wpOp P ops Q) D n ops sl0 stg J (fun y:Nat×Δ=>y.1) (valY vs fl) (MY w0 S ms z0 X) i:=certY_opS up (fun d e=>bkY ms s (up d e)) hs hfl hv hup hda hse hr
theorem cyN{i:Nat}(B:Nat)(e:TypeId)(l:List Value)(up:Δ->Nat->Δ)(mkv:Nat->Value)
  (hX:∀c d w w' bk,c<=B->(ms d)[c]?=some bk->MemOk w0 S bk [] w.heap.size w->X c d w->Kept (Turned bk) w w'->z0<=w.heap.size->Blk w' w.heap.size e l->X c (up d w.heap.size) w')
  (hs:stgOf stg i=none:=by kernel_rfl) (hB:(Nat.beq B J||(List.range ops.size).any (fun k=>eqO (stgOf stg k) B&&(needsOf ops k).any (Nat.beq i)))=true:=by kernel_rfl) (hfl:∀d g,fl (up d g) i=true:=by intro _ _; kernel_rfl) (hv:∀d g,vkOf (vs (up d g)) i=some (mkv g):=by intro _ _; kernel_rfl)
  (hup:∀d g k,k≠i->(∀l,aftL ops i l=true->k ∉ l)->vkOf (vs (up d g)) k=vkOf (vs d) k∧fl (up d g) k=fl d k:=by intro _ _; exact keepYC (by kernel_rfl) (by kernel_rfl) (by kernel_rfl))
  (he:∀d sz,(List.range (B+1)).map (fun c=>((ms d)[c]?).bind fun bk=>opG P ops ⟨slG ops (vs d) sl0 (needsOf ops i),bk,[],sz⟩ i oh0)=(List.range (B+1)).map (fun c=>((ms d)[c]?).map fun bk=>([],dupR [],mkv sz,bk++[⟨sz,e,true,l⟩],sz+1)):=by intro _ _; kernel_rfl)
  (hms:∀d g,(List.range (B+1)).map (fun c=>(ms (up d g))[c]?)=(List.range (B+1)).map (fun c=>(ms d)[c]?):=by intro _ _; kernel_rfl) :
  CertY (wpOp P ops Q) D n ops sl0 stg J (fun y:Nat×Δ=>y.1) (valY vs fl) (MY w0 S ms z0 X) i:=certY_new (h:=oh0) (ob:=fun _=>[]) (rs:=fun _=>[]) l up mkv hs (hB_of hB) hfl hv hup he (fun _=>trivial) hms hX
end
theorem dst_ne{o:Option Nat}{k:Nat}(h:o=some k):o≠none:=fun e=>by rw[h]at e; cases e
theorem MemOk.adopt{w wx w':World}{S:Nat->Prop}{bk:List Bk}{wn:List Wn}{sz g:Nat}{t:TypeId}{cs:List Value}(hm:MemOk w S bk wn sz wx)(hk:Kept (fun y=>y=g) wx w')(hB:Blk w' g t cs)(hg:w.heap.size<=g)(hn:∀b∈bk,b.g≠g):MemOk w S (bk++[⟨g,t,true,cs⟩]) [] w'.heap.size w':=by
 refine⟨rfl,fun b hb=>?_,fun b hb hr=>?_,?_,hm.kept.trans hk (fun k hk' e=>absurd hk' (by omega)),fun x hx=>by cases hx⟩
 ·rcases List.mem_append.1 hb with hb|hb
  ·exact(hm.blk b hb).kept hk (hn b hb)
  ·obtain rfl:=List.mem_singleton.1 hb
   exact hB
 ·rcases List.mem_append.1 hb with hb|hb
  ·exact hm.own b hb hr
  ·obtain rfl:=List.mem_singleton.1 hb
   exact .inr hg
 ·rw[List.map_append,List.nodup_append]
  refine⟨hm.nd,by simp,fun a ha b hb=>?_⟩
  obtain⟨x,hx,rfl⟩:=List.mem_map.1 ha
  simp only[List.map_cons,List.map_nil,List.mem_singleton]at hb
  subst hb
  exact hn x hx
theorem holds_st{D:List Deferred}{P:Program}{body:Code}{n:Nat}{w0:World}{S:Nat->Prop}{Q:Exit->Act->World->Prop}{k:List KI}{st st':St}(h:st'=st)(hh:Holds D P body n w0 S Q k st'):Holds D P body n w0 S Q k st:=h▸hh
def rY{Δ:Type}(i B a b c g:Nat):RegY Δ:=⟨i,B,oA a b c,fun _=>[],fun _=>[(g,b,c)]⟩
end Go.Proofs.YtcmpkkapkdlfhaaGreat
