import Derived.Test.YtcmpkkapkdlfhaaGreatEngW
namespace Go.Proofs.YtcmpkkapkdlfhaaGreat
open Go.RowKit
def anyG(WP:Nat->(Act->World->Prop)->Act->World->Prop)(ops:Array Oper)(Q:Act->World->Prop):Nat->Array Bool->Act->World->Prop
 |0,ls,a,w=>Region.ready .any ops ls=[]∧Q a w
 |f+1,ls,a,w=>(Region.ready .any ops ls=[]->Q a w)∧∀i∈Region.ready .any ops ls,WP i (anyG WP ops Q f (ls.setIfInBounds i true)) a w
theorem wpAny_anyG{P:Program}{ops:Array Oper}{Q:Exit->Act->World->Prop}:∀f,wpAny P .any ops Q f=anyG (wpOp P ops Q) ops (Q .normal) f
 |0=>rfl
 |f+1=>by
  funext ls a w
  simp only[wpAny,anyG,wpAny_anyG f]
def KnowsG(ops:Array Oper)(Pv:Nat->Value->World->Prop)(l:List Nat)(a:Act)(w:World):Prop:=∀k∈l,∀d,dstOf ops k=some d->∃v,a.tmps[d]?=some v∧Pv k v w
def nextG(stg:List (Option Nat))(i j:Nat):Nat:=match stgOf stg i with
 |none=>j
 |some _=>j+1
def CertG(WP:Nat->(Act->World->Prop)->Act->World->Prop)(D:List Deferred)(n:Nat)(ops:Array Oper)(sl0:List (Nat×Value))(stg:List (Option Nat))(J:Nat)(M:Nat->World->Prop)(T:Nat->Prop)(Pv:Nat->Value->World->Prop)(i:Nat):Prop:=
 ∀(j:Nat)(a:Act)(w:World)(K:Act->World->Prop),j<=J->(∀s,stgOf stg i=some s->j=s∧s<J)->(∀k s,stgOf stg k=some s->i∈needsOf ops k->j<=s)->FrOk D n sl0 a->KnowsG ops Pv (needsOf ops i) a w->M j w ->
  (∀v w',Pv i v w'->Kept T w w'->M (nextG stg i j) w'->K (a.put (dstOf ops i) v) w')->WP i K a w
def slI(ops:Array Oper)(sl0:List (Nat×Value))(i:Nat):List (Nat×Value):=sl0.filter fun x=>(List.range ops.size).all fun k=>!eqO (dstOf ops k) x.1||(needsOf ops k).any (Nat.beq i)
def slE(ops:Array Oper)(sl0:List (Nat×Value)):List (Nat×Value):=sl0.filter fun x=>(List.range ops.size).all fun k=>!eqO (dstOf ops k) x.1
theorem getS_filter{p:Nat×Value->Bool}(hp:∀d v u,p (d,v)=p (d,u)):∀(sl:List (Nat×Value)){d:Nat}{v:Value},getS (sl.filter p) d=some v->getS sl d=some v∧p (d,v)=true
 |[],_,_,h=>by cases h
 |(e,u)::sl,d,v,h=>by
  simp only[List.filter_cons]at h
  split at h
  ·rename_i hpe
   simp only[getS]at h ⊢
   split at h
   ·rename_i he
    have he':e=d:=Nat.eq_of_beq_eq_true he
    subst he'
    simp only[Option.some.injEq]at h
    subst h
    exact⟨rfl,hpe⟩
   ·exact getS_filter hp sl h
  ·rename_i hpe
   obtain⟨h1,h2⟩:=getS_filter hp sl h
   refine⟨?_,h2⟩
   simp only[getS]
   have hne:Nat.beq e d=false:=by
    cases hb:Nat.beq e d with
    |false=>rfl
    |true=>
     have:=Nat.eq_of_beq_eq_true hb
     subst this
     rw[hp e u v]at hpe
     exact absurd h2 hpe
   rw[hne]
   exact h1
structure MixG(D:List Deferred)(n:Nat)(ops:Array Oper)(sl0:List (Nat×Value))(stg:List (Option Nat))(J:Nat)(M:Nat->World->Prop)(Pv:Nat->Value->World->Prop)(ls:Array Bool)(j:Nat)(a:Act)(w:World):Prop where
 fsize:a.tmps.size=n
 fdf:a.defers=D
 base:∀q v,getS sl0 q=some v->(∀k,ls.getD k false=true->dstOf ops k≠some q)->a.tmps[q]?=some v
 closed:∀k,ls.getD k false=true->∀i∈needsOf ops k,ls.getD i false=true
 size:ls.size=ops.size
 vals:∀i d,ls.getD i false=true->dstOf ops i=some d->∃v,a.tmps[d]?=some v∧Pv i v w
 stage:∀i s,stgOf stg i=some s->(ls.getD i false=true↔s<j)
 le:j<=J
 mem:M j w
theorem anyMixG{WP:Nat->(Act->World->Prop)->Act->World->Prop}{D:List Deferred}{n:Nat}{ops:Array Oper}{sl0:List (Nat×Value)}{stg:List (Option Nat)}{J:Nat}{M:Nat->World->Prop}{T:Nat->Prop}{Pv:Nat->Value->World->Prop}{Q:Act->World->Prop}
  (hc:mixChk n ops [] ops.size J stg=true) (hst:∀k v w w',Pv k v w->Kept T w w'->Pv k v w') (hcert:∀i,i<ops.size->CertG WP D n ops (slI ops sl0 i) stg J M T Pv i)
  (hQ:∀a w,M J w->FrOk D n (slE ops sl0) a->KnowsG ops Pv (List.range ops.size) a w->Q a w) :
  ∀(f:Nat)(ls:Array Bool)(j:Nat)(a:Act)(w:World),ls.toList.count false<=f->MixG D n ops sl0 stg J M Pv ls j a w->anyG WP ops Q f ls a w:=by
 simp only[mixChk,Bool.and_eq_true]at hc
 obtain⟨⟨⟨⟨⟨⟨c1,c2⟩,_⟩,c7⟩,c4⟩,c5⟩,c6⟩:=hc
 rw[List.all_eq_true]at c2 c4 c5
 have hlow:∀i,i<ops.size->∀k∈needsOf ops i,k<i:=fun i hi k hk=>by
  have:=List.all_eq_true.1 (c4 i (List.mem_range.2 hi)) k hk
  simpa[Nat.blt_eq]using this
 have hready:∀(ls:Array Bool)(i:Nat),i∈Region.ready .any ops ls↔ls.getD i true=false∧i<ops.size∧∀k∈needsOf ops i,ls.getD k false=true:=by
  intro ls i
  rw[mem_ready]
  constructor
  ·rintro⟨h0,o,hoi,h1⟩
   refine⟨h0,(Array.getElem?_eq_some_iff.1 hoi).1,fun k hk=>?_⟩
   simp only[needsOf,hoi,List.mem_map,List.mem_filter]at hk
   obtain⟨e,⟨he,hb⟩,rfl⟩:=hk
   exact h1 e (by simpa using he) hb
  ·rintro⟨h0,h1,h2⟩
   refine⟨h0,ops[i],Array.getElem?_eq_getElem h1,fun e he hb=>h2 _ ?_⟩
   simp only[needsOf,Array.getElem?_eq_getElem h1,List.mem_map,List.mem_filter]
   exact⟨e,⟨by simpa using he,hb⟩,rfl⟩
 have hall:∀(ls:Array Bool),ls.size=ops.size->Region.ready .any ops ls=[]->∀i,i<ops.size->ls.getD i false=true:=by
  intro ls hsz hr i
  induction i using Nat.strongRecOn with
  |_ i ih=>
   intro hi
   cases hv:ls.getD i false with
   |true=>rfl
   |false=>
    have h0:ls.getD i true=false:=by simpa[Array.getD,hsz,hi]using hv
    have:i∈Region.ready .any ops ls:=(hready ls i).2 ⟨h0,hi,fun k hk=>ih k (hlow i hi k hk) (Nat.lt_trans (hlow i hi k hk) hi)⟩
    rw[hr]at this
    cases this
 have hfin:∀(ls:Array Bool)(j:Nat)(a:Act)(w:World),Region.ready .any ops ls=[]->MixG D n ops sl0 stg J M Pv ls j a w->Q a w:=by
  intro ls j a w hr hI
  have hA:=hall ls hI.size hr
  have hjJ:j=J:=by
   rcases Nat.eq_zero_or_pos J with h0|hpos
   ·have:=hI.le
    omega
   ·simp only[Bool.or_eq_true,List.any_eq_true]at c6
    rcases c6 with c6|⟨i,hi,hs⟩
    ·have:=Nat.eq_of_beq_eq_true c6
     omega
    ·have hi':=List.mem_range.1 hi
     unfold eqO at hs
     split at hs
     ·rename_i t ht
      have e:=Nat.eq_of_beq_eq_true hs
      subst e
      have:=(hI.stage i _ ht).1 (hA i hi')
      have:=hI.le
      omega
     ·cases hs
  subst hjJ
  refine hQ a w hI.mem ⟨hI.fsize,hI.fdf,fun q v hq=>?_⟩ (fun k hk d hd=>hI.vals k d (hA k (List.mem_range.1 hk)) hd)
  obtain⟨h1,h2⟩:=getS_filter (fun _ _ _=>rfl) sl0 hq
  refine hI.base q v h1 (fun k _ hd=>?_)
  simp only[List.all_eq_true,Bool.not_eq_true']at h2
  have hk:k<ops.size:=by
   unfold dstOf at hd
   rcases Nat.lt_or_ge k ops.size with h'|h'
   ·exact h'
   ·rw[Array.getElem?_eq_none h']at hd
    cases hd
  have h3:=h2 k (List.mem_range.2 hk)
  rw[hd]at h3
  simp[eqO]at h3
 intro f
 induction f with
 |zero=>
  intro ls j a w hcnt hI
  have hr:Region.ready .any ops ls=[]:=by
   rw[List.eq_nil_iff_forall_not_mem]
   intro i hi
   have h1:=getD_of_false ((hready ls i).1 hi).1
   have:=count_set h1.2
   omega
  exact⟨hr,hfin ls j a w hr hI⟩
 |succ f ih=>
  intro ls j a w hcnt hI
  refine⟨fun hr=>hfin ls j a w hr hI,fun i hi=>?_⟩
  obtain⟨h0,hi',hneed⟩:=(hready ls i).1 hi
  obtain⟨_,hls⟩:=getD_of_false h0
  have hcnt':=count_set hls
  have hoi:ops[i]?=some ops[i]:=Array.getElem?_eq_getElem hi'
  have hmemd:∀d,dstOf ops i=some d->d<n:=fun d hd=>by
   have hd':ops[i].dst=some d:=by simpa[dstOf,hoi]using hd
   have hmem:d∈ops.toList.filterMap (·.dst):=List.mem_filterMap.2 ⟨ops[i],by simp,hd'⟩
   have h3:=c2 d hmem
   simp only[Bool.and_eq_true]at h3
   simpa[Nat.blt_eq]using h3.1
  have hfr:FrOk D n (slI ops sl0 i) a:=by
   refine⟨hI.fsize,hI.fdf,fun q v hq=>?_⟩
   obtain⟨h1,h2⟩:=getS_filter (fun _ _ _=>rfl) sl0 hq
   refine hI.base q v h1 (fun k hkl hd=>?_)
   have hk:k<ops.size:=by
    unfold dstOf at hd
    rcases Nat.lt_or_ge k ops.size with h'|h'
    ·exact h'
    ·rw[Array.getElem?_eq_none h']at hd
     cases hd
   have h3:=List.all_eq_true.1 h2 k (List.mem_range.2 hk)
   rw[hd]at h3
   simp only[eqO,Nat.beq_refl,Bool.not_true,Bool.false_or,List.any_eq_true]at h3
   obtain⟨x,hx,hx2⟩:=h3
   have hxi:=Nat.eq_of_beq_eq_true hx2
   subst hxi
   have h4:=hI.closed k hkl i hx
   simp only[Array.getD,hI.size,hi',dif_pos]at h4
   have h5:=(Array.getElem?_eq_some_iff.1 hls).2
   exact absurd (h5.symm.trans h4) (by decide)
  have hunl:¬ls.getD i false=true:=by
   simp only[Array.getD,hI.size,hi',dif_pos]
   have:=(Array.getElem?_eq_some_iff.1 hls).2
   simpa using this
  have hstage:∀s,stgOf stg i=some s->j=s∧s<J:=by
   intro s hs
   have h5:=c5 i (List.mem_range.2 hi')
   rw[hs]at h5
   simp only[Bool.and_eq_true,Bool.or_eq_true,List.any_eq_true,List.all_eq_true]at h5
   obtain⟨⟨h51,h52⟩,_⟩:=h5
   have hsJ:s<J:=by simpa[Nat.blt_eq]using h51
   have hge:¬s<j:=by
    rw[<-hI.stage i s hs]
    exact hunl
   have hle:s<=j:=by
    rcases h52 with h52|⟨k,hk,hk2⟩
    ·have:=Nat.eq_of_beq_eq_true h52
     omega
    ·unfold eqO at hk2
     split at hk2
     ·rename_i t ht
      have e:=Nat.eq_of_beq_eq_true hk2
      subst e
      have:=(hI.stage k _ ht).1 (hneed k hk)
      omega
     ·cases hk2
   exact⟨by omega,hsJ⟩
  have hcap:∀k s,stgOf stg k=some s->i∈needsOf ops k->j<=s:=fun k s hks hik=>by
   rcases Nat.lt_or_ge s j with h1|h1
   ·exact absurd (hI.closed k ((hI.stage k s hks).2 h1) i hik) hunl
   ·exact h1
  refine hcert i hi' j a w _ hI.le hstage hcap hfr (fun k hk d hd=>hI.vals k d (hneed k hk) hd) hI.mem (fun v w' hv hk hm=>ih _ (nextG stg i j) _ w' (by omega) ?_)
  have hold:∀k,k≠i->(ls.setIfInBounds i true).getD k false=true->ls.getD k false=true:=fun k hk h=>by rwa [getD_set_ne false (Ne.symm hk)]at h
  have hnew:∀k,ls.getD k false=true->(ls.setIfInBounds i true).getD k false=true:=fun k h=>getD_set_true h
  have hself:(ls.setIfInBounds i true).getD i false=true:=by simp[Array.getD,hI.size,hi']
  refine⟨?_,?_,fun q u hq hno=>?_,fun k hkl x hx=>?_,by simp[hI.size],fun k d hkl hd=>?_,fun k s hks=>?_,?_,hm⟩
  ·cases dstOf ops i<;>simp[Act.put,hI.fsize]
  ·cases dstOf ops i<;>simp[Act.put,hI.fdf]
  ·have h1:=hI.base q u hq (fun k hk=>hno k (hnew k hk))
   have h2:=hno i hself
   cases hdi:dstOf ops i with
   |none=>exact h1
   |some e=>
    have hne:e≠q:=by
     rintro rfl
     exact h2 hdi
    simp only[Act.put]
    rw[Array.getElem?_setIfInBounds_ne hne]
    exact h1
  ·by_cases hki:k=i
   ·subst hki
    exact hnew x (hneed x hx)
   ·exact hnew x (hI.closed k (hold k hki hkl) x hx)
  ·by_cases hik:k=i
   ·subst hik
    refine⟨v,?_,hv⟩
    rw[hd]
    have hs:=hI.fsize
    have hlt:=hmemd d hd
    simp[Act.put,hs,hlt]
   ·have hk':ls.getD k false=true:=by rwa [getD_set_ne false (Ne.symm hik)]at hkl
    obtain⟨u,hu1,hu2⟩:=hI.vals k d hk' hd
    refine⟨u,?_,hst k u w w' hu2 hk⟩
    cases hdi:dstOf ops i with
    |none=>exact hu1
    |some e=>
     have hne:e≠d:=by
      rintro rfl
      have hkl2:k<ops.size:=by
       unfold dstOf at hd
       rcases Nat.lt_or_ge k ops.size with h'|h'
       ·exact h'
       ·rw[Array.getElem?_eq_none h']at hd
        cases hd
      have h5:ops[k].dst=some e:=by simpa[dstOf,Array.getElem?_eq_getElem hkl2]using hd
      have h6:ops[i].dst=some e:=by simpa[dstOf,hoi]using hdi
      exact hik (filterMap_dst c1 (by simp[Array.getElem?_eq_getElem hkl2]) (by simp[hoi]) h5 h6)
     simp only[Act.put]
     rw[Array.getElem?_setIfInBounds_ne hne]
     exact hu1
  ·unfold nextG
   by_cases hik:i=k
   ·subst hik
    rw[hks]
    have:=hstage s hks
    simp only[Array.getD,Array.size_setIfInBounds,hI.size,hi',dif_pos]
    simp
    omega
   ·rw[getD_set_ne false hik,hI.stage k s hks]
    cases hsi:stgOf stg i with
    |none=>exact Iff.rfl
    |some t=>
     have h6:=hstage t hsi
     have hne:s≠t:=by
      rintro rfl
      have h5:=c5 i (List.mem_range.2 hi')
      rw[hsi]at h5
      simp only[Bool.and_eq_true,List.all_eq_true]at h5
      have hkl:k<ops.size:=by
       have hl:=Nat.eq_of_beq_eq_true c7
       rcases Nat.lt_or_ge k ops.size with h'|h'
       ·exact h'
       ·unfold stgOf at hks
        rw[List.getElem?_eq_none (by omega)]at hks
        cases hks
      have:=h5.2 k (List.mem_range.2 hkl)
      simp only[eqO,hks,Nat.beq_refl,Bool.not_true]at this
      exact hik (Nat.eq_of_beq_eq_true (by simpa using this)).symm
     show s<j↔s<j+1
     omega
  ·unfold nextG
   cases hsi:stgOf stg i with
   |none=>exact hI.le
   |some t=>
    have:=hstage t hsi
    show j+1<=J
    omega
def vkOf(vs:List (Option Value))(k:Nat):Option Value:=(vs[k]?).bind id
def PvG(vs:List (Option Value))(C:Nat->Value->World->Prop)(k:Nat)(v:Value)(w:World):Prop:=match vkOf vs k with
 |some u=>v=u
 |none=>C k v w
def slG(ops:Array Oper)(vs:List (Option Value))(sl0:List (Nat×Value)):List Nat->List (Nat×Value)
 |[]=>sl0
 |k::l=>match dstOf ops k,vkOf vs k with
  |some d,some v=>(d,v)::slG ops vs sl0 l
  |_,_=>slG ops vs sl0 l
def MG(w0:World)(S:Nat->Prop)(ms:List (List Bk))(wn:List Wn)(z0:Nat)(j:Nat)(w:World):Prop:=∃bk,ms[j]?=some bk∧z0<=w.heap.size∧MemOk w0 S bk wn w.heap.size w
section
variable {D:List Deferred}{P:Program}{n:Nat}{w0:World}{S:Nat->Prop}{ops:Array Oper}{sl0:List (Nat×Value)}{vs:List (Option Value)}{C:Nat->Value->World->Prop}{ms:List (List Bk)}{wn:List Wn}{z0:Nat}{stg:List (Option Nat)}{J:Nat}{Q:Exit->Act->World->Prop}{a:Act}{w:World}
theorem knows_slG(h0:FrOk D n sl0 a):∀(l:List Nat),KnowsG ops (PvG vs C) l a w->FrOk D n (slG ops vs sl0 l) a
 |[],_=>h0
 |k::l,hl=>by
  have ih:=knows_slG h0 l (fun x hx=>hl x (List.mem_cons_of_mem _ hx))
  simp only[slG]
  split
  ·rename_i d v hd hv
   refine⟨ih.size,ih.df,fun i u hi=>?_⟩
   simp only[getS]at hi
   split at hi
   ·rename_i he
    have he':d=i:=Nat.eq_of_beq_eq_true he
    subst he'
    simp only[Option.some.injEq]at hi
    subst hi
    obtain⟨x,hx1,hx2⟩:=hl k (List.mem_cons_self ..) d hd
    simp only[PvG,hv]at hx2
    rw[hx1,hx2]
   ·exact ih.val i u hi
  ·exact ih
theorem opV_soundW{o:Oper}{st:St}{h:OH}{ob:List Prop}{es:List ((Nat×Nat)×(Nat×Nat))}{v:Value}{bk:List Bk}{sz:Nat}(he:opV P o st h=some (ob,es,v,bk,sz))(ho:All ob)(hg:Good es)(hf:FrOk D n st.sl a)(hm:MemOk w0 S st.bk st.wn st.sz w)
  {K:Act->World->Prop} (hK:∀w',MemOk w0 S bk st.wn sz w'->K (a.put o.dst v) w'):o.wp P a w K Q:=by
 unfold opV at he
 split at he
 ·rename_i hk
  have e:execOp a.eval o=execOp (rho st.sl) o:=hf.rho hk
  split at he
  ·split at he
   ·rename_i v' bk' sz' es' hr
    simp only[Option.some.injEq,Prod.mk.injEq]at he
    obtain⟨rfl,rfl,rfl,rfl,rfl⟩:=he
    obtain⟨w',h1,h2⟩:=runS_sound P _ _ _ _ w _ hr hg hm
    simp only[Oper.wp,e,h1,Oper.upon_value]
    exact hK _ h2
   ·rename_i bk' sz' es' hr
    simp only[Option.some.injEq,Prod.mk.injEq]at he
    obtain⟨rfl,rfl,rfl,rfl,rfl⟩:=he
    obtain⟨w',h1,h2⟩:=runS_sound P _ _ _ _ w _ hr hg hm
    simp only[Oper.wp,e,h1,Oper.upon_skip]
    exact hK _ h2
   ·cases he
  ·split at he
   ·rename_i v' p hov
    simp only[Option.some.injEq,Prod.mk.injEq]at he
    obtain⟨rfl,rfl,rfl,rfl,rfl⟩:=he
    have h1:=ov_sound hov ho.1 w
    simp only[Oper.wp,e,h1,Oper.upon_value]
    exact hK _ hm
   ·cases he
 ·cases he
theorem opG_soundW{i:Nat}{st:St}{h:OH}{ob:List Prop}{es:List ((Nat×Nat)×(Nat×Nat))}{v:Value}{bk:List Bk}{sz:Nat}(he:opG P ops st i h=some (ob,es,v,bk,sz))(ho:All ob)(hg:Good es)(hf:FrOk D n st.sl a)(hm:MemOk w0 S st.bk st.wn st.sz w)
  {K:Act->World->Prop} (hK:∀w',MemOk w0 S bk st.wn sz w'->K (a.put (dstOf ops i) v) w'):wpOp P ops Q i K a w:=by
 unfold opG at he
 split at he
 ·cases he
 ·rename_i o hoi
  have hd:dstOf ops i=o.dst:=by simp[dstOf,hoi]
  rw[hd]at hK
  simp only[wpOp,hoi]
  split at he
  ·rename_i hgd
   have hw:Region.wanted o (yielded ops a.tmps)=true:=by simp[Region.wanted,hgd]
   rw[if_pos hw]
   exact .inl (opV_soundW he ho hg hf hm hK)
  ·rename_i j want hgd
   split at he
   ·cases he
   ·rename_i t ht
    have ht':(ops[j]?).bind (·.dst)=some t:=ht
    split at he
    ·rename_i c hc
     have hy:yielded ops a.tmps j=some c:=by
      have:=hf.val t _ hc
      simp[yielded,ht',this]
     split at he
     ·rename_i hd
      cases hx:opV P o st h with
      |none=>rw[hx]at he; cases he
      |some r=>
       obtain⟨ob',r'⟩:=r
       rw[hx]at he
       simp only[askV,Option.some.injEq,Prod.mk.injEq]at he
       obtain⟨rfl,rfl⟩:=he
       have hw:Region.wanted o (yielded ops a.tmps)=true:=by
        have h1:c=h.dec:=ho.1
        have h2:h.dec=want:=by simpa using hd
        simp[Region.wanted,hgd,hy,h1,h2]
       rw[if_pos hw]
       exact .inl (opV_soundW hx ho.2 hg hf hm hK)
     ·rename_i hd
      simp only[Option.some.injEq,Prod.mk.injEq]at he
      obtain⟨rfl,rfl,rfl,rfl,rfl⟩:=he
      have hw:¬Region.wanted o (yielded ops a.tmps)=true:=by
       have h1:c=h.dec:=ho.1
       have h2:¬h.dec=want:=by simpa using hd
       simp[Region.wanted,hgd,hy,h1,h2]
      rw[if_neg hw]
      exact hK _ hm
    ·rename_i vs hc
     have hy:yielded ops a.tmps j=none:=by
      have:=hf.val t _ hc
      simp[yielded,ht',this]
     have hw:¬Region.wanted o (yielded ops a.tmps)=true:=by simp[Region.wanted,hgd,hy]
     rw[if_neg hw]
     simp only[Option.some.injEq,Prod.mk.injEq]at he
     obtain⟨rfl,rfl,rfl,rfl,rfl⟩:=he
     exact hK _ hm
    ·cases he
def regEnt(P:Program)(ops:Array Oper)(sl0:List (Nat×Value))(vs:List (Option Value))(ms:List (List Bk))(wn:List Wn)(sz:Nat)(i:Nat)(h:OH)(j:Nat):Option OV:=
 match ms[j]? with
 |some bk=>opG P ops ⟨slG ops vs sl0 (needsOf ops i),bk,wn,sz⟩ i h
 |none=>none
def regExp(vs:List (Option Value))(ms:List (List Bk))(sz:Nat)(i:Nat)(ob:List Prop)(rs:List (Nat×Nat×Nat))(j:Nat):Option OV:=
 match vkOf vs i,ms[j]? with
 |some v,some bk=>some (ob,dupR rs,v,bk,sz)
 |_,_=>none
def rowsOf(ms:List (List Bk)):List (List (Nat×Bool)):=ms.map fun b=>b.map fun x=>(x.g,x.rw)
theorem rows_at{l:List (Nat×Bool)}(h:rowsOf ms=List.replicate (J+1) l){j:Nat}{bk:List Bk}(hb:ms[j]?=some bk):bk.map (fun x=>(x.g,x.rw))=l:=by
 have h1:=congrArg (fun l=>l[j]?) h
 simp only[rowsOf,List.getElem?_map,hb,Option.map_some]at h1
 exact List.eq_of_mem_replicate (List.mem_of_getElem? h1.symm)
theorem turned_same{bk bk':List Bk}(h:bk'.map (fun b=>(b.g,b.rw))=bk.map (fun b=>(b.g,b.rw))):Turned bk'=Turned bk:=by
 funext y
 apply propext
 have h1:∀(l:List Bk),Turned l y↔(y,true)∈l.map (fun b=>(b.g,b.rw)):=fun l=>by
  simp only[Turned,List.mem_map,Prod.mk.injEq]
  exact⟨fun⟨b,h1,h2,h3⟩=>⟨b,h1,h3,h2⟩,fun⟨b,h1,h2,h3⟩=>⟨b,h1,h3,h2⟩⟩
 rw[h1,h1,h]
theorem cert_reg{bk0:List Bk}(hrow:rowsOf ms=List.replicate (J+1) (bk0.map fun x=>(x.g,x.rw))){i:Nat}{h:OH}{ob:List Prop}{rs:List (Nat×Nat×Nat)}{v:Value}(hs:stgOf stg i=none)(hv:vkOf vs i=some v)
  (he:∀sz,(List.range (J+1)).map (regEnt P ops sl0 vs ms wn sz i h)=(List.range (J+1)).map (regExp vs ms sz i ob rs)) (ho:All ob):CertG (wpOp P ops Q) D n ops sl0 stg J (MG w0 S ms wn z0) (Turned bk0) (PvG vs C) i:=by
 intro j a w K hj _ _ hf hk hm hK
 obtain⟨bk,hb,hz,hM⟩:=hm
 have h1:=congrArg (fun l=>l[j]?) (he w.heap.size)
 simp only[List.getElem?_map,List.getElem?_range (show j<J+1 by omega),Option.map_some,Option.some.injEq,regEnt,regExp,hb]at h1
 rw[hv]at h1
 have hT:=turned_same (rows_at hrow hb)
 refine opG_soundW (w0:=w) (S:=Turned bk) h1 ho (dupR_good _) (knows_slG hf _ hk) hM.again (fun w' hm'=>?_)
 have hm2:MemOk w (Turned bk) bk wn w'.heap.size w':=by rw[hm'.size]; exact hm'
 refine hK v w' (by simp only[PvG,hv]) (hT▸hm'.kept) ⟨bk,?_,Nat.le_trans hz hm'.kept.size,hM.onto hm2 rfl⟩
 unfold nextG
 rw[hs]
 exact hb
structure RegE where
 i:Nat
 h:OH
 es:List Ev
 rs:List (Nat×Nat×Nat)
def rZs(l:List Nat):List RegE:=l.map fun i=>⟨i,oh0,[],[]⟩
theorem certs_reg{bk0:List Bk}(hrow:rowsOf ms=List.replicate (J+1) (bk0.map fun x=>(x.g,x.rw)))(L:List RegE)
  (he:∀sz,L.map (fun e=>(stgOf stg e.i,(vkOf vs e.i).isSome,(List.range (J+1)).map (regEnt P ops (slI ops sl0 e.i) vs ms wn sz e.i e.h)))=L.map (fun e=>(none,true,(List.range (J+1)).map (regExp vs ms sz e.i (obE e.es) e.rs)))) :
  ∀e∈L,CertG (wpOp P ops Q) D n ops (slI ops sl0 e.i) stg J (MG w0 S ms wn z0) (Turned bk0) (PvG vs C) e.i:=by
 intro e hm
 have h1:=fun sz=>List.map_inj_left.1 (he sz) e hm
 have h2:=h1 0
 simp only[Prod.mk.injEq]at h2
 obtain⟨v,hv⟩:=Option.isSome_iff_exists.1 h2.2.1
 refine cert_reg (h:=e.h) (rs:=e.rs) hrow h2.1 hv (fun sz=>?_) (allE e.es)
 have h3:=h1 sz
 simp only[Prod.mk.injEq]at h3
 exact h3.2.2
theorem certs_mix{N:Nat}{p:Nat->Prop}{L:List RegE}(hL:∀e∈L,p e.i)(l:List Nat)(hl:All (l.map p))(hc:(List.range N).all (fun i=>L.any (fun e=>Nat.beq e.i i)||l.any (Nat.beq i))=true):∀i,i<N->p i:=by
 have key:∀(l:List Nat),All (l.map p)->∀i∈l,p i:=by
  intro l
  induction l with
  |nil=>intro _ i hi; cases hi
  |cons x l ih=>
   intro h i hi
   rcases List.mem_cons.1 hi with rfl|hi
   ·exact h.1
   ·exact ih h.2 i hi
 intro i hi
 have h1:=List.all_eq_true.1 hc i (List.mem_range.2 hi)
 simp only[Bool.or_eq_true,List.any_eq_true]at h1
 rcases h1 with⟨e,he,hb⟩|⟨x,hx,hb⟩
 ·have:=Nat.eq_of_beq_eq_true hb
  subst this
  exact hL e he
 ·have:=Nat.eq_of_beq_eq_true hb
  subst this
  exact key l hl i hx
theorem cert_store{bk0:List Bk}(hrow:rowsOf ms=List.replicate (J+1) (bk0.map fun x=>(x.g,x.rw))){i s:Nat}{h:OH}{ob:List Prop}{rs:List (Nat×Nat×Nat)}{bk bk':List Bk}{v:Value}(hs:stgOf stg i=some s)(hb:ms[s]?=some bk)(hb':ms[s+1]?=some bk')(hv:vkOf vs i=some v)
  (he:∀sz,opG P ops ⟨slG ops vs sl0 (needsOf ops i),bk,wn,sz⟩ i h=some (ob,dupR rs,v,bk',sz)) (ho:All ob):CertG (wpOp P ops Q) D n ops sl0 stg J (MG w0 S ms wn z0) (Turned bk0) (PvG vs C) i:=by
 intro j a w K hj hjs _ hf hk hm hK
 obtain⟨bk1,hb1,hz,hM⟩:=hm
 obtain⟨rfl,_⟩:=hjs s hs
 rw[hb]at hb1
 cases hb1
 have hT:=turned_same (rows_at hrow hb)
 refine opG_soundW (w0:=w) (S:=Turned bk) (he w.heap.size) ho (dupR_good _) (knows_slG hf _ hk) hM.again (fun w' hm'=>?_)
 have hm2:MemOk w (Turned bk) bk' wn w'.heap.size w':=by rw[hm'.size]; exact hm'
 refine hK v w' (by simp only[PvG,hv]) (hT▸hm'.kept) ⟨bk',?_,Nat.le_trans hz hm'.kept.size,hM.onto hm2 ((rows_at hrow hb').trans (rows_at hrow hb).symm)⟩
 unfold nextG
 rw[hs]
 exact hb'
theorem MG.same{j:Nat}{w w':World}(hm:MG w0 S ms wn z0 j w)(hk:Kept (fun _=>False) w w'):MG w0 S ms wn z0 j w':=by
 obtain⟨bk,hb,hz,hM⟩:=hm
 have h1:=hM.same hk
 exact⟨bk,hb,Nat.le_trans hz hk.size,h1.2⟩
theorem cert_call{bk0:List Bk}{i:Nat}{f:FuncId}{args:List Value}{ob:List Prop}{v:Value}(hs:stgOf stg i=none)(hv:vkOf vs i=some v)
  (h:callAt P ops (slG ops vs sl0 (needsOf ops i)) i=some (f,args,dstOf ops i,ob)) (ho:All ob) (hc:∀j w,j<=J->MG w0 S ms wn z0 j w->Calls P f args.toArray w (RetK v w)):CertG (wpOp P ops Q) D n ops sl0 stg J (MG w0 S ms wn z0) (Turned bk0) (PvG vs C) i:=by
 intro j a w K hj _ _ hf hk hm hK
 refine callAt_wpOp h ho (knows_slG hf _ hk) ((hc j w hj hm).mono fun e w' he=>?_)
 obtain⟨h2,h3⟩:=he
 refine⟨v,h2,hK v w' (by simp only[PvG,hv]) (h3.mono (fun _ _ h=>h.elim)) ?_⟩
 unfold nextG
 rw[hs]
 exact hm.same h3
theorem cert_op{bk0:List Bk}{i:Nat}
  (h:∀j a w,j<=J->(∀s,stgOf stg i=some s->j=s∧s<J)->(∀k s,stgOf stg k=some s->i∈needsOf ops k->j<=s)->FrOk D n (slG ops vs sl0 (needsOf ops i)) a->KnowsG ops (PvG vs C) (needsOf ops i) a w->MG w0 S ms wn z0 j w ->
   ∃sl x v w',FrOk D n sl a∧dstAt ops sl i=some (dstOf ops i)∧semAt ops sl i=some (asV x)∧x.run P w=.ok v w'∧PvG vs C i v w'∧Kept (Turned bk0) w w'∧MG w0 S ms wn z0 (nextG stg i j) w') :
  CertG (wpOp P ops Q) D n ops sl0 stg J (MG w0 S ms wn z0) (Turned bk0) (PvG vs C) i:=by
 intro j a w K hj hjs hcap hf hk hm hK
 obtain⟨sl,x,v,w',hsl,hd,hx,hr,hp,hkk,hm'⟩:=h j a w hj hjs hcap (knows_slG hf _ hk) hk hm
 unfold dstAt at hd
 unfold semAt at hx
 split at hd
 ·rename_i o ho
  simp only[ho,Option.some.injEq]at hx
  split at hd
  ·rename_i hg
   split at hd
   ·rename_i hkn
    simp only[Option.some.injEq]at hd
    have hw:Region.wanted o (yielded ops a.tmps)=true:=by simp[Region.wanted,hg]
    simp only[wpOp,ho,if_pos hw]
    refine .inl ?_
    have h5:(execOp a.eval o).run P w=.ok (.value v) w':=by
     rw[hsl.rho hkn,hx]
     simp only[asV,Sem.run_bind,hr,Result.andThen_ok,Sem.run_pure]
    simp only[Oper.wp,h5,Oper.upon_value]
    rw[hd]
    exact hK v w' hp hkk hm'
   ·cases hd
  ·cases hd
 ·cases hd
theorem MemOk.less{bk nb:List Bk}{sz:Nat}(h:MemOk w0 S (bk++nb) wn sz w):MemOk w0 S bk wn sz w:=
 ⟨h.size,fun b hb=>h.blk b (List.mem_append_left _ hb),fun b hb=>h.own b (List.mem_append_left _ hb),by have:=h.nd; rw[List.map_append,List.nodup_append]at this; exact this.1,h.kept,h.win⟩
theorem holds_mixG{body:Code}{p:List Nat}{k:List KI}{st:St}{vs:List (Option Value)}(C:Nat->Value->World->Prop){ms:List (List Bk)}{stg:List (Option Nat)}{J:Nat}(ks:List Nat){sl':List (Nat×Value)}{bk':List Bk}
  (hc:isDraw (getCode body p)=true) (hmx:P.follows .mixedOrders=true) (h1:mixChk n (opsOf (getCode body p)) [] (opsOf (getCode body p)).size J stg=true)
  (hst:∀k v w w',C k v w->Kept (Turned st.bk) w w'->C k v w')
  (hcert:∀i,i<(opsOf (getCode body p)).size->CertG (wpOp P (opsOf (getCode body p)) (sem P body Q k)) D n (opsOf (getCode body p)) (slI (opsOf (getCode body p)) st.sl i) stg J (MG w0 S ms st.wn st.sz) (Turned st.bk) (PvG vs C) i)
  (h0:ms[0]?=some st.bk) (hJ:ms[J]?=some bk')
  (hsl:keepS (slG (opsOf (getCode body p)) vs (slE (opsOf (getCode body p)) st.sl) (List.range (opsOf (getCode body p)).size)) ks=sl')
  (hh:∀sz,st.sz<=sz->Holds D P body n w0 S Q k ⟨sl',bk',st.wn,sz⟩):Holds D P body n w0 S Q (.code p::k) st:=by
 intro a w hf hm
 obtain⟨id,hc⟩:=draw_of hc
 subst hsl
 simp only[sem]
 rw[hc]
 refine wp_region_any hmx ?_
 rw[wpAny_anyG]
 have e:∀i,(Array.replicate (opsOf (getCode body p)).size false).getD i false=false:=fun i=>by
  simp only[Array.getD]
  split
  ·simp
  ·rfl
 refine anyMixG h1 (fun k v w w' hv hk=>?_) hcert ?_ _ _ 0 a _ (by simp) ⟨hf.size,hf.df,fun q v hq _=>hf.val q v hq,fun k hk=>(by rw[e]at hk; cases hk),by simp,fun i d hi=>(by rw[e]at hi; cases hi),fun i s _=>(by rw[e]; exact⟨fun h=>(by cases h),fun h=>(by omega)⟩),Nat.zero_le _,st.bk,h0,Nat.le_of_eq hm.size.symm,rfl,hm.blk,hm.own,hm.nd,hm.kept.drew,hm.win⟩
 ·unfold PvG at *
  split at hv
  ·exact hv
  ·exact hst _ _ _ _ hv hk
 ·intro a' w' hM hf' hk'
  obtain⟨bk,hb,hz,hM⟩:=hM
  rw[hJ]at hb
  cases hb
  have h2:=knows_slG hf' _ hk'
  exact hh _ hz a' w' ⟨h2.size,h2.df,fun i v hi=>h2.val i v (getS_keepS ks i v hi)⟩ hM
end
def rG(i a b c g:Nat):RegE:=⟨i,oA a b c,[],[(g,b,c)]⟩
end Go.Proofs.YtcmpkkapkdlfhaaGreat
