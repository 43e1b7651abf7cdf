import Derived.Test.YtcmpkkapkdlfhaaGreatEngN
namespace Go.Proofs.YtcmpkkapkdlfhaaGreat
open Go.RowKit
theorem ready_iff{ops:Array Oper}:∀(ls:Array Bool)(i:Nat),i∈Region.ready .any ops ls↔ls.getD i true=false∧i<ops.size∧∀k∈needsOf ops i,ls.getD k false=true:=by
 intro ls i
 rw[mem_ready]
 constructor
 ·rintro⟨h0,o,hoi,h1⟩
  refine⟨h0,(Array.getElem?_eq_some_iff.1 hoi).1,fun k hk=>?_⟩
  simp only[needsOf,hoi,List.mem_map,List.mem_filter]at hk
  obtain⟨e,⟨he,hb⟩,rfl⟩:=hk
  exact h1 e (by simpa using he) hb
 ·rintro⟨h0,h1,h2⟩
  refine⟨h0,ops[i],Array.getElem?_eq_getElem h1,fun e he hb=>h2 _ ?_⟩
  simp only[needsOf,Array.getElem?_eq_getElem h1,List.mem_map,List.mem_filter]
  exact⟨e,⟨by simpa using he,hb⟩,rfl⟩
theorem all_ready{n:Nat}{ops:Array Oper}{stg:List (Option Nat)}{J:Nat}(hc:mixChk n ops [] ops.size J stg=true):∀(ls:Array Bool),ls.size=ops.size->Region.ready .any ops ls=[]->∀i,i<ops.size->ls.getD i false=true:=by
 simp only[mixChk,Bool.and_eq_true]at hc
 obtain⟨⟨⟨⟨⟨⟨c1,c2⟩,_⟩,c7⟩,c4⟩,c5⟩,c6⟩:=hc
 rw[List.all_eq_true]at c2 c4 c5
 have hlow:∀i,i<ops.size->∀k∈needsOf ops i,k<i:=fun i hi k hk=>by
  have:=List.all_eq_true.1 (c4 i (List.mem_range.2 hi)) k hk
  simpa[Nat.blt_eq]using this
 intro ls hsz hr i
 induction i using Nat.strongRecOn with
 |_ i ih=>
  intro hi
  cases hv:ls.getD i false with
  |true=>rfl
  |false=>
   have h0:ls.getD i true=false:=by simpa[Array.getD,hsz,hi]using hv
   have:i∈Region.ready .any ops ls:=(ready_iff ls i).2 ⟨h0,hi,fun k hk=>ih k (hlow i hi k hk) (Nat.lt_trans (hlow i hi k hk) hi)⟩
   rw[hr]at this
   cases this
theorem mix_step{WP:Nat->(Act->World->Prop)->Act->World->Prop}{D:List Deferred}{n:Nat}{ops:Array Oper}{sl0:List (Nat×Value)}{stg:List (Option Nat)}{J:Nat}{M:Nat->World->Prop}{T:Nat->Prop}{Pv:Nat->Value->World->Prop}
  (hc:mixChk n ops [] ops.size J stg=true) (hst:∀k v w w',Pv k v w->Kept T w w'->Pv k v w') {i:Nat} (hcert:CertG WP D n ops (slI ops sl0 i) stg J M T Pv i)
  {ls:Array Bool} {j:Nat} {a:Act} {w:World} {K:Act->World->Prop} (hI:MixG D n ops sl0 stg J M Pv ls j a w) (hi:i∈Region.ready .any ops ls) (hK:∀j' a' w',MixG D n ops sl0 stg J M Pv (ls.setIfInBounds i true) j' a' w'->K a' w'):WP i K a w:=by
 simp only[mixChk,Bool.and_eq_true]at hc
 obtain⟨⟨⟨⟨⟨⟨c1,c2⟩,_⟩,c7⟩,c4⟩,c5⟩,c6⟩:=hc
 rw[List.all_eq_true]at c2 c4 c5
 obtain⟨h0,hi',hneed⟩:=(ready_iff ls i).1 hi
 obtain⟨_,hls⟩:=getD_of_false h0
 have hoi:ops[i]?=some ops[i]:=Array.getElem?_eq_getElem hi'
 have hmemd:∀d,dstOf ops i=some d->d<n:=fun d hd=>by
  have hd':ops[i].dst=some d:=by simpa[dstOf,hoi]using hd
  have hmem:d∈ops.toList.filterMap (·.dst):=List.mem_filterMap.2 ⟨ops[i],by simp,hd'⟩
  have h3:=c2 d hmem
  simp only[Bool.and_eq_true]at h3
  simpa[Nat.blt_eq]using h3.1
 have hfr:FrOk D n (slI ops sl0 i) a:=by
  refine⟨hI.fsize,hI.fdf,fun q v hq=>?_⟩
  obtain⟨h1,h2⟩:=getS_filter (fun _ _ _=>rfl) sl0 hq
  refine hI.base q v h1 (fun k hkl hd=>?_)
  have hk:k<ops.size:=by
   unfold dstOf at hd
   rcases Nat.lt_or_ge k ops.size with h'|h'
   ·exact h'
   ·rw[Array.getElem?_eq_none h']at hd
    cases hd
  have h3:=List.all_eq_true.1 h2 k (List.mem_range.2 hk)
  rw[hd]at h3
  simp only[eqO,Nat.beq_refl,Bool.not_true,Bool.false_or,List.any_eq_true]at h3
  obtain⟨x,hx,hx2⟩:=h3
  have hxi:=Nat.eq_of_beq_eq_true hx2
  subst hxi
  have h4:=hI.closed k hkl i hx
  simp only[Array.getD,hI.size,hi',dif_pos]at h4
  have h5:=(Array.getElem?_eq_some_iff.1 hls).2
  exact absurd (h5.symm.trans h4) (by decide)
 have hunl:¬ls.getD i false=true:=by
  simp only[Array.getD,hI.size,hi',dif_pos]
  have:=(Array.getElem?_eq_some_iff.1 hls).2
  simpa using this
 have hstage:∀s,stgOf stg i=some s->j=s∧s<J:=by
  intro s hs
  have h5:=c5 i (List.mem_range.2 hi')
  rw[hs]at h5
  simp only[Bool.and_eq_true,Bool.or_eq_true,List.any_eq_true,List.all_eq_true]at h5
  obtain⟨⟨h51,h52⟩,_⟩:=h5
  have hsJ:s<J:=by simpa[Nat.blt_eq]using h51
  have hge:¬s<j:=by
   rw[<-hI.stage i s hs]
   exact hunl
  have hle:s<=j:=by
   rcases h52 with h52|⟨k,hk,hk2⟩
   ·have:=Nat.eq_of_beq_eq_true h52
    omega
   ·unfold eqO at hk2
    split at hk2
    ·rename_i t ht
     have e:=Nat.eq_of_beq_eq_true hk2
     subst e
     have:=(hI.stage k _ ht).1 (hneed k hk)
     omega
    ·cases hk2
  exact⟨by omega,hsJ⟩
 have hcap:∀k s,stgOf stg k=some s->i∈needsOf ops k->j<=s:=fun k s hks hik=>by
  rcases Nat.lt_or_ge s j with h1|h1
  ·exact absurd (hI.closed k ((hI.stage k s hks).2 h1) i hik) hunl
  ·exact h1
 refine hcert j a w _ hI.le hstage hcap hfr (fun k hk d hd=>hI.vals k d (hneed k hk) hd) hI.mem (fun v w' hv hk hm=>hK (nextG stg i j) _ w' ?_)
 have hold:∀k,k≠i->(ls.setIfInBounds i true).getD k false=true->ls.getD k false=true:=fun k hk h=>by rwa [getD_set_ne false (Ne.symm hk)]at h
 have hnew:∀k,ls.getD k false=true->(ls.setIfInBounds i true).getD k false=true:=fun k h=>getD_set_true h
 have hself:(ls.setIfInBounds i true).getD i false=true:=by simp[Array.getD,hI.size,hi']
 refine⟨?_,?_,fun q u hq hno=>?_,fun k hkl x hx=>?_,by simp[hI.size],fun k d hkl hd=>?_,fun k s hks=>?_,?_,hm⟩
 ·cases dstOf ops i<;>simp[Act.put,hI.fsize]
 ·cases dstOf ops i<;>simp[Act.put,hI.fdf]
 ·have h1:=hI.base q u hq (fun k hk=>hno k (hnew k hk))
  have h2:=hno i hself
  cases hdi:dstOf ops i with
  |none=>exact h1
  |some e=>
   have hne:e≠q:=by
    rintro rfl
    exact h2 hdi
   simp only[Act.put]
   rw[Array.getElem?_setIfInBounds_ne hne]
   exact h1
 ·by_cases hki:k=i
  ·subst hki
   exact hnew x (hneed x hx)
  ·exact hnew x (hI.closed k (hold k hki hkl) x hx)
 ·by_cases hik:k=i
  ·subst hik
   refine⟨v,?_,hv⟩
   rw[hd]
   have hs:=hI.fsize
   have hlt:=hmemd d hd
   simp[Act.put,hs,hlt]
  ·have hk':ls.getD k false=true:=by rwa [getD_set_ne false (Ne.symm hik)]at hkl
   obtain⟨u,hu1,hu2⟩:=hI.vals k d hk' hd
   refine⟨u,?_,hst k u w w' hu2 hk⟩
   cases hdi:dstOf ops i with
   |none=>exact hu1
   |some e=>
    have hne:e≠d:=by
     rintro rfl
     have hkl2:k<ops.size:=by
      unfold dstOf at hd
      rcases Nat.lt_or_ge k ops.size with h'|h'
      ·exact h'
      ·rw[Array.getElem?_eq_none h']at hd
       cases hd
     have h5:ops[k].dst=some e:=by simpa[dstOf,Array.getElem?_eq_getElem hkl2]using hd
     have h6:ops[i].dst=some e:=by simpa[dstOf,hoi]using hdi
     exact hik (filterMap_dst c1 (by simp[Array.getElem?_eq_getElem hkl2]) (by simp[hoi]) h5 h6)
    simp only[Act.put]
    rw[Array.getElem?_setIfInBounds_ne hne]
    exact hu1
 ·unfold nextG
  by_cases hik:i=k
  ·subst hik
   rw[hks]
   have:=hstage s hks
   simp only[Array.getD,Array.size_setIfInBounds,hI.size,hi',dif_pos]
   simp
   omega
  ·rw[getD_set_ne false hik,hI.stage k s hks]
   cases hsi:stgOf stg i with
   |none=>exact Iff.rfl
   |some t=>
    have h6:=hstage t hsi
    have hne:s≠t:=by
     rintro rfl
     have h5:=c5 i (List.mem_range.2 hi')
     rw[hsi]at h5
     simp only[Bool.and_eq_true,List.all_eq_true]at h5
     have hkl:k<ops.size:=by
      have hl:=Nat.eq_of_beq_eq_true c7
      rcases Nat.lt_or_ge k ops.size with h'|h'
      ·exact h'
      ·unfold stgOf at hks
       rw[List.getElem?_eq_none (by omega)]at hks
       cases hks
     have:=h5.2 k (List.mem_range.2 hkl)
     simp only[eqO,hks,Nat.beq_refl,Bool.not_true]at this
     exact hik (Nat.eq_of_beq_eq_true (by simpa using this)).symm
    show s<j↔s<j+1
    omega
 ·unfold nextG
  cases hsi:stgOf stg i with
  |none=>exact hI.le
  |some t=>
   have:=hstage t hsi
   show j+1<=J
   omega
def reachG(ops:Array Oper)(h:Nat):Nat->Nat->Bool
 |0,_=>false
 |f+1,i=>(needsOf ops i).any fun k=>Nat.beq k h||reachG ops h f k
def headChk(ops:Array Oper)(H:List Nat)(e:Nat):Bool:=(List.range ops.size).all fun i=>(e::H).any (Nat.beq i)||H.all fun h=>reachG ops h ops.size i
theorem reach_done{ops:Array Oper}{ls:Array Bool}{h:Nat}(hcl:∀k,ls.getD k false=true->∀i∈needsOf ops k,ls.getD i false=true):∀(f i:Nat),(∀k∈needsOf ops i,ls.getD k false=true)->reachG ops h f i=true->ls.getD h false=true
 |0,_,_,hr=>by simp[reachG]at hr
 |f+1,i,hn,hr=>by
  simp only[reachG,List.any_eq_true,Bool.or_eq_true]at hr
  obtain⟨k,hk,h1|h1⟩:=hr
  ·rw[<-Nat.eq_of_beq_eq_true h1]
   exact hn k hk
  ·exact reach_done hcl f k (hcl k (hn k hk)) h1
theorem anyMixH{WP:Nat->(Act->World->Prop)->Act->World->Prop}{D:List Deferred}{n:Nat}{ops:Array Oper}{sl0:List (Nat×Value)}{stg:List (Option Nat)}{J:Nat}{M:Nat->World->Prop}{T:Nat->Prop}{Pv:Nat->Value->World->Prop}{Q:Act->World->Prop}(H:List Nat)(e:Nat)
  (hc:mixChk n ops [] ops.size J stg=true) (hst:∀k v w w',Pv k v w->Kept T w w'->Pv k v w') (hcert:∀i∈e::H,CertG WP D n ops (slI ops sl0 i) stg J M T Pv i) (hch:headChk ops H e=true) (hsz:∀h∈H,h<ops.size)
  (hQ:∀f ls j a w,ls.toList.count false=f->(∀h∈H,ls.getD h false=true)->(∀k,ls.getD k false=true->k∈e::H)->MixG D n ops sl0 stg J M Pv ls j a w->anyG WP ops Q f ls a w) :
  ∀(f:Nat)(ls:Array Bool)(j:Nat)(a:Act)(w:World),ls.toList.count false=f->(∀k,ls.getD k false=true->k∈e::H)->MixG D n ops sl0 stg J M Pv ls j a w->anyG WP ops Q f ls a w:=by
 intro f
 induction f with
 |zero=>
  intro ls j a w hcnt hE hI
  refine hQ 0 ls j a w hcnt (fun h hh=>?_) hE hI
  cases hv:ls.getD h false with
  |true=>rfl
  |false=>
   have h0:ls.getD h true=false:=by simpa[Array.getD,hI.size,hsz h hh]using hv
   have h1:=getD_of_false h0
   have:=count_set h1.2
   omega
 |succ f ih=>
  intro ls j a w hcnt hE hI
  by_cases hall:∀h∈H,ls.getD h false=true
  ·exact hQ _ ls j a w hcnt hall hE hI
  ·refine⟨fun hr=>absurd (fun h hh=>all_ready hc ls hI.size hr h (hsz h hh)) hall,fun i hi=>?_⟩
   obtain⟨h0,hi',hneed⟩:=(ready_iff ls i).1 hi
   have hiH:i∈e::H:=by
    have h1:=List.all_eq_true.1 hch i (List.mem_range.2 hi')
    simp only[Bool.or_eq_true,List.any_eq_true,List.all_eq_true]at h1
    rcases h1 with⟨x,hx,hx2⟩|h1
    ·rw[Nat.eq_of_beq_eq_true hx2]
     exact hx
    ·exact absurd (fun h hh=>reach_done hI.closed _ i hneed (h1 h hh)) hall
   have hcnt':=count_set (getD_of_false h0).2
   refine mix_step hc hst (hcert i hiH) hI hi (fun j' a' w' hI'=>ih _ j' a' w' (by omega) (fun k hk=>?_) hI')
   by_cases hki:k=i
   ·subst hki
    exact hiH
   ·exact hE k (by rwa [getD_set_ne false (Ne.symm hki)]at hk)
theorem certs_mixL{p:Nat->Prop}{L:List RegE}(HS:List Nat)(hL:∀e∈L,p e.i)(l:List Nat)(hl:All (l.map p))(hc:HS.all (fun i=>L.any (fun e=>Nat.beq e.i i)||l.any (Nat.beq i))=true):∀i∈HS,p i:=by
 intro i hi
 have h1:=List.all_eq_true.1 hc i hi
 simp only[Bool.or_eq_true,List.any_eq_true]at h1
 rcases h1 with⟨e,he,h2⟩|⟨k,hk,h2⟩
 ·rw[<-Nat.eq_of_beq_eq_true h2]
  exact hL e he
 ·rw[Nat.eq_of_beq_eq_true h2]
  have:∀(l:List Nat),All (l.map p)->∀i∈l,p i:=by
   intro l
   induction l with
   |nil=>intro _ i hi; cases hi
   |cons x l ih=>
    intro h i hi
    rcases List.mem_cons.1 hi with rfl|hi
    ·exact h.1
    ·exact ih h.2 i hi
  exact this l hl k hk
theorem ls_of{ls lsH:Array Bool}{N:Nat}{H:List Nat}(hsz:ls.size=N)(hl:(List.range N).map (fun i=>H.any (Nat.beq i))=lsH.toList)(h1:∀h∈H,ls.getD h false=true)(h2:∀k,ls.getD k false=true->k∈H):ls=lsH:=by
 apply Array.toList_inj.1
 rw[<-hl]
 apply List.ext_getElem (by simp[hsz])
 intro i hi _
 have hi':i<ls.size:=by simpa using hi
 rw[List.getElem_map,List.getElem_range]
 have e:ls.getD i false=ls[i]:=by simp[Array.getD,hi']
 cases hv:H.any (Nat.beq i)with
 |true=>
  obtain⟨x,hx,hx2⟩:=List.any_eq_true.1 hv
  have hxi:=Nat.eq_of_beq_eq_true hx2
  subst hxi
  have:=h1 i hx
  rw[e]at this
  simpa using this
 |false=>
  cases hw:ls[i]with
  |false=>simpa using hw
  |true=>
   have h3:=h2 i (e.trans hw)
   have:H.any (Nat.beq i)=true:=List.any_eq_true.2 ⟨i,h3,by simp⟩
   rw[hv]at this
   cases this
theorem holds_mixH{P:Program}{D:List Deferred}{body:Code}{n:Nat}{w0:World}{S:Nat->Prop}{Q:Exit->Act->World->Prop}{p:List Nat}{k:List KI}{st:St}{vs:List (Option Value)}(C:Nat->Value->World->Prop){stg:List (Option Nat)}(H:List Nat)(e:Nat)(ks ks':List Nat){sl1 sl2:List (Nat×Value)}(iu du:Nat)(ls1 ls2:Array Bool)(f1 f2:Nat)
  (hc:isDraw (getCode body p)=true) (hmx:P.follows .mixedOrders=true) (h1:mixChk n (opsOf (getCode body p)) [] (opsOf (getCode body p)).size 0 stg=true)
  (hst:∀k v w w',C k v w->Kept (Turned st.bk) w w'->C k v w')
  (hcert:∀i∈e::H,CertG (wpOp P (opsOf (getCode body p)) (sem P body Q k)) D n (opsOf (getCode body p)) (slI (opsOf (getCode body p)) st.sl i) stg 0 (MG w0 S [st.bk] st.wn st.sz) (Turned st.bk) (PvG vs C) i)
  (hch:headChk (opsOf (getCode body p)) H e=true) (hsz:H.all (fun h=>Nat.blt h (opsOf (getCode body p)).size)=true) (hiu:H.any (Nat.beq iu)=true) (hdu:dstOf (opsOf (getCode body p)) iu=some du) (hvu:vkOf vs iu=none)
  (hl1:(List.range (opsOf (getCode body p)).size).map (fun i=>H.any (Nat.beq i))=ls1.toList) (hl2:(List.range (opsOf (getCode body p)).size).map (fun i=>(e::H).any (Nat.beq i))=ls2.toList) (hf1:ls1.toList.count false=f1) (hf2:ls2.toList.count false=f2)
  (hsl1:keepS (slG (opsOf (getCode body p)) vs (slE (opsOf (getCode body p)) st.sl) H) ks=sl1) (hsl2:keepS (slG (opsOf (getCode body p)) vs (slE (opsOf (getCode body p)) st.sl) (e::H)) ks'=sl2)
  (hh:∀v W,C iu v W->st.sz<=W.heap.size->MemOk w0 S st.bk [] W.heap.size W->Holds D P body n W (Turned st.bk) Q (.any p f1 ls1::k) ⟨(du,v)::sl1,st.bk,[],W.heap.size⟩∧Holds D P body n W (Turned st.bk) Q (.any p f2 ls2::k) ⟨(du,v)::sl2,st.bk,[],W.heap.size⟩):Holds D P body n w0 S Q (.code p::k) st:=by
 intro a w hf hm
 obtain⟨id,hc⟩:=draw_of hc
 subst hsl1 hsl2
 simp only[sem]
 rw[hc]
 refine wp_region_any hmx ?_
 rw[wpAny_anyG]
 have e0:∀i,(Array.replicate (opsOf (getCode body p)).size false).getD i false=false:=fun i=>by
  simp only[Array.getD]
  split
  ·simp
  ·rfl
 have hsz':∀h∈H,h<(opsOf (getCode body p)).size:=fun h hh=>by simpa[Nat.blt_eq]using List.all_eq_true.1 hsz h hh
 refine anyMixH (M:=MG w0 S [st.bk] st.wn st.sz) (T:=Turned st.bk) (Pv:=PvG vs C) H e h1 (fun k v w w' hv hk=>?_) hcert hch hsz' ?_ _ _ 0 a _ (by simp) (fun k hk=>by rw[e0]at hk; cases hk) ⟨hf.size,hf.df,fun q v hq _=>hf.val q v hq,fun k hk=>(by rw[e0]at hk; cases hk),by simp,fun i d hi=>(by rw[e0]at hi; cases hi),fun i s _=>(by rw[e0]; exact⟨fun h=>(by cases h),fun h=>(by omega)⟩),Nat.zero_le _,st.bk,rfl,Nat.le_of_eq hm.size.symm,rfl,hm.blk,hm.own,hm.nd,hm.kept.drew,hm.win⟩
 ·unfold PvG at *
  split at hv
  ·exact hv
  ·exact hst _ _ _ _ hv hk
 ·intro f ls j a' w' hcnt hH hE hI
  have hj:j=0:=by have:=hI.le; omega
  subst hj
  obtain⟨bk,hb,hz,hM⟩:=hI.mem
  cases hb
  replace hM:MemOk w0 S st.bk [] w'.heap.size w':=⟨hM.size,hM.blk,hM.own,hM.nd,hM.kept,fun x hx=>by cases hx⟩
  have hiuH:iu∈H:=by
   obtain⟨x,hx,hx2⟩:=List.any_eq_true.1 hiu
   rw[Nat.eq_of_beq_eq_true hx2]
   exact hx
  obtain⟨v,hv1,hv2⟩:=hI.vals iu du (hH iu hiuH) hdu
  simp only[PvG,hvu]at hv2
  have hbase:FrOk D n (slE (opsOf (getCode body p)) st.sl) a':=by
   refine⟨hI.fsize,hI.fdf,fun q v hq=>?_⟩
   obtain⟨h1,h2⟩:=getS_filter (fun _ _ _=>rfl) st.sl hq
   refine hI.base q v h1 (fun k _ hd=>?_)
   simp only[List.all_eq_true,Bool.not_eq_true']at h2
   have hk:k<(opsOf (getCode body p)).size:=by
    unfold dstOf at hd
    rcases Nat.lt_or_ge k (opsOf (getCode body p)).size with h'|h'
    ·exact h'
    ·rw[Array.getElem?_eq_none h']at hd
     cases hd
   have h3:=h2 k (List.mem_range.2 hk)
   rw[hd]at h3
   simp[eqO]at h3
  have hfin:∀(l:List Nat)(ks:List Nat),(∀h∈l,ls.getD h false=true)->FrOk D n ((du,v)::keepS (slG (opsOf (getCode body p)) vs (slE (opsOf (getCode body p)) st.sl) l) ks) a':=fun l ks hl=>by
   have h2:=knows_slG hbase l (fun k hk d hd=>hI.vals k d (hl k hk) hd)
   refine⟨h2.size,h2.df,fun i u hi=>?_⟩
   simp only[getS]at hi
   split at hi
   ·rename_i he
    have he':du=i:=Nat.eq_of_beq_eq_true he
    subst he'
    simp only[Option.some.injEq]at hi
    subst hi
    exact hv1
   ·exact h2.val i u (getS_keepS ks i u hi)
  obtain⟨g1,g2⟩:=hh v w' hv2 hz hM
  cases hve:ls.getD e false with
  |true=>
   have hE':∀h∈e::H,ls.getD h false=true:=fun h hh=>by
    rcases List.mem_cons.1 hh with rfl|hh
    ·exact hve
    ·exact hH h hh
   have hls:=ls_of hI.size hl2 hE' hE
   subst hls
   rw[<-hcnt,hf2]at *
   have:=g2 a' w' (hfin _ ks' hE') hM.again
   simp only[sem]at this
   rwa [wpAny_anyG]at this
  |false=>
   have hls:=ls_of hI.size hl1 hH (fun k hk=>by
    rcases List.mem_cons.1 (hE k hk)with rfl|h
    ·rw[hve]at hk
     cases hk
    ·exact h)
   subst hls
   rw[<-hcnt,hf1]at *
   have:=g1 a' w' (hfin _ ks hH) hM.again
   simp only[sem]at this
   rwa [wpAny_anyG]at this
theorem cert_regC{P:Program}{D:List Deferred}{n:Nat}{w0:World}{S:Nat->Prop}{Qx:Exit->Act->World->Prop}{ops:Array Oper}{sl0:List (Nat×Value)}{vs:List (Option Value)}{C:Nat->Value->World->Prop}{ms:List (List Bk)}{wn:List Wn}{z0:Nat}{stg:List (Option Nat)}{J:Nat}{bk0:List Bk}(k s:Nat)(hks:stgOf stg k=some s){i:Nat}(hik:i∈needsOf ops k)(hrow:rowsOf ms=List.replicate (J+1) (bk0.map fun x=>(x.g,x.rw))){h:OH}{ob:List Prop}{rs:List (Nat×Nat×Nat)}{v:Value}(hs:stgOf stg i=none)(hv:vkOf vs i=some v)
  (he:∀sz,(List.range (s+1)).map (regEnt P ops sl0 vs ms wn sz i h)=(List.range (s+1)).map (regExp vs ms sz i ob rs)) (ho:All ob):CertG (wpOp P ops Qx) D n ops sl0 stg J (MG w0 S ms wn z0) (Turned bk0) (PvG vs C) i:=by
 intro j a w K hj _ hcap hf hk hm hK
 have hjs:=hcap k s hks hik
 obtain⟨bk,hb,hz,hM⟩:=hm
 have h1:=congrArg (fun l=>l[j]?) (he w.heap.size)
 simp only[List.getElem?_map,List.getElem?_range (show j<s+1 by omega),Option.map_some,Option.some.injEq,regEnt,regExp,hb]at h1
 rw[hv]at h1
 have hT:=turned_same (rows_at hrow hb)
 refine opG_soundW (w0:=w) (S:=Turned bk) h1 ho (dupR_good _) (knows_slG hf _ hk) hM.again (fun w' hm'=>?_)
 have hm2:MemOk w (Turned bk) bk wn w'.heap.size w':=by rw[hm'.size]; exact hm'
 refine hK v w' (by simp only[PvG,hv]) (hT▸hm'.kept) ⟨bk,?_,Nat.le_trans hz hm'.kept.size,hM.onto hm2 rfl⟩
 unfold nextG
 rw[hs]
 exact hb
theorem edge_opU{P:Program}{D:List Deferred}{body:Code}{n:Nat}{w0:World}{S:Nat->Prop}{Q:Exit->Act->World->Prop}{p:List Nat}{i f0:Nat}{ls ls':Array Bool}{k:List KI}{st:St}{dst:Option Nat}{x:Sem Value}{w:World}{S':Nat->Prop}{Y:Type}(v:Y->Value)(bk':List Bk)(X:Y->World->Prop)(sl:Y->List (Nat×Value))
  (hl:ls.setIfInBounds i true=ls') (hd:dstAt (opsOf (getCode body p)) st.sl i=some dst) (hx:semAt (opsOf (getCode body p)) st.sl i=some (asV x)) (hp:∀c,putS n st.sl dst (v c)=some (sl c))
  (hr:∀wx,MemOk w0 S st.bk st.wn st.sz wx->∃c w',x.run P wx=.ok (v c) w'∧X c w'∧MemOk w S' bk' [] w'.heap.size w')
  (hh:∀c W,X c W->MemOk w S' bk' [] W.heap.size W->Holds D P body n W (Turned bk') Q (.any p f0 ls'::k) ⟨sl c,bk',[],W.heap.size⟩):Edge D P body n w0 S Q p f0 k ls st i:=by
 intro a wx hf hm
 subst hl
 unfold dstAt at hd
 unfold semAt at hx
 split at hd
 ·rename_i o ho
  simp only[ho,Option.some.injEq]at hx
  split at hd
  ·rename_i hg
   split at hd
   ·rename_i hk
    simp only[Option.some.injEq]at hd
    have hw:Region.wanted o (yielded (opsOf (getCode body p)) a.tmps)=true:=by simp[Region.wanted,hg]
    simp only[wpOp,ho,if_pos hw]
    refine .inl ?_
    obtain⟨c,w',h2,h3,h4⟩:=hr wx hm
    have h5:(execOp a.eval o).run P wx=.ok (.value (v c)) w':=by
     rw[hf.rho hk,hx]
     simp only[asV,Sem.run_bind,h2,Result.andThen_ok,Sem.run_pure]
    simp only[Oper.wp,h5,Oper.upon_value]
    rw[hd]
    have h6:=hh c w' h3 h4 _ _ (hf.put (hp c)) h4.again
    simpa only[sem]using h6
   ·cases hd
  ·cases hd
 ·cases hd
end Go.Proofs.YtcmpkkapkdlfhaaGreat
