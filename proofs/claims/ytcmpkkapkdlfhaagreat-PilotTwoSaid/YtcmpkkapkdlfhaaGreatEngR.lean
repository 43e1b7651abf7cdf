import Derived.Test.YtcmpkkapkdlfhaaGreatEngF
import Derived.Laws.CopyRow
import Derived.Laws.IdiomStrings
import Derived.Laws.Append
import Derived.RangeFuncNested
import Derived.RangeFuncBound
import Derived.RangeFuncCalls
import Derived.RangeFuncLeaves
import Derived.LoopNIn
import Derived.OrdersIn
import Derived.Shelf.Abstract
namespace Go.Proofs.YtcmpkkapkdlfhaaGreat
open Go.RowKit
def dstAt(ops:Array Oper)(sl:List (Nat×Value))(i:Nat):Option (Option Nat):=
 match ops[i]? with
 |some o=>match o.guard with
  |none=>match known sl o with
   |true=>some o.dst
   |false=>none
  |some _=>none
 |none=>none
def semAt(ops:Array Oper)(sl:List (Nat×Value))(i:Nat):Option (Sem Next):=
 match ops[i]? with
 |some o=>some (execOp (rho sl) o)
 |none=>none
def asV(x:Sem Value):Sem Next:=x >>= fun v=>pure (.value v)
section
variable {D:List Deferred}{P:Program}{body:Code}{n:Nat}{w0:World}{S:Nat->Prop}{Q:Exit->Act->World->Prop}
theorem holds_opX{p:List Nat}{i:Nat}{l:List Nat}{k:List KI}{st:St}{dst:Option Nat}{x:Sem Value}{X:Type}(C:X->Prop)(v:X->Value)(bk:X->List Bk)(sl:X->List (Nat×Value))
  (hd:dstAt (opsOf (getCode body p)) st.sl i=some dst) (hx:semAt (opsOf (getCode body p)) st.sl i=some (asV x)) (hp:∀y,putS n st.sl dst (v y)=some (sl y))
  (hr:∀w,MemOk w0 S st.bk st.wn st.sz w->∃y w',C y∧x.run P w=.ok (v y) w'∧st.sz<=w'.heap.size∧MemOk w0 S (bk y) st.wn w'.heap.size w')
  (hh:∀y,C y->∀sz,st.sz<=sz->Holds D P body n w0 S Q (.ops p l::k) ⟨sl y,bk y,st.wn,sz⟩):Holds D P body n w0 S Q (.ops p (i::l)::k) st:=by
 intro a w hf hm
 simp only[sem]
 rw[wpOps_cons]
 unfold dstAt at hd
 unfold semAt at hx
 split at hd
 ·rename_i o ho
  simp only[ho,Option.some.injEq]at hx
  split at hd
  ·rename_i hg
   split at hd
   ·rename_i hk
    simp only[Option.some.injEq]at hd
    have hw:Region.wanted o (yielded (opsOf (getCode body p)) a.tmps)=true:=by simp[Region.wanted,hg]
    simp only[wpOp,ho,if_pos hw]
    refine .inl ?_
    obtain⟨y,w',h1,h2,h3,h4⟩:=hr w hm
    have h5:(execOp a.eval o).run P w=.ok (.value (v y)) w':=by
     rw[hf.rho hk,hx]
     simp only[asV,Sem.run_bind,h2,Result.andThen_ok,Sem.run_pure]
    simp only[Oper.wp,h5,Oper.upon_value]
    rw[hd]
    exact hh y h1 _ h3 _ _ (hf.put (hp y)) h4
   ·cases hd
  ·cases hd
 ·cases hd
theorem holds_op1{p:List Nat}{i:Nat}{l:List Nat}{k:List KI}{st:St}{dst:Option Nat}{x:Sem Value}(v:Value)(bk:List Bk){sl:List (Nat×Value)}
  (hd:dstAt (opsOf (getCode body p)) st.sl i=some dst) (hx:semAt (opsOf (getCode body p)) st.sl i=some (asV x)) (hp:putS n st.sl dst v=some sl)
  (hr:∀w,MemOk w0 S st.bk st.wn st.sz w->∃w',x.run P w=.ok v w'∧st.sz<=w'.heap.size∧MemOk w0 S bk st.wn w'.heap.size w')
  (hh:∀sz,st.sz<=sz->Holds D P body n w0 S Q (.ops p l::k) ⟨sl,bk,st.wn,sz⟩):Holds D P body n w0 S Q (.ops p (i::l)::k) st:=
 holds_opX (X:=Unit) (fun _=>True) (fun _=>v) (fun _=>bk) (fun _=>sl) hd hx (fun _=>hp) (fun w hm=>let ⟨w',h1,h2,h3⟩:=hr w hm; ⟨(),w',trivial,h1,h2,h3⟩) (fun _ _=>hh)
theorem holds_opR{p:List Nat}{i:Nat}{l:List Nat}{k:List KI}{st:St}{dst:Option Nat}{x:Sem Value}(v:Value){sl:List (Nat×Value)}
  (hd:dstAt (opsOf (getCode body p)) st.sl i=some dst) (hx:semAt (opsOf (getCode body p)) st.sl i=some (asV x)) (hp:putS n st.sl dst v=some sl)
  (hr:∀w,MemOk w0 S st.bk st.wn st.sz w->x.run P w=.ok v w)
  (hh:Holds D P body n w0 S Q (.ops p l::k) ⟨sl,st.bk,st.wn,st.sz⟩):Holds D P body n w0 S Q (.ops p (i::l)::k) st:=by
 intro a w hf hm
 simp only[sem]
 rw[wpOps_cons]
 unfold dstAt at hd
 unfold semAt at hx
 split at hd
 ·rename_i o ho
  simp only[ho,Option.some.injEq]at hx
  split at hd
  ·rename_i hg
   split at hd
   ·rename_i hk
    simp only[Option.some.injEq]at hd
    have hw:Region.wanted o (yielded (opsOf (getCode body p)) a.tmps)=true:=by simp[Region.wanted,hg]
    simp only[wpOp,ho,if_pos hw]
    refine .inl ?_
    have h5:(execOp a.eval o).run P w=.ok (.value v) w:=by
     rw[hf.rho hk,hx]
     simp only[asV,Sem.run_bind,hr w hm,Result.andThen_ok,Sem.run_pure]
    simp only[Oper.wp,h5,Oper.upon_value]
    rw[hd]
    exact hh _ _ (hf.put hp) hm
   ·cases hd
  ·cases hd
 ·cases hd
def bytesV(l:List UInt8):List Value:=l.map fun b=>.int .u8 (b.toNat:Int)
theorem bytesV_one(l:List UInt8):∀v∈bytesV l,v.oneCell'=true:=by
 intro v hv
 obtain⟨b,_,rfl⟩:=List.mem_map.1 hv
 rfl
theorem setRow_size(w:World)(g:Nat)(c:Array Value):(w.setRow g c).heap.size=w.heap.size:=by simp[World.setRow]
theorem setRow_far(w:World)(g:Nat)(c:Array Value){j:Nat}(h:j≠g):(w.setRow g c).heap[j]?=w.heap[j]?:=by
 simp only[World.setRow]
 rw[Array.getElem?_modify,if_neg (Ne.symm h)]
theorem setRow_kept(w:World)(g:Nat)(c:Array Value):Kept (fun x=>x=g) w (w.setRow g c):=
 ⟨rfl,rfl,rfl,by rw[setRow_size]; exact Nat.le_refl _,fun k _ hn=>setRow_far w g c hn⟩
theorem setRow_blk{w:World}{g:Nat}{t:TypeId}{cs:List Value}(h:Blk w g t cs)(ds:List Value):Blk (w.setRow g ds.toArray) g t ds:=setRow_heap w g _ _ t _ h
theorem run_copyStr(w:World)(dT sT ty e:TypeId)(g L cap:Nat)(t:TypeId)(s:ByteArray)(cs:List Value)(hu:P.underlying dT=some (.slice e))(hs:(P.info? e).map (·.size)=some 1)(hB:Blk w g t cs)(hL:L<=cs.length) :
  (Builtin.copy_ #[dT,sT] ty #[.slice (some ⟨g,0,none⟩) L cap,.string s]).run P w=.ok (.int .i64 ((Nat.min s.size L:Nat):Int)) (w.setRow g (bytesV (s.data.toList.take L)++cs.drop (Nat.min s.size L)).toArray):=by
 obtain⟨inf,hi,hz⟩:=Option.map_eq_some_iff.1 hs
 have hlen:(bytesV (s.data.toList.take L)).length=Nat.min s.size L:=by
  simp only[bytesV,List.length_map,List.length_take,Array.length_toList]
  exact Nat.min_comm _ _
 have hml:Nat.min s.size L<=L:=Nat.min_le_right _ _
 have h1:=run_storeCells_at P g 0 t (bytesV (s.data.toList.take L)) 0 cs.toArray w hB (by rw[hlen]; simp; omega) (bytesV_one _)
 have e1:List.take (s.size.min L) (s.data.toList.map fun b=>(Value.int .u8 (b.toNat:Int)))=bytesV (s.data.toList.take L):=by
  simp only[bytesV,List.map_take]
  rw[List.take_eq_take_iff]
  have h2:(s.data.toList.map fun b=>(Value.int .u8 (b.toNat:Int))).length=s.size:=by simp
  rw[h2]
  show min (min s.size L) s.size=min L s.size
  omega
 simp only[Nat.zero_add,List.take_zero,List.nil_append,hlen]at h1
 simp only[Builtin.copy_]
 simp[run_underlying hu,Builtin.lenOf,Builtin.firstCells,sizeOf,typeInfo,hi]
 rw[e1,h1]
 simp[goInt]
def cutL(L:Nat)(s:ByteArray):List UInt8:=s.data.toList.take L++List.replicate (L-s.size) 0
def strL(L:Nat)(s:ByteArray):ByteArray:=⟨(cutL L s).toArray⟩
theorem length_cutL(L:Nat)(s:ByteArray):(cutL L s).length=L:=by
 have h2:s.data.toList.length=s.size:=by simp
 simp only[cutL,List.length_append,List.length_take,List.length_replicate,h2]
 omega
theorem size_strL(L:Nat)(s:ByteArray):(strL L s).size=L:=by
 show(cutL L s).toArray.size=L
 simp[length_cutL]
theorem copy_cut(L:Nat)(s:ByteArray):bytesV (s.data.toList.take L)++(List.replicate L (Value.int .u8 0)).drop (Nat.min s.size L)=bytesV (cutL L s):=by
 simp only[cutL,bytesV,List.map_append,List.map_replicate,List.drop_replicate]
 congr 2
 show L-min s.size L=L-s.size
 omega
theorem run_bytesBack(w:World)(src dst e:TypeId)(g L cap:Nat)(t:TypeId)(l:List UInt8)(hs:P.underlying src=some (.slice e))(he:P.underlying e=some (.int .u8))(hd:P.underlying dst=some .string)(hB:Blk w g t (bytesV l))(hL:l.length=L) :
  (convert src dst (.slice (some ⟨g,0,none⟩) L cap)).run P w=.ok (.string ⟨l.toArray⟩) w:=by
 subst hL
 refine run_convert_bytes_back w src dst e ⟨g,0,none⟩ cap l hs he hd (fun j hj=>?_)
 have:(⟨g,0,none⟩:Addr).add j=⟨g,j,none⟩:=by
  rw[add_norm,Nat.zero_add]
 rw[this]
 refine(hB.cell j).trans ?_
 simp[bytesV,hj]
end
section
variable {D:List Deferred}{F:Fence}{m:Nat}{P:Program}{n:Nat}{w0:World}{S:Nat->Prop}{a:Act}{w:World}
theorem opExec_soundR(hF:∀f,F.fn f){o:Oper}{st:St}{h:OH}{r:Out}(he:opExec P n o st h=some r)(ho:All r.ob)(hg:Good r.eqs)(hf:FrOk D n st.sl a)(hm:MemOk w0 S st.bk st.wn st.sz w)
  {K:Act->World->Prop} {Q:Exit->Act->World->Prop} (hK:∀a' w',FrOk D n r.st.sl a'->MemOk w0 S r.st.bk r.st.wn r.st.sz w'->K a' w'):o.wpIn F m P a w K Q:=by
 refine⟨fun f _=>hF f,?_⟩
 unfold opExec at he
 split at he
 ·rename_i hk
  have e:o.semAt F.round a.eval=execOp (rho st.sl) o:=by rw[Oper.semAt_eq _ _ _ (known_noDefer hk)]; exact hf.rho hk
  rw[e]
  split at he
  ·split at he
   ·rename_i v bk sz es hr
    split at he
    ·rename_i sl hsl
     simp only[Option.some.injEq]at he
     subst he
     obtain⟨w',h1,h2⟩:=runS_sound P _ _ _ _ w _ hr hg hm
     rw[h1]
     exact hK _ _ (hf.put hsl) h2
    ·cases he
   ·rename_i bk sz es hr
    split at he
    ·rename_i sl hsl
     simp only[Option.some.injEq]at he
     subst he
     obtain⟨w',h1,h2⟩:=runS_sound P _ _ _ _ w _ hr hg hm
     rw[h1]
     exact hK _ _ (hf.put hsl) h2
    ·cases he
   ·cases he
  ·split at he
   ·rename_i v p hov
    split at he
    ·rename_i sl hsl
     simp only[Option.some.injEq]at he
     subst he
     rw[ov_sound hov ho.1 w]
     exact hK _ _ (hf.put hsl) hm
    ·cases he
   ·cases he
 ·cases he
theorem opStep_soundR(hF:∀f,F.fn f){ops:Array Oper}{i:Nat}{st:St}{h:OH}{r:Out}(he:opStep P n ops st i h=some r)(ho:All r.ob)(hg:Good r.eqs)(hf:FrOk D n st.sl a)(hm:MemOk w0 S st.bk st.wn st.sz w)
  {K:Act->World->Prop} {Q:Exit->Act->World->Prop} (hK:∀a' w',FrOk D n r.st.sl a'->MemOk w0 S r.st.bk r.st.wn r.st.sz w'->K a' w'):wpOpIn F m P ops Q i K a w:=by
 unfold opStep at he
 split at he
 ·cases he
 ·rename_i o hoi
  simp only[wpOpIn,hoi]
  split at he
  ·rename_i hgd
   have hw:Region.wanted o (yielded ops a.tmps)=true:=by simp[Region.wanted,hgd]
   rw[if_pos hw]
   exact opExec_soundR hF he ho hg hf hm hK
  ·rename_i j want hgd
   split at he
   ·cases he
   ·rename_i t ht
    split at he
    ·rename_i c hc
     have hy:yielded ops a.tmps j=some c:=by
      have:=hf.val t _ hc
      simp[yielded,ht,this]
     split at he
     ·rename_i hd
      obtain⟨r',hr',rfl⟩:=ask_some he
      have hw:Region.wanted o (yielded ops a.tmps)=true:=by
       have h1:c=h.dec:=ho.1
       have h2:h.dec=want:=by simpa using hd
       simp[Region.wanted,hgd,hy,h1,h2]
      rw[if_pos hw]
      exact opExec_soundR hF hr' ho.2 hg hf hm hK
     ·rename_i hd
      obtain⟨r',hr',rfl⟩:=ask_some he
      have hw:¬Region.wanted o (yielded ops a.tmps)=true:=by
       have h1:c=h.dec:=ho.1
       have h2:¬h.dec=want:=by simpa using hd
       simp[Region.wanted,hgd,hy,h1,h2]
      rw[if_neg hw]
      obtain⟨g1,g2,g3,g4⟩:=opSkip_sound hr' hf
      exact⟨fun f _=>hF f,hK _ _ g1 (by simp only[g2,g3,g4]; exact hm)⟩
    ·rename_i vs hc
     have hy:yielded ops a.tmps j=none:=by
      have:=hf.val t _ hc
      simp[yielded,ht,this]
     have hw:¬Region.wanted o (yielded ops a.tmps)=true:=by simp[Region.wanted,hgd,hy]
     rw[if_neg hw]
     obtain⟨g1,g2,g3,g4⟩:=opSkip_sound he hf
     exact⟨fun f _=>hF f,hK _ _ g1 (by rw[g2,g3,g4]; exact hm)⟩
    ·cases he
end
def semR(F:Fence)(m:Nat)(P:Program)(body:Code)(Q:Exit->Act->World->Prop):List KI->Exit->Act->World->Prop
 |[],e,a,w=>Q e a w
 |.code p::k,.normal,a,w=>(getCode body p).wpIn F m P (semR F m P body Q k) a w
 |.ops p l::k,.normal,a,w=>wpOpsIn F m P (opsOf (getCode body p)) (semR F m P body Q k) l a w
 |.any _ _ _::_,.normal,_,_=>False
 |.blk _::k,.normal,a,w=>semR F m P body Q k .normal a w
 |.inv J::_,.normal,a,w=>J a w
 |.blk id::k,.exit id',a,w=>if id'=id then semR F m P body Q k .normal a w else semR F m P body Q k (.exit id') a w
 |_::k,.exit id',a,w=>semR F m P body Q k (.exit id') a w
 |_::k,.goto l,a,w=>semR F m P body Q k (.goto l) a w
 |_::k,.ret,a,w=>semR F m P body Q k .ret a w
 |_::k,.panic c,a,w=>semR F m P body Q k (.panic c) a w
 |_::k,.outgrown,a,w=>semR F m P body Q k .outgrown a w
def HoldsR(F:Fence)(m:Nat)(D:List Deferred)(P:Program)(body:Code)(n:Nat)(w0:World)(S:Nat->Prop)(Q:Exit->Act->World->Prop)(k:List KI)(st:St):Prop:=
 ∀a w,FrOk D n st.sl a->MemOk w0 S st.bk st.wn st.sz w->semR F m P body Q k .normal a w
section
variable {D:List Deferred}{F:Fence}{m:Nat}{P:Program}{body:Code}{n:Nat}{w0:World}{S:Nat->Prop}{Q:Exit->Act->World->Prop}
theorem then_semR{p:List Nat}{k:List KI}(e:Exit)(a:Act)(w:World)(h:semR F m P body Q (.code p::k) e a w):Exit.then ((getCode body p).wpIn F m P (semR F m P body Q k)) (semR F m P body Q k) e a w:=by
 cases e<;>exact h
theorem blk_semR{id:Nat}{k:List KI}(e:Exit)(a:Act)(w:World)(h:semR F m P body Q (.blk id::k) e a w):Exit.inBlock id (semR F m P body Q k) e a w:=by
 cases e<;>exact h
theorem semR_unwind{id:Nat}:∀(k k':List KI),unwindK id k=some k'->∀a w,semR F m P body Q k' .normal a w->semR F m P body Q k (.exit id) a w:=by
 intro k
 induction k with
 |nil=>intro k' h; cases h
 |cons x k ih=>
  intro k' h a w hs
  cases x with
  |blk id'=>
   simp only[unwindK]at h
   split at h
   ·rename_i he
    have he':id=id':=Nat.eq_of_beq_eq_true he
    simp only[Option.some.injEq]at h
    subst h he'
    simpa[semR]using hs
   ·rename_i he
    have he':id≠id':=Nat.ne_of_beq_eq_false he
    simp only[semR,if_neg he']
    exact ih k' h a w hs
  |inv J=>exact ih k' h a w hs
  |code p=>exact ih k' h a w hs
  |ops p l=>exact ih k' h a w hs
  |any p f ls=>exact ih k' h a w hs
theorem exec_soundR(hF:∀f,F.fn f):∀(f:Nat)(hs:List OH)(k:List KI)(st:St)(r:Res),exec P body n f hs k st=some r->All r.ob->Good r.eqs->HoldsR F m D P body n w0 S Q r.k r.st->HoldsR F m D P body n w0 S Q k st:=by
 intro f
 induction f with
 |zero=>
  intro hs k st r h _ _ hh
  simp only[exec,Option.some.injEq]at h
  subst h
  exact hh
 |succ f ih=>
  intro hs k st r h ho hg hh
  cases k with
  |nil=>
   simp only[exec,Option.some.injEq]at h
   subst h
   exact hh
  |cons x k=>
   cases x with
   |inv J=>
    simp only[exec,Option.some.injEq]at h
    subst h
    exact hh
   |any p g ls=>
    simp only[exec,Option.some.injEq]at h
    subst h
    exact hh
   |blk id=>
    simp only[exec]at h
    intro a w hf hm
    exact ih hs k st r h ho hg hh a w hf hm
   |ops p l=>
    simp only[exec]at h
    split at h
    ·intro a w hf hm
     exact ih hs k st r h ho hg hh a w hf hm
    ·rename_i i l'
     split at h
     ·simp only[Option.some.injEq]at h
      subst h
      exact hh
     ·rename_i h0 hs'
      split at h
      ·rename_i o hop
       obtain⟨r',hr',rfl⟩:=res_more h
       intro a w hf hm
       have ho':=all_append ho
       have h1:=ih hs' _ _ r' hr' ho'.2 (fun e he=>hg e (List.mem_append_right _ he)) hh
       simp only[semR]
       rw[wpOpsIn_cons]
       exact opStep_soundR hF hop ho'.1 (fun e he=>hg e (List.mem_append_left _ he)) hf hm (fun a' w' hf' hm'=>h1 a' w' hf' hm')
      ·cases h
   |code p=>
    simp only[exec]at h
    split at h
    ·rename_i hc
     intro a w hf hm
     simp only[semR,hc]
     exact wpIn_skip (ih hs k st r h ho hg hh a w hf hm)
    ·rename_i c1 c2 hc
     intro a w hf hm
     have h1:=ih hs _ st r h ho hg hh a w hf hm
     simp only[semR,getCode_append,hc,getCode]at h1
     simp only[semR,hc]
     refine wpIn_seq (wpIn_mono h1 fun e a w h2=>?_)
     have h3:=then_semR e a w h2
     simpa only[getCode_append,hc,getCode]using h3
    ·rename_i id ops hc
     intro a w hf hm
     have h1:=ih hs _ st r h ho hg hh a w hf hm
     simp only[semR,hc,opsOf]at h1
     simp only[semR,hc]
     exact wpIn_region h1
    ·rename_i c c1 c2 hc
     split at h
     ·simp only[Option.some.injEq]at h
      subst h
      exact hh
     ·rename_i h0 hs'
      split at h
      ·rename_i b hb
       split at h
       ·obtain⟨r',hr',rfl⟩:=res_ask h
        intro a w hf hm
        have h1:=ih hs' _ st r' hr' ho.2 hg hh a w hf hm
        simp only[semR,getCode_append,hc,getCode]at h1
        simp only[semR,hc]
        have hbt:b=true:=ho.1
        subst hbt
        exact wpIn_cond_true (hf.eval hb) h1
       ·obtain⟨r',hr',rfl⟩:=res_ask h
        intro a w hf hm
        have h1:=ih hs' _ st r' hr' ho.2 hg hh a w hf hm
        simp only[semR,getCode_append,hc,getCode]at h1
        simp only[semR,hc]
        have hbt:b=false:=ho.1
        subst hbt
        exact wpIn_cond_false (hf.eval hb) h1
      ·cases h
    ·rename_i id c hc
     intro a w hf hm
     have h1:=ih hs _ st r h ho hg hh a w hf hm
     simp only[semR,getCode_append,hc,getCode]at h1
     simp only[semR,hc]
     exact wpIn_block (wpIn_mono h1 fun e a w h2=>blk_semR e a w h2)
    ·rename_i id hc
     split at h
     ·rename_i k' hk
      intro a w hf hm
      have h1:=ih hs k' st r h ho hg hh a w hf hm
      simp only[semR,hc]
      exact wpIn_exit (semR_unwind k k' hk a w h1)
     ·cases h
    ·simp only[Option.some.injEq]at h
     subst h
     exact hh
theorem holdsR_prune{k:List KI}{st:St}(ks:List Nat)(mb:List Bool)(h:HoldsR F m D P body n w0 S Q k (prune ks mb st)):HoldsR F m D P body n w0 S Q k st:=
 fun a w hf hm=>h a w ⟨hf.size,hf.df,fun i v hi=>hf.val i v (getS_keepS ks i v hi)⟩ (hm.sub (maskL_sub mb st.bk))
theorem holdsR_go(hF:∀f,F.fn f){f:Nat}{hs:List OH}{k:List KI}{st:St}(ks:List Nat)(mb:List Bool){ob:List Prop}{rs:List (Nat×Nat×Nat)}{k':List KI}{st':St}
  (h:Res.prune ks mb (exec P body n f hs k st)=some ⟨ob,dupR rs,k',st'⟩) (ho:All ob) (hh:HoldsR F m D P body n w0 S Q k' st'):HoldsR F m D P body n w0 S Q k st:=by
 cases he:exec P body n f hs k st with
 |none=>rw[he]at h; cases h
 |some r=>
  rw[he]at h
  simp only[Res.prune,Option.some.injEq,Res.mk.injEq]at h
  obtain⟨h1,h2,h3,h4⟩:=h
  refine exec_soundR hF f hs k st r he (by rw[h1]; exact ho) (by rw[h2]; exact dupR_good rs) ?_
  rw[h3]
  refine holdsR_prune ks mb ?_
  rw[h4]
  exact hh
theorem hgER(hF:∀f,F.fn f)(f:Nat)(hs:List OH){k:List KI}{st:St}(ks:List Nat)(es:List Ev)(rs:List (Nat×Nat×Nat))(k':List KI)(st':St)(hh:HoldsR F m D P body n w0 S Q k' st')
  (h:Res.prune ks [] (exec P body n f hs k st)=some ⟨obE es,dupR rs,k',st'⟩:=by kernel_rfl):HoldsR F m D P body n w0 S Q k st:=holdsR_go hF ks [] h (allE es) hh
theorem YieldAt.mono{W:World}{l:Nat}{args:Array Value}{R R':Ending->World->Prop}(h:YieldAt F m P l args W R)(hr:∀e w',R e w'->R' e w'):YieldAt F m P l args W R':=by
 obtain⟨fn,tmps,assign,body,h1,h2⟩:=h
 exact⟨fn,tmps,assign,body,h1,h2.mono hr⟩
theorem holdsR_yield(hF:∀f,F.fn f)(hd:F.depth=none){p:List Nat}{i:Nat}{l:List Nat}{k:List KI}{st:St}{dst:Option Nat}{lp:Nat}{args:Array Value}{c:Bool}{gd:Option Nat}
  (hx:semAt (opsOf (getCode body p)) st.sl i=some (Instr.yield lp args))
  (hdst:((opsOf (getCode body p))[i]?).map (fun o=>(o.dst,o.guard.map (·.1),(o.guard.map (·.2)).getD true,known st.sl o))=some (dst,gd,true,true))
  (hgd:∀j,gd=some j->(((opsOf (getCode body p))[j]?).bind (·.dst)).bind (getS st.sl)=some (.bool c)) (hc:gd.isSome=true->c=true)
  (hy:∀w,MemOk w0 S st.bk st.wn st.sz w->YieldAt F (m-1) P lp args w (fun e w'=>∃v sl,e=.returned v∧putS n st.sl dst v=some sl∧∃bk wn S',MemOk w' S' bk wn w'.heap.size w'∧HoldsR F m D P body n w' S' Q (.ops p l::k) ⟨sl,bk,wn,w'.heap.size⟩)) :
  HoldsR F m D P body n w0 S Q (.ops p (i::l)::k) st:=by
 intro a w hf hm
 simp only[semR]
 rw[wpOpsIn_cons]
 cases ho:(opsOf (getCode body p))[i]? with
 |none=>rw[ho]at hdst; cases hdst
 |some o=>
  simp only[ho,Option.map_some,Option.some.injEq,Prod.mk.injEq]at hdst
  obtain⟨h1,h2,h3,h4⟩:=hdst
  simp only[semAt,ho,Option.some.injEq]at hx
  have hw:Region.wanted o (yielded (opsOf (getCode body p)) a.tmps)=true:=by
   cases hg:o.guard with
   |none=>simp[Region.wanted,hg]
   |some jw=>
    obtain⟨j,want⟩:=jw
    rw[hg]at h2 h3
    simp only[Option.map_some,Option.getD_some]at h2 h3
    have hb:=hgd j h2.symm
    obtain⟨t,ht,hb'⟩:=Option.bind_eq_some_iff.1 hb
    have hv:=hf.val t _ hb'
    have hct:=hc (by rw[<-h2]; rfl)
    simp[Region.wanted,hg,yielded,ht,hv,hct,h3]
  simp only[wpOpIn,ho,if_pos hw]
  refine⟨fun f _=>hF f,?_⟩
  rw[Oper.semAt_eq _ _ _ (known_noDefer h4),hf.rho h4,hx]
  obtain⟨fn,tmps,assign,bd,q1,q2⟩:=hy w hm
  rw[q1]
  refine⟨fun h=>(by rw[hd]at h; cases h),q2.mono fun e w' he=>?_⟩
  obtain⟨v,sl,rfl,g1,bk,wn,S',g2,g3⟩:=he
  rw[h1]
  exact g3 _ _ (hf.put g1) g2
end
end Go.Proofs.YtcmpkkapkdlfhaaGreat
