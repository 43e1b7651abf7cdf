import Derived.Test.YtpilmccjjbgmiaaEngZ
import Derived.MapKept
import Derived.Carry
import Derived.Laws.MakeOwn
import Derived.Laws.Cover3
namespace Go.Proofs.Ytpilmccjjbgmiaa
open Go.RowKit Go.MapKept
structure CE where
 k:Int
 L:List Int
 born:Nat
def secV (L:List Int):Value:=.agg (intsV L).toArray
def CE.ent (c:CE):MapEntry:={ key:=.int .i64 c.k,val:=secV c.L,born:=c.born }
def MapAt (w:World) (m:Nat) (cs:List CE) (clock:Nat):Prop:=w.heap[m]? = some (.map (cs.map CE.ent).toArray clock)
def lookI:List CE → Int → Nat → Option (Nat × List Int)
 | [],_,_=>none
 | c :: cs,n,i=>if n = c.k then some (i,c.L) else lookI cs n (i + 1)
def lookC (cs:List CE) (n:Int):Option (List Int):=(lookI cs n 0).map (·.2)
def putC (cs:List CE) (clock:Nat) (n:Int) (L:List Int):List CE × Nat:=match lookI cs n 0 with
 | some (i,_)=>(cs.modify i (fun c=>{ c with L:=L }),clock)
 | none=>(cs ++ [(⟨n,L,clock⟩:CE)],clock + 1)
def zeroSec:List Int:=List.replicate 64 0
theorem MapAt.lt {w:World} {m:Nat} {cs:List CE} {clock:Nat} (h:MapAt w m cs clock):m < w.heap.size:=(Array.getElem?_eq_some_iff.1 h).1
theorem MapAt.kept {w w':World} {m:Nat} {cs:List CE} {clock:Nat} {T:Nat → Prop} (h:MapAt w m cs clock) (hk:Kept T w w') (hT:¬ T m):MapAt w' m cs clock:=(hk.block m h.lt hT).trans h
theorem lookI_at:∀ (cs:List CE) (n:Int) (i j:Nat) (L:List Int),lookI cs n i = some (j,L) → i ≤ j ∧ ∃ c,cs[j - i]? = some c ∧ c.k = n ∧ c.L = L
 | [],_,_,_,_,h=>by cases h
 | c :: cs,n,i,j,L,h=>by
  simp only [lookI] at h
  split at h
  ·rename_i he
   simp only [Option.some.injEq,Prod.mk.injEq] at h
   obtain ⟨rfl,rfl⟩:=h
   exact ⟨Nat.le_refl _,c,by simp,he.symm,rfl⟩
  ·obtain ⟨h1,d,h2,h3⟩:=lookI_at cs n (i + 1) j L h
   refine ⟨by omega,d,?_,h3⟩
   rw [show j - i = (j - (i + 1)) + 1 by omega]
   exact h2
section
variable {P:Program}
theorem findNow_look (kk:IntKind) (n:Int):∀ (cs:List CE) (i:Nat),Instr.findNow (.int kk) (.int .i64 n) (cs.map CE.ent) i = some ((lookI cs n i).map fun p=>(p.1,secV p.2))
 | [],_=>rfl
 | c :: cs,i=>by
  simp only [List.map_cons,Instr.findNow,CE.ent,Instr.sameNow,if_pos,lookI]
  by_cases h:n = c.k
  ·rw [beq_iff_eq.2 h,if_pos h]
   rfl
  ·rw [beq_eq_false_iff_ne.2 h,if_neg h]
   exact findNow_look kk n cs (i + 1)
theorem run_look (w:World) (t k e:TypeId) (kk:IntKind) (m:Nat) (cs:List CE) (clock:Nat) (n:Int) (ht:P.underlying t = some (.map k e)) (hk:P.underlying k = some (.int kk)) (hz:(P.info? e).map (·.zero) = some (some (secV zeroSec))) (hm:MapAt w m cs clock) :
  (Instr.lookup t (.map (some m)) (.int .i64 n) true).run P w = .ok (.tuple #[secV ((lookC cs n).getD zeroSec),.bool (lookC cs n).isSome]) w:=by
 obtain ⟨inf,hi,hz1⟩:=Option.map_eq_some_iff.1 hz
 have h1:(getObj m).run P w = .ok (.map (cs.map CE.ent).toArray clock) w:=Go.MapKept.run_getObj_map hm
 have h2:∀ b,(Instr.checkKey b 10000 k (.int .i64 n)).run P w = .ok () w:=fun b=>by
  unfold Instr.checkKey
  simp [run_underlying hk]
 have h3:=run_findKey (P:=P) (w:=w) (kt:=k) (k:=.int .i64 n) hk (findNow_look kk n cs 0)
 unfold Instr.lookup
 cases hl:lookI cs n 0 with
 | none=>
  rw [hl] at h3
  simp only [Option.map_none] at h3
  simp [run_underlying ht,h1,h2,h3,zeroValue,typeInfo,hi,hz1,lookC,hl]
 | some p=>
  rw [hl] at h3
  simp only [Option.map_some] at h3
  simp [run_underlying ht,h1,h2,h3,lookC,hl]
theorem run_put (w:World) (t k e:TypeId) (kk:IntKind) (m:Nat) (cs:List CE) (clock:Nat) (n:Int) (L:List Int) (ht:P.underlying t = some (.map k e)) (hk:P.underlying k = some (.int kk)) (hm:MapAt w m cs clock) :
  ∃ w',(Instr.mapUpdate t (.map (some m)) (.int .i64 n) (secV L)).run P w = .ok () w' ∧ MapAt w' m (putC cs clock n L).1 (putC cs clock n L).2 ∧ Kept (fun x=>x = m) w w' ∧ w'.heap.size = w.heap.size:=by
 have h1:(getObj m).run P w = .ok (.map (cs.map CE.ent).toArray clock) w:=Go.MapKept.run_getObj_map hm
 have h2:∀ b,(Instr.checkKey b 10000 k (.int .i64 n)).run P w = .ok () w:=fun b=>by
  unfold Instr.checkKey
  simp [run_underlying hk]
 have h3:=run_findKey (P:=P) (w:=w) (kt:=k) (k:=.int .i64 n) hk (findNow_look kk n cs 0)
 have hset:∀ (cs':List CE) (c':Nat),MapAt { w with heap:=w.heap.setIfInBounds m (.map (cs'.map CE.ent).toArray c') } m cs' c' ∧ Kept (fun x=>x = m) w { w with heap:=w.heap.setIfInBounds m (.map (cs'.map CE.ent).toArray c') }:=fun cs' c'=>
  ⟨(heap_set hm).1,rfl,rfl,rfl,by simp,fun q _ hq=>(heap_set hm).2 q hq⟩
 unfold Instr.mapUpdate
 cases hl:lookI cs n 0 with
 | none=>
  rw [hl] at h3
  simp only [Option.map_none] at h3
  have e:(putC cs clock n L) = (cs ++ [(⟨n,L,clock⟩:CE)],clock + 1):=by simp [putC,hl]
  have h4:=Go.MapKept.run_setObj_map (P:=P) (.map ((cs ++ [(⟨n,L,clock⟩:CE)]).map CE.ent).toArray (clock + 1)) hm
  have e2:((cs.map CE.ent).toArray.push { key:=.int .i64 n,val:=secV L,born:=clock }) = ((cs ++ [(⟨n,L,clock⟩:CE)]).map CE.ent).toArray:=by
   apply Array.toList_inj.1
   simp [CE.ent]
  obtain ⟨h5,h6⟩:=hset (cs ++ [(⟨n,L,clock⟩:CE)]) (clock + 1)
  rw [e]
  refine ⟨_,?_,h5,h6,by simp⟩
  simp only [Sem.run_bind,run_underlying ht,Result.andThen_ok,h1,h2,h3,e2,h4]
 | some p=>
  obtain ⟨i,L0⟩:=p
  rw [hl] at h3
  simp only [Option.map_some] at h3
  obtain ⟨_,c,hc,hck,_⟩:=lookI_at cs n 0 i L0 hl
  simp only [Nat.sub_zero] at hc
  have e:(putC cs clock n L) = (cs.modify i (fun c=>{ c with L:=L }),clock):=by simp [putC,hl]
  have h4:=Go.MapKept.run_setObj_map (P:=P) (.map ((cs.modify i (fun c=>{ c with L:=L })).map CE.ent).toArray clock) hm
  have hgk:(((cs.map CE.ent).toArray[i]?).map (·.key)).getD (.int .i64 n) = .int .i64 n:=by
   simp [hc,CE.ent,hck]
  have hst:(Instr.keyThatStays (.int .i64 n) (.int .i64 n)).run P w = .ok (.int .i64 n) w:=by
   have:Instr.sameBits 10000 (.int .i64 n) (.int .i64 n) = true:=by simp [Instr.sameBits]
   simp [Instr.keyThatStays,this]
  have e2:((cs.map CE.ent).toArray.modify i fun e=>{ e with key:=.int .i64 n,val:=secV L }) = ((cs.modify i (fun c=>{ c with L:=L })).map CE.ent).toArray:=by
   apply Array.toList_inj.1
   apply List.ext_getElem?
   intro j
   simp only [Array.toList_modify,List.getElem?_modify,List.getElem?_map]
   by_cases hj:i = j
   ·subst hj
    simp [hc,CE.ent,hck]
   ·simp [hj]
  obtain ⟨h5,h6⟩:=hset (cs.modify i (fun c=>{ c with L:=L })) clock
  rw [e]
  refine ⟨_,?_,h5,h6,by simp⟩
  simp only [Sem.run_bind,run_underlying ht,Result.andThen_ok,h1,h2,h3,hgk,hst,e2,h4]
theorem run_newMap (w:World) (t:TypeId):∃ w',(Instr.makeMap t none).run P w = .ok (.map (some w.heap.size)) w' ∧ MapAt w' w.heap.size [] 0 ∧ Kept (fun _=>False) w w':=by
 refine ⟨_,run_makeMap t w,(heap_alloc w _).1,(Kept.refl _ w).alloc _⟩
theorem run_newRow (w:World) (t e:TypeId) (z:List Value) (n:Nat) (b:Nat) (ht:P.underlying t = some (.slice e)) (hi:(P.info? e).map (fun i=>(i.zero,i.size,i.bytes)) = some (some (.agg z.toArray),z.length,b)) (hb:(b:Int) * (n:Int) ≤ 281474976710656) (hn:(n:Int) ≤ 9223372036854775807) :
  ∃ w',(Instr.makeSlice t (.int .i64 (n:Int)) (.int .i64 (n:Int))).run P w = .ok (.slice (some ⟨w.heap.size,0,none⟩) n n) w' ∧ Blk w' w.heap.size e (madeCells z.toArray (n * z.length)).toList ∧ Kept (fun _=>False) w w':=by
 obtain ⟨inf,hi1,hi2⟩:=Option.map_eq_some_iff.1 hi
 simp only [Prod.mk.injEq] at hi2
 obtain ⟨hz,hs,hby⟩:=hi2
 have h1:=run_make (P:=P) w t e inf (.agg z.toArray) ht hi1 hz .i64 .i64 (n:Int) (n:Int) (by omega) (Int.le_refl _) (by rw [hby]; exact hb) hn
 simp only [Int.toNat_natCast,hs] at h1
 refine ⟨_,h1,?_,(Kept.refl _ w).alloc _⟩
 have h2:=Blk.new w e (madeCells (Value.agg z.toArray).cells (n * z.length)).toList
 rw [Array.toArray_toList] at h2
 exact h2
theorem run_loadFB (w:World) (t e:TypeId) (m g:Nat) (tt:TypeId) (L:List Int) (hu:P.underlying t = some (.array m e)) (hs:(P.info? t).map (·.size) = some L.length) (hB:FB w g tt L) :
  (Instr.loadAt t (.pointer (some ⟨g,0,none⟩))).run P w = .ok (secV L) w:=by
 obtain ⟨inf,hi,hz⟩:=Option.map_eq_some_iff.1 hs
 have h1:=run_loadCells_list (P:=P) (w:=w) ⟨g,0,none⟩ (intsV L) (fun j v hj=>by
  rw [add_norm,Nat.zero_add]
  simp only [intsV,List.getElem?_map,Option.map_eq_some_iff] at hj
  obtain ⟨x,hx,rfl⟩:=hj
  exact hB.cell hx)
 have hl:(intsV L).length = L.length:=by simp [intsV]
 rw [hl] at h1
 simp [Instr.loadAt,Instr.sureAddr,loadVar,isAgg,run_underlying hu,sizeOf,typeInfo,hi,hz,h1,secV]
end
theorem store_sec {P:Program} {w0 wx:World} {S:Nat → Prop} {bk:List Bk} {wn:List Wn} {sz i:Nat} {b:Bk} {t:TypeId} {L:List Int} (hm:MemOk w0 S bk wn sz wx) (hi:bk[i]? = some b) (hrw:b.rw = true) (hlen:b.cs.length = 64) (hL:L.length = 64) (hs:(P.info? t).map (·.size) = some 64) :
  ∃ w',(Instr.storeAt t (.pointer (some ⟨b.g,0,none⟩)) (secV L)).run P wx = .ok () w' ∧ sz ≤ w'.heap.size ∧ MemOk w0 S (bk.set i { b with cs:=intsV L }) wn w'.heap.size w':=by
 have hB:=hm.at_ i hi
 have hc:(secV L).cells = (intsV L).toArray:=rfl
 have hl:(intsV L).length = 64:=by rw [← hL]; simp [intsV]
 have h1:=run_storeG (P:=P) wx t b.g 0 b.t b.cs (secV L) (by rw [hc,hs]; simp [hl]) hB (by rw [hc]; simp [hl,hlen]) (by
  rw [hc]
  intro u hu
  simp only [intsV,List.mem_map] at hu
  obtain ⟨x,_,rfl⟩:=hu
  rfl)
 rw [hc] at h1
 have e:(b.cs.take 0 ++ (intsV L).toArray.toList ++ b.cs.drop (0 + (intsV L).toArray.size)) = intsV L:=by
  rw [List.drop_of_length_le (by simp [hl,hlen])]
  simp
 rw [e] at h1
 exact ⟨_,h1,hm.set1 i hi hrw (setRow_kept wx _ _) (setRow_blk hB _)⟩
section
variable {D:List Deferred} {P:Program} {n:Nat} {w0:World} {S:Nat → Prop} {ops:Array Oper} {sl0:List (Nat × Value)} {stg:List (Option Nat)} {J:Nat} {Q:Exit → Act → World → Prop}
theorem cert_frame {WP:Nat → (Act → World → Prop) → Act → World → Prop} {M X:Nat → World → Prop} {T T':Nat → Prop} {Pv:Nat → Value → World → Prop} {i:Nat} (h:CertG WP D n ops sl0 stg J M T Pv i) (hs:stgOf stg i = none) (hT:∀ x,T x → T' x) (hX:∀ j w w',X j w → Kept T w w' → X j w') :
  CertG WP D n ops sl0 stg J (fun j w=>M j w ∧ X j w) T' Pv i:=by
 intro j a w K hj hjs hc hf hk hm hK
 refine h j a w K hj hjs hc hf hk hm.1 (fun v w' hv hkk hm'=>hK v w' hv (hkk.mono (fun x _=>hT x)) ⟨hm',?_⟩)
 have:nextG stg i j = j:=by
  unfold nextG
  rw [hs]
 rw [this]
 exact hX j w w' hm.2 hkk
theorem cert_opU {vs:List (Option Value)} {C:Nat → Value → World → Prop} {M:Nat → World → Prop} {T:Nat → Prop} {i:Nat}
  (h:∀ j a w,j ≤ J → (∀ s,stgOf stg i = some s → j = s ∧ s < J) → FrOk D n (slG ops vs sl0 (needsOf ops i)) a → KnowsG ops (PvG vs C) (needsOf ops i) a w → M j w →
   ∃ sl x w',FrOk D n sl a ∧ dstAt ops sl i = some (dstOf ops i) ∧ semAt ops sl i = some (asU x) ∧ x.run P w = .ok () w' ∧ PvG vs C i undef w' ∧ Kept T w w' ∧ M (nextG stg i j) w') :
  CertG (wpOp P ops Q) D n ops sl0 stg J M T (PvG vs C) i:=by
 intro j a w K hj hjs _ hf hk hm hK
 obtain ⟨sl,x,w',hsl,hd,hx,hr,hp,hkk,hm'⟩:=h j a w hj hjs (knows_slG hf _ hk) hk hm
 unfold dstAt at hd
 unfold semAt at hx
 split at hd
 ·rename_i o ho
  simp only [ho,Option.some.injEq] at hx
  split at hd
  ·rename_i hg
   split at hd
   ·rename_i hkn
    simp only [Option.some.injEq] at hd
    have hw:Region.wanted o (yielded ops a.tmps) = true:=by simp [Region.wanted,hg]
    simp only [wpOp,ho,if_pos hw]
    refine .inl ?_
    have h5:(execOp a.eval o).run P w = .ok .skip w':=by
     rw [hsl.rho hkn,hx]
     simp only [asU,Sem.run_bind,hr,Result.andThen_ok,Sem.run_pure]
    simp only [Oper.wp,h5,Oper.upon_skip]
    rw [hd]
    exact hK undef w' hp hkk hm'
   ·cases hd
  ·cases hd
 ·cases hd
theorem holds_mixX {body:Code} {p:List Nat} {k:List KI} {st:St} {vs:List (Option Value)} (C:Nat → Value → World → Prop) (X:Nat → World → Prop) (T':Nat → Prop) (S2:Nat → Prop) {ms:List (List Bk)} (ks:List Nat) {sl':List (Nat × Value)} {bk':List Bk}
  (hS2:∀ x,S x → S2 x) (hc:isDraw (getCode body p) = true) (hmx:P.follows .mixedOrders = true) (h1:mixChk n (opsOf (getCode body p)) [] (opsOf (getCode body p)).size J stg = true)
  (hst:∀ k v w w',C k v w → Kept T' w w' → C k v w') (hX0:∀ w,MemOk w0 S st.bk st.wn st.sz w → X 0 { w with drawn:=w.drawn + 1 })
  (hcert:∀ i,i < (opsOf (getCode body p)).size → CertG (wpOp P (opsOf (getCode body p)) (sem P body Q k)) D n (opsOf (getCode body p)) (slI (opsOf (getCode body p)) st.sl i) stg J (fun j w=>MG w0 S2 ms [] st.sz j w ∧ X j w) T' (PvG vs C) i)
  (h0:ms[0]? = some st.bk) (hJ:ms[J]? = some bk')
  (hsl:keepS (slG (opsOf (getCode body p)) vs (slE (opsOf (getCode body p)) st.sl) (List.range (opsOf (getCode body p)).size)) ks = sl')
  (hh:∀ W,X J W → st.sz ≤ W.heap.size → MemOk w0 S2 bk' [] W.heap.size W → Holds D P body n W (Turned bk') Q k ⟨sl',bk',[],W.heap.size⟩):Holds D P body n w0 S Q (.code p :: k) st:=by
 intro a w hf hm
 obtain ⟨id,hc⟩:=draw_of hc
 subst hsl
 simp only [sem]
 rw [hc]
 refine wp_region_any hmx ?_
 rw [wpAny_anyG]
 have e:∀ i,(Array.replicate (opsOf (getCode body p)).size false).getD i false = false:=fun i=>by
  simp only [Array.getD]
  split
  ·simp
  ·rfl
 refine anyMixG h1 (fun k v w w' hv hk=>?_) hcert ?_ _ _ 0 a _ (by simp) ⟨hf.size,hf.df,fun q v hq _=>hf.val q v hq,fun k hk=>(by rw [e] at hk; cases hk),by simp,fun i d hi=>(by rw [e] at hi; cases hi),fun i s _=>(by rw [e]; exact ⟨fun h=>(by cases h),fun h=>(by omega)⟩),Nat.zero_le _,⟨st.bk,h0,Nat.le_of_eq hm.size.symm,rfl,hm.blk,fun b hb hr=>(hm.own b hb hr).imp_left (hS2 _),hm.nd,(hm.kept.mono (fun x _=>hS2 x)).drew,fun _ h=>by cases h⟩,hX0 w hm⟩
 ·unfold PvG at *
  split at hv
  ·exact hv
  ·exact hst _ _ _ _ hv hk
 ·intro a' w' hM hf' hk'
  obtain ⟨⟨bk,hb,hz,hM⟩,hX⟩:=hM
  rw [hJ] at hb
  cases hb
  have h2:=knows_slG hf' _ hk'
  exact hh w' hX hz hM a' w' ⟨h2.size,h2.df,fun i v hi=>h2.val i v (getS_keepS ks i v hi)⟩ hM.again
theorem holds_callW {body:Code} {p:List Nat} {i:Nat} {l:List Nat} {k:List KI} {st:St} {f:FuncId} {args:List Value} {dst:Option Nat} {ob:List Prop} {w:World} {S':Nat → Prop} {Y:Type} (v:Y → Value) (bk':Y → List Bk) (X:Y → World → Prop) (sl:Y → List (Nat × Value))
  (h:callAt P (opsOf (getCode body p)) st.sl i = some (f,args,dst,ob)) (ho:All ob) (hp:∀ y,putS n st.sl dst (v y) = some (sl y))
  (hc:∀ wx,MemOk w0 S st.bk st.wn st.sz wx → Calls P f args.toArray wx (fun e w'=>∃ y,e = .returned (v y) ∧ X y w' ∧ MemOk w S' (bk' y) [] w'.heap.size w'))
  (hh:∀ y W,X y W → MemOk w S' (bk' y) [] W.heap.size W → Holds D P body n W (Turned (bk' y)) Q (.ops p l :: k) ⟨sl y,bk' y,[],W.heap.size⟩):Holds D P body n w0 S Q (.ops p (i :: l) :: k) st:=by
 intro a wx hf hm
 simp only [sem]
 rw [wpOps_cons]
 refine callAt_wpOp h ho hf ((hc wx hm).mono fun e w' he=>?_)
 obtain ⟨y,h1,h2,h3⟩:=he
 refine ⟨v y,h1,?_⟩
 exact hh y w' h2 h3 _ _ (hf.put (hp y)) h3.again
end
end Go.Proofs.Ytpilmccjjbgmiaa
